/- Part of the proof of the law ActSets: the functions that it reaches, by contract. -/
import Derived.Sort.Walk13a
import Derived.Sort.LotD4
import Derived.Sort.LotB
import Derived.Deep.Cut
import Derived.Sort.AssemblyPlain
import Derived.Lib.BitFns
import Derived.Lib.Hide
import Derived.Sort.WalkA14
import Derived.Test.YtgelpccjdndfoaaCActSets0
set_option linter.unusedVariables false
set_option linter.unusedSimpArgs false
namespace Go.Proofs.Ytgelpccjdndfoaa.P
open Go.RowKit Go.Sort Go.Shelf Go.Lib
/-! Go's own sort at uint32: its loop and its recursion (after the kit's walk of the same code at int). -/
theorem hintZ_eq (h : Hint) : hintZ h = hintCode h := by cases h <;> rfl
theorem hintC_two {h : Hint} (e : hintCode h = 2) : h = .decreasing := by cases h <;> simp [hintCode] at e ⊢
theorem eighthU {x y p q : Nat} (h1 : q ≤ p) (h2 : y ≤ x) : decide (((x : Int) - (y : Int)) / 8 ≤ (p : Int) - (q : Int)) = decide (p - q ≥ (x - y) / 8) :=
  decide_eq_decide.2 ⟨fun h => by omega, fun h => by omega⟩
set_option maxHeartbeats 6400000 in
set_option maxRecDepth 1000000 in
theorem pdq_u32 (blk off cap : Nat) (d0 : Array Int) (w0 : World) (R : Row1 (.int .u32) w0 blk off d0) (hsz : d0.size < 4611686018427387904) : ∀ (N a b limit : Nat) (d : Array Int) (w : World), b - a < N → SW (.int .u32) w0 blk off d w → d.size = d0.size → a ≤ b → b ≤ d0.size → limit < 4611686018427387904 → Go.Sort.Below ltInt a b d →
    Calls Try.prog 62 #[.slice (some ⟨blk, off, none⟩) d0.size cap, .int .i64 a, .int .i64 b, .int .i64 limit] w fun e w' => e = .returned (.tuple #[]) ∧ SW (.int .u32) w0 blk off (pdq ltInt d a b limit true true) w' := by
  intro N
  induction N with
  | zero => intro _ _ _ _ _ h; exact absurd h (Nat.not_lt_zero _)
  | succ N ih =>
    intro a b limit d w hN hS0 hdd hab hb hlimit hBel0
    go_enter Try.func62, Try.ntmps62
    go_wp2
    go_loopg [1, 2, 3, 8, 9] (b - a) (fun k s1 s2 s3 s8 s9 wr => ∃ (a' b' lim : Nat) (wb wp : Bool) (dk : Array Int), s1 = .int .i64 a' ∧ s2 = .int .i64 b' ∧ s3 = .int .i64 lim ∧ s8 = .bool wb ∧ s9 = .bool wp ∧
      a' ≤ b' ∧ b' ≤ d0.size ∧ b' - a' ≤ k ∧ k ≤ b - a ∧ lim ≤ limit ∧ dk.size = d0.size ∧ Go.Sort.Below ltInt a' b' dk ∧ SW (.int .u32) w0 blk off dk wr ∧ pdq ltInt dk a' b' lim wb wp = pdq ltInt d a b limit true true)
    case atStart => exact ⟨a, b, limit, true, true, d, rfl, rfl, rfl, rfl, rfl, hab, hb, Nat.le_refl _, Nat.le_refl _, Nat.le_refl _, hdd, hBel0, hS0, rfl⟩
    case round =>
      obtain ⟨a', b', lim, wb, wp, dk, rfl, rfl, rfl, rfl, rfl, hab', hb', hk, hkN, hlim, hds, hBel, hAt, heq⟩ := hrel
      have A : Aside (pdq ltInt dk a' b' lim wb wp = pdq ltInt d a b limit true true) := heq
      clear heq
      by_cases h12 : b' - a' ≤ 12
      · -- 'if length <= maxInsertion'
        have h12z : (b' : Int) - (a' : Int) ≤ 12 := by omega
        have hc := insertion_u32 blk off cap a' b' d0 dk w0 wr R hds hAt hb' hsz (by omega)
        go_wp2_with (go_at_call 74; refine hc.mono ?_; rintro e w1 ⟨rfl, hw1⟩)
        (try simp only [Exit.inBlock, Exit.then]); refine bodyPost_ret (results_none rfl _ _ _) rfl ?_
        refine ⟨rfl, ?_⟩
        rw [← A.out, pdq_small h12]
        exact hw1
      · have h12z : ¬ ((b' : Int) - (a' : Int) ≤ 12) := by omega
        by_cases hl0 : lim = 0
        · -- 'if limit == 0'
          subst hl0
          have hc := heap_u32 blk off cap a' b' d0 dk w0 wr R hds hAt (by omega) hb' hsz
          go_wp2_with (go_at_call 75; refine hc.mono ?_; rintro e w1 ⟨rfl, hw1⟩)
          (try simp only [Exit.inBlock, Exit.then]); refine bodyPost_ret (results_none rfl _ _ _) rfl ?_
          refine ⟨rfl, ?_⟩
          rw [← A.out, pdq_heap h12 rfl]
          exact hw1
        · have hl0z : ¬ ((lim : Int) = 0) := by omega
          obtain ⟨s1, B1, hc1, s2, B2, hpv, s3, B3⟩ := rd_facts (limit := lim) (wb := wb) (wp := wp) swo_ltInt partialInsertionSort_holds reverseRange_holds (show a' < b' by omega) (show b' ≤ dk.size by omega) hBel
          go_upto_if 35 with fail
          go_cut [3] from 19 (fun s3 wc => s3 = .int .i64 (rd ltInt dk a' b' lim wb wp).lim ∧ SW (.int .u32) w0 blk off (rd ltInt dk a' b' lim wb wp).d1 wc)
          case first =>
            cases wb
            · obtain ⟨L, hL⟩ : ∃ L, b' = a' + L := ⟨b' - a', by omega⟩
              have hc := break_u32 blk off cap a' L d0 dk w0 wr R hds hAt (by omega) (by omega) hsz
              rw [← hL] at hc
              clear hL
              go_wp2_with (go_at_call 76; refine hc.mono ?_; rintro e w1 ⟨rfl, hw1⟩)
              go_meet
              case rel =>
                refine ⟨?_, hw1⟩
                show Value.int .i64 ((lim : Int) - 1) = Value.int .i64 ((lim - 1 : Nat) : Int)
                congr 1
                omega
            · go_wp2_with fail
              go_meet
              case rel => exact ⟨rfl, hAt⟩
          case rest =>
            obtain ⟨rfl, hAt1⟩ := hcut
            have hc17 := pivot_u32 blk off cap a' b' d0 (rd ltInt dk a' b' lim wb wp).d1 w0 wc R (s1.trans hds) hAt1 (by omega) hb' hsz
            rw [hintZ_eq] at hc17
            rw [← rd_c] at hc17
            go_upto_if 50 with (go_at_call 77; refine hc17.mono ?_; rintro e w2 ⟨rfl, hAt2⟩)
            go_cut [11, 12] from 19 (fun s11 s12 wc => s11 = .int .i64 (rd ltInt dk a' b' lim wb wp).pivot ∧ s12 = .int .i64 (hintCode (rd ltInt dk a' b' lim wb wp).hint) ∧ SW (.int .u32) w0 blk off (rd ltInt dk a' b' lim wb wp).d2 wc)
            case first =>
              by_cases hh : (rd ltInt dk a' b' lim wb wp).c.2 = .decreasing
              · have hcode : hintCode (rd ltInt dk a' b' lim wb wp).c.2 = 2 := by rw [hh]; rfl
                obtain ⟨e2, epv, eht⟩ := rd_dec hh
                have hc18 := reverse_u32 blk off cap a' b' d0 (rd ltInt dk a' b' lim wb wp).d1 w0 w2 R (s1.trans hds) hAt2 (by omega) hb' hsz
                go_wp2_with (go_at_call 78; refine hc18.mono ?_; rintro e w3 ⟨rfl, hw3⟩)
                go_meet
                case rel =>
                  refine ⟨?_, by rw [eht]; rfl, by rw [e2]; exact hw3⟩
                  rw [epv]
                  congr 1
                  omega
              · have hcode : ¬ (hintCode (rd ltInt dk a' b' lim wb wp).c.2 = 2) := fun h => hh (hintC_two h)
                obtain ⟨e2, epv, eht⟩ := rd_not hh
                go_wp2_with fail
                go_meet
                case rel => exact ⟨by rw [epv], by rw [eht], by rw [e2]; exact hAt2⟩
            case rest =>
              obtain ⟨rfl, rfl, hAt3⟩ := hcut
              go_upto_region 15 with fail
              go_cut [12, 68] from 19 (fun s12 s68 wx => s12 = .int .i64 (hintCode (rd ltInt dk a' b' lim wb wp).hint) ∧ s68 = .bool (wb && wp && decide ((rd ltInt dk a' b' lim wb wp).hint = .increasing)) ∧ wx = wc)
              case first =>
                cases wb <;> cases wp <;> cases hh3 : (rd ltInt dk a' b' lim _ _).hint <;>
                  (have hcode3 := congrArg hintCode hh3
                   simp only [hintCode] at hcode3
                   go_wp2_with fail
                   go_meet
                   exact ⟨by simp [hh3, hintCode], by simp [hh3, hintCode], rfl⟩)
              case rest =>
                obtain ⟨rfl, rfl, rfl⟩ := hcut
                go_upto_if 68 with fail
                go_cut [] from 19 (fun wx => (rd ltInt dk a' b' lim wb wp).pi.2 = false ∧ SW (.int .u32) w0 blk off (rd ltInt dk a' b' lim wb wp).pi.1 wx)
                case first =>
                  cases h68 : (wb && wp && decide ((rd ltInt dk a' b' lim wb wp).hint = .increasing))
                  · have epi := rd_pi_no h68
                    go_wp2_with fail
                    go_meet
                    case rel => exact ⟨by rw [epi], by rw [epi]; exact hAt3⟩
                  · have epi := rd_pi_yes h68
                    have hc19 := partial_u32 blk off cap a' b' d0 (rd ltInt dk a' b' lim wb wp).d2 w0 wc R (s2.trans hds) hAt3 (by omega) hb' hsz
                    rw [← epi] at hc19
                    go_wp2_with (go_at_call 79; refine hc19.mono ?_; rintro e w4 ⟨rfl, hw4, hw4s⟩)
                    all_goals first
                      | (have hp2 : (rd ltInt dk a' b' lim wb wp).pi.2 = false := by rw [epi]; assumption
                         go_meet
                         exact ⟨hp2, hw4⟩)
                      | (have hp2 : (rd ltInt dk a' b' lim wb wp).pi.2 = true := by rw [epi]; assumption
                         (try simp only [Exit.inBlock, Exit.then]); refine bodyPost_ret (results_none rfl _ _ _) rfl ?_
                         refine ⟨rfl, ?_⟩
                         rw [← A.out, pdq_done h12 hl0 hp2]
                         exact hw4)
                case rest =>
                  obtain ⟨hp2, hAt5⟩ := hcut
                  have hcw : ∀ t, t < d0.size → wc.cell? ⟨blk, off + t, none⟩ = some (.int .u32 (rd ltInt dk a' b' lim wb wp).pi.1[t]!) := fun t ht => hAt5.c1 R (s3.trans hds) t (by omega)
                  have hfw : ∀ t, t < d0.size → wc.frozen? ⟨blk, off + t, none⟩ = false := fun t ht => hAt5.f1 R (s3.trans hds) t (by omega)
                  go_upto_region 17 with fail
                  go_cut [87] from 19 (fun s87 wx => s87 = .bool (decide (a' > 0) && !ltInt (rd ltInt dk a' b' lim wb wp).pi.1[a' - 1]! (rd ltInt dk a' b' lim wb wp).pi.1[(rd ltInt dk a' b' lim wb wp).pivot]!) ∧ SW (.int .u32) w0 blk off (rd ltInt dk a' b' lim wb wp).pi.1 wx)
                  case first =>
                    rcases Nat.eq_zero_or_pos a' with ha0 | ha0
                    · have ha0z : decide ((a' : Int) > 0) = false := decide_eq_false (by omega)
                      go_big_quiet (first | (go_at_call 80; refine Calls.quiet_of_same (less_u32 _ _ _)))
                      go_wp2_with fail
                      go_meet
                      case rel => exact ⟨by simp [ha0], hAt5.drewN nq⟩
                    · have ha0z : (a' : Int) > 0 := by omega
                      go_big_quiet (first | (go_at_call 80; refine Calls.quiet_of_same (less_u32 _ _ _)))
                      go_wp2_with fail
                      go_meet
                      case rel => exact ⟨by simp [ha0], hAt5.drewN nq⟩
                  case rest =>
                    obtain ⟨rfl, hAt6⟩ := hcut
                    clear hcw hfw
                    cases h87 : (decide (a' > 0) && !ltInt (rd ltInt dk a' b' lim wb wp).pi.1[a' - 1]! (rd ltInt dk a' b' lim wb wp).pi.1[(rd ltInt dk a' b' lim wb wp).pivot]!)
                    · -- ████ 'mid, alreadyPartitioned := partitionOrdered(..)'; THE SMALLER SIDE BY A CALL OF ITSELF, the other by the next round
                      obtain ⟨mid, ap, d4, hx⟩ : ∃ mid ap d4, Sort.partition ltInt (rd ltInt dk a' b' lim wb wp).pi.1 a' b' (rd ltInt dk a' b' lim wb wp).pivot = (mid, ap, d4) := ⟨(Sort.partition ltInt (rd ltInt dk a' b' lim wb wp).pi.1 a' b' (rd ltInt dk a' b' lim wb wp).pivot).1, (Sort.partition ltInt (rd ltInt dk a' b' lim wb wp).pi.1 a' b' (rd ltInt dk a' b' lim wb wp).pivot).2.1, (Sort.partition ltInt (rd ltInt dk a' b' lim wb wp).pi.1 a' b' (rd ltInt dk a' b' lim wb wp).pivot).2.2, rfl⟩
                      obtain ⟨r1, r2, r3, r4, r5, r6, r7⟩ := round_part swo_ltInt (partition_holds ltInt) hpv.1 hpv.2 (show b' ≤ (rd ltInt dk a' b' lim wb wp).pi.1.size by omega) B3 hx
                      have hc22 := partition_u32 blk off cap a' b' (rd ltInt dk a' b' lim wb wp).pivot d0 (rd ltInt dk a' b' lim wb wp).pi.1 w0 wc R (s3.trans hds) hAt6 hpv.1 hpv.2 hb' hsz
                      rw [hx] at hc22
                      have X : Aside (Sort.partition ltInt (rd ltInt dk a' b' lim wb wp).pi.1 a' b' (rd ltInt dk a' b' lim wb wp).pivot = (mid, ap, d4)) := hx
                      clear hx
                      go_upto_if 113 with (go_at_call 82; refine hc22.mono ?_; rintro e w7 ⟨rfl, hAt7⟩)
                      have hx := X.out
                      by_cases h4 : mid - a' < b' - mid
                      · have h4z : (mid : Int) - (a' : Int) < (b' : Int) - (mid : Int) := by omega
                        have hih := ih a' mid (rd ltInt dk a' b' lim wb wp).lim d4 w7 (by omega) hAt7 (r3.trans (s3.trans hds)) (by omega) (by omega) (Nat.lt_of_le_of_lt (Nat.le_trans rd_lim_le hlim) hlimit) r4
                        obtain ⟨pL, sL⟩ := pdq_sorts ltInt swo_ltInt d4 a' mid (rd ltInt dk a' b' lim wb wp).lim true true (by omega) (by omega) r4
                        go_wp2_with (go_at_call 62; refine hih.mono ?_; rintro e w8 ⟨rfl, hw8⟩)
                        go_roundg (b' - (mid + 1))
                        case measure => omega
                        case rel =>
                          refine ⟨mid + 1, b', (rd ltInt dk a' b' lim wb wp).lim, decide (mid - a' ≥ (b' - a') / 8), ap, pdq ltInt d4 a' mid (rd ltInt dk a' b' lim wb wp).lim true true, by simp, rfl, rfl, ?_, rfl, by omega, by omega, Nat.le_refl _, by omega, Nat.le_trans rd_lim_le hlim, by rw [pL.1, r3, s3, hds], (r6 _ pL sL).1, hw8, ?_⟩
                          · exact congrArg Value.bool (eighthU (by omega) (by omega))
                          · rw [← A.out, pdq_left h12 hl0 hp2 h87 (by rw [hx]; exact ⟨r1, r2⟩) (by rw [hx]; exact h4), hx]
                      · have h4z : ¬ ((mid : Int) - (a' : Int) < (b' : Int) - (mid : Int)) := by omega
                        have hih := ih (mid + 1) b' (rd ltInt dk a' b' lim wb wp).lim d4 w7 (by omega) hAt7 (r3.trans (s3.trans hds)) (by omega) (by omega) (Nat.lt_of_le_of_lt (Nat.le_trans rd_lim_le hlim) hlimit) r5
                        obtain ⟨pL, sL⟩ := pdq_sorts ltInt swo_ltInt d4 (mid + 1) b' (rd ltInt dk a' b' lim wb wp).lim true true (by omega) (by omega) r5
                        go_wp2_with (go_at_call 62; refine hih.mono ?_; rintro e w8 ⟨rfl, hw8⟩)
                        go_roundg (mid - a')
                        case measure => omega
                        case rel =>
                          refine ⟨a', mid, (rd ltInt dk a' b' lim wb wp).lim, decide (b' - mid ≥ (b' - a') / 8), ap, pdq ltInt d4 (mid + 1) b' (rd ltInt dk a' b' lim wb wp).lim true true, rfl, rfl, rfl, ?_, rfl, by omega, by omega, Nat.le_refl _, by omega, Nat.le_trans rd_lim_le hlim, by rw [pL.1, r3, s3, hds], (r7 _ pL sL).1, hw8, ?_⟩
                          · exact congrArg Value.bool (eighthU (by omega) (by omega))
                          · rw [← A.out, pdq_right h12 hl0 hp2 h87 (by rw [hx]; exact ⟨r1, r2⟩) (by rw [hx]; exact h4), hx]
                    · -- ████ 'mid := partitionEqualOrdered(..); a = mid; continue'
                      have h87' := h87
                      simp only [Bool.and_eq_true, decide_eq_true_eq, Bool.not_eq_true'] at h87'
                      obtain ⟨mid, d4, hx⟩ : ∃ mid d4, partitionEqual ltInt (rd ltInt dk a' b' lim wb wp).pi.1 a' b' (rd ltInt dk a' b' lim wb wp).pivot = (mid, d4) := ⟨(partitionEqual ltInt (rd ltInt dk a' b' lim wb wp).pi.1 a' b' (rd ltInt dk a' b' lim wb wp).pivot).1, (partitionEqual ltInt (rd ltInt dk a' b' lim wb wp).pi.1 a' b' (rd ltInt dk a' b' lim wb wp).pivot).2, rfl⟩
                      obtain ⟨r1, r2, r3, r4, _⟩ := round_eq swo_ltInt (partitionEqual_holds ltInt) h87'.1 hpv.1 hpv.2 (show b' ≤ (rd ltInt dk a' b' lim wb wp).pi.1.size by omega) B3 h87'.2 hx
                      have hc21 := partEq_u32 blk off cap a' b' (rd ltInt dk a' b' lim wb wp).pivot d0 (rd ltInt dk a' b' lim wb wp).pi.1 w0 wc R (s3.trans hds) hAt6 hpv.1 hpv.2 hb' hsz
                      rw [hx] at hc21
                      have X : Aside (partitionEqual ltInt (rd ltInt dk a' b' lim wb wp).pi.1 a' b' (rd ltInt dk a' b' lim wb wp).pivot = (mid, d4)) := hx
                      clear hx
                      go_wp2_with (go_at_call 81; refine hc21.mono ?_; rintro e w7 ⟨rfl, hw7⟩)
                      go_roundg (b' - mid)
                      case measure => omega
                      case rel =>
                        have hx := X.out
                        exact ⟨mid, b', (rd ltInt dk a' b' lim wb wp).lim, wb, wp, d4, rfl, rfl, rfl, rfl, rfl, r2, hb', Nat.le_refl _, by omega, Nat.le_trans rd_lim_le hlim, by rw [r3, s3, hds], r4, hw7, by rw [← A.out, pdq_eq h12 hl0 hp2 h87 (by rw [hx]; exact ⟨r1, r2⟩), hx]⟩

end Go.Proofs.Ytgelpccjdndfoaa.P
namespace Go.Proofs.Ytgelpccjdndfoaa.P
open Go.Sort
/-! A list of numbers, sorted: one by one laid where it belongs. -/
def insU (x : Int) : List Int → List Int
  | [] => [x]
  | y :: s => if x ≤ y then x :: y :: s else y :: insU x s
def sortU : List Int → List Int
  | [] => []
  | x :: s => insU x (sortU s)
theorem insU_perm (x : Int) : ∀ l, (insU x l).Perm (x :: l)
  | [] => List.Perm.refl _
  | y :: s => by
    unfold insU
    split
    · exact List.Perm.refl _
    · exact ((insU_perm x s).cons y).trans (List.Perm.swap x y s)
theorem insU_pair (x : Int) : ∀ l, l.Pairwise (fun a b : Int => a ≤ b) → (insU x l).Pairwise (fun a b : Int => a ≤ b)
  | [], _ => by simp [insU]
  | y :: s, h => by
    rw [List.pairwise_cons] at h
    obtain ⟨h1, h2⟩ := h
    unfold insU
    split
    · rename_i hxy
      rw [List.pairwise_cons]
      refine ⟨?_, List.pairwise_cons.2 ⟨h1, h2⟩⟩
      intro a ha
      rcases List.mem_cons.1 ha with rfl | ha
      · exact hxy
      · exact Int.le_trans hxy (h1 a ha)
    · rename_i hxy
      rw [List.pairwise_cons]
      refine ⟨?_, insU_pair x s h2⟩
      intro a ha
      rcases List.mem_cons.1 ((insU_perm x s).mem_iff.1 ha) with rfl | ha
      · omega
      · exact h1 a ha
theorem sortU_perm : ∀ l, (sortU l).Perm l
  | [] => List.Perm.refl _
  | x :: s => (insU_perm x (sortU s)).trans ((sortU_perm s).cons x)
theorem sortU_pair : ∀ l, (sortU l).Pairwise (fun a b : Int => a ≤ b)
  | [] => List.Pairwise.nil
  | x :: s => insU_pair x _ (sortU_pair s)
theorem sortU_len (l : List Int) : (sortU l).length = l.length := (sortU_perm l).length_eq
theorem sortU_mem (l : List Int) (x : Int) : x ∈ sortU l ↔ x ∈ l := (sortU_perm l).mem_iff
theorem pair_unique (l r : List Int) (h : l.Perm r) (h1 : l.Pairwise (fun a b : Int => a ≤ b)) (h2 : r.Pairwise (fun a b : Int => a ≤ b)) : l = r :=
  List.Perm.eq_of_pairwise (le := fun a b : Int => a ≤ b) (fun a b _ _ x y => Int.le_antisymm x y) h1 h2 h
theorem sortU_merge (l : List Int) : l.mergeSort (fun x y => decide (x ≤ y)) = sortU l := by
  refine pair_unique _ _ ((List.mergeSort_perm _ _).trans (sortU_perm l).symm) ?_ (sortU_pair l)
  have h := List.pairwise_mergeSort (le := fun x y : Int => decide (x ≤ y)) (fun a b c h1 h2 => by simp only [decide_eq_true_eq] at *; omega) (fun a b => by by_cases h : a ≤ b; simp [h]; simp [h]; omega) l
  exact h.imp (fun h => by simpa using h)
theorem sort_arr (l : List Int) : Go.Sort.sort ltInt l.toArray = (sortU l).toArray := by
  have h := sortInt l
  rw [sortU_merge] at h
  rw [← h]
end Go.Proofs.Ytgelpccjdndfoaa.P
namespace Go.Proofs.Ytgelpccjdndfoaa.P
open Go.RowKit Go.Proofs.YtgelpccjdndfoaaW.PrintWords Go.Proofs.YtgelpccjdndfoaaW.PrintLast Go.Proofs.YtgelpccjdndfoaaW.PrintMore Go.Lib Go.Shelf Go.Sort
/-! Go's own sort of a slice of uint32, whatever its length. -/
def lay_bitsLen_ren : Go.Shelf.Ren := ⟨fun | 15 => 63 | 28 => 83 | 29 => 84 | n => n, fun | 39 => 104 | 3 => 3 | 53 => 22 | 55 => 122 | 4 => 4 | 5 => 5 | 9 => 9 | n => n, fun n => n⟩
theorem lay_bitsLen : SlLaysF0.n15 Try.prog lay_bitsLen_ren := {
  mixed := by kernel_rfl,
  f15 := Try.func63.trans (congrArg some (by kernel_rfl)),
  f28 := Try.func83.trans (congrArg some (by kernel_rfl)),
  f29 := Try.func84.trans (congrArg some (by kernel_rfl)),
  t3 := Try.underlying3,
  a3 := Try.isAgg3,
  z3 := Try.sizeOf3,
  v3 := Try.zeroValue3,
  t4 := Try.underlying4,
  a4 := Try.isAgg4,
  z4 := Try.sizeOf4,
  v4 := Try.zeroValue4,
  t5 := Try.underlying5,
  a5 := Try.isAgg5,
  z5 := Try.sizeOf5,
  v5 := Try.zeroValue5,
  t9 := Try.underlying9,
  a9 := Try.isAgg9,
  z9 := Try.sizeOf9,
  v9 := Try.zeroValue9,
  t39 := Try.underlying104,
  a39 := Try.isAgg104,
  z39 := Try.sizeOf104,
  v39 := Try.zeroValue104,
  t53 := Try.underlying22,
  a53 := Try.isAgg22,
  z53 := Try.sizeOf22,
  v53 := Try.zeroValue22,
  t55 := Try.underlying122,
  a55 := Try.isAgg122,
  z55 := Try.sizeOf122,
  v55 := Try.zeroValue122 }

def Sort_u32.f (k : Nat) (l0 : List Int) : Option (List Int) := if l0.length < 4611686018427387904 then some (sortU l0) else none
theorem Sort_u32.mono : ∀ a0 k, LeO (Sort_u32.f k a0) (Sort_u32.f (k + 1) a0) := fun a0 k r h => h
theorem bits_len (n : Nat) (hn : n < 4611686018427387904) (W : World) : Calls Try.prog 63 #[.int .u64 (n : Int)] W fun e w' => e = .returned (.int .i64 (bitsLen n : Nat)) ∧ w' = W := by
  have h := Any.bits_Len (SlLaysF0.n15.bits (P := Try.prog) (ρ := lay_bitsLen_ren) lay_bitsLen) (n : Int) W (by omega) (by omega)
  rwa [Int.toNat_natCast, bitLen_eq _ (by omega)] at h
theorem ins_nil (w : World) : Calls Try.prog 74 #[.slice none 0 0, .int .i64 0, .int .i64 0] w fun e w' => e = .returned (.tuple #[]) ∧ ∃ q, w' = w.drewN q := by
  go_enter Try.func74, Try.ntmps74
  go_wp2
  refine wp_loop_rounds 1 ?_
  rw [rounds_succ]
  go_wp2
  go_end0
  exact ⟨rfl, 0, rfl⟩
theorem pdq_nil (w : World) : Calls Try.prog 62 #[.slice none 0 0, .int .i64 0, .int .i64 0, .int .i64 0] w fun e w' => e = .returned (.tuple #[]) ∧ ∃ q, w' = w.drewN q := by
  go_enter Try.func62, Try.ntmps62
  go_wp2
  refine wp_loop_rounds 1 ?_
  rw [rounds_succ]
  go_wp2_with (first | (go_at_call 74; refine (ins_nil _).mono ?_; rintro e w1 ⟨rfl, q, rfl⟩))
  refine bodyPost_ret (results_none rfl _ _ _) rfl ?_
  exact ⟨rfl, q, rfl⟩
theorem sort_nil (w : World) : Calls Try.prog 42 #[.slice none 0 0] w fun e w' => e = .returned (.tuple #[]) ∧ ∃ q, w' = w.drewN q := by
  have HBL := Go.Lib.hid (bits_len 0 (by omega) w)
  go_enter Try.func42, Try.ntmps42
  go_wp2_with (first | (go_at_call 63; refine HBL.out.mono ?_; rintro e w1 ⟨rfl, rfl⟩) | (go_at_call 62; refine (pdq_nil _).mono ?_; rintro e w1 ⟨rfl, q, rfl⟩))
  go_end0
  exact ⟨rfl, q, rfl⟩
theorem sort_row (blk off cap : Nat) (l : List Int) (w : World) (hH : Holds (.int .u32) w blk off l.toArray) (hblk : blk < w.heap.size) (hsz : l.length < 4611686018427387904) :
    Calls Try.prog 42 #[.slice (some ⟨blk, off, none⟩) l.length cap] w fun e w' => e = .returned (.tuple #[]) ∧ SW (.int .u32) w blk off (sortU l).toArray w' := by
  have hlim : bitsLen l.length < 4611686018427387904 := Nat.lt_of_le_of_lt ((bitsLen_le_iff l.length 62).2 (by omega)) (by omega)
  have K := pdq_u32 blk off cap l.toArray w (row_u32 hH hblk) (by simpa using hsz) (l.length + 1) 0 l.length (bitsLen l.length) l.toArray w (by omega) (SW.start hH) rfl (Nat.zero_le _) (by simp) hlim (Or.inl rfl)
  have e : pdq ltInt l.toArray 0 l.length (bitsLen l.length) true true = (sortU l).toArray := by
    rw [← sort_arr l]
    unfold Go.Sort.sort
    simp
  rw [e] at K
  simp only [List.size_toArray] at K
  have HP := Go.Lib.hid K
  have HBL := Go.Lib.hid (bits_len l.length hsz w)
  have wrp : IntKind.u64.wrap (l.length : Int) = l.length := by simp [IntKind.wrap, IntKind.bits, IntKind.signed]; omega
  clear K e hlim hH hblk
  go_enter Try.func42, Try.ntmps42
  go_wp2_with (first | (go_at_call 63; refine HBL.out.mono ?_; rintro e w1 ⟨rfl, rfl⟩) | (go_at_call 62; refine HP.out.mono ?_; rintro e w1 ⟨rfl, h1⟩; have H1 := Go.Lib.hid h1; clear h1))
  go_end0
  exact ⟨rfl, H1.out⟩
theorem Sort_u32.calls (k : Nat) (P0_ : Nat → Prop) (u9000_ : Value) (l0 : List Int) (r : List Int) (w0 w : World) (hB : Below w0.heap.size w0 w) (ho0 : Kd.R (Kd.int .u32) 22 w w0.heap.size P0_ u9000_ l0) (h : Sort_u32.f k l0 = some r) :
    Calls Try.prog 42 #[u9000_] w fun e w' => e = .returned (.tuple #[]) ∧ Kd.R (Kd.int .u32) 22 w' w0.heap.size (fun k_ => (P0_ k_ ∨ w.heap.size ≤ k_)) u9000_ r ∧ Below w0.heap.size w0 w' ∧ Kept w w' (fun k_ => P0_ k_) := by
  unfold Sort_u32.f at h
  by_cases hl : l0.length < 4611686018427387904
  · rw [if_pos hl] at h
    have hr := Option.some.inj h
    clear h
    rcases bridge_down (d := Kd.int .u32) (enc := fun x : Int => [.int .u32 x]) (fun h => h) (fun _ => rfl) (by decide) ho0 with ⟨rfl, rfl⟩ | ⟨g, cap, cur, rfl, hbase, hb, hnc, hcm, hcs, hok, hH⟩
    · have hrn : r = [] := by rw [← hr]; rfl
      subst hrn
      refine (sort_nil w).mono ?_
      rintro e w' ⟨rfl, q, rfl⟩
      exact ⟨rfl, Kd.R_nil _ _ _ _ _, ⟨hB.os, hB.tape, hB.output, hB.size, hB.block⟩, Kept.refl _ _⟩
    · refine (sort_row g 0 cap l0 w (holds_one _ _ _ _ _ hH) (blk_lt hb) hl).mono ?_
      rintro e w' ⟨rfl, m, os, rfl⟩
      rw [hr]
      have hyl : r.length = l0.length := by rw [← hr]; exact sortU_len l0
      have hup := bridge_up (d := Kd.int .u32) (enc := fun x : Int => [.int .u32 x]) (ys := r) (fun _ _ _ _ => rfl) (fun _ => rfl) (by decide) hB hbase hb hyl hnc hcm hcs hok m os
      rw [show (Kd.int .u32).sz = 1 from rfl, ← putRow_one] at hup
      exact ⟨rfl, hup⟩
  · rw [if_neg hl] at h
    exact absurd h (by simp)
end Go.Proofs.Ytgelpccjdndfoaa.P
namespace Go.Proofs.Ytgelpccjdndfoaa.P
open Go.RowKit Go.Proofs.YtgelpccjdndfoaaW.PrintWords Go.Proofs.YtgelpccjdndfoaaW.PrintLast Go.Proofs.YtgelpccjdndfoaaW.PrintMore
attribute [local go_sem] max2_int min2_int max_two min_two max_three min_three max_four min_four
/-! ### act_rising: function 28 -/
def q7z.f (k : Nat) (l0 : List Int) : Option (List Int) := (Sort_u32.f k l0).bind fun t1 => ((Compact_u32.f t1).bind fun t2 => (some t2))
theorem q7z.mono : ∀ a0 k, LeO (q7z.f k a0) (q7z.f (k + 1) a0) := by
 intro a0 k
 unfold q7z.f
 repeat' first
   | (with_reducible exact Sort_u32.mono _ _)
   | (with_reducible exact LeO.refl _)
   | (with_reducible exact LeO.none _)
   | (with_reducible refine LeO.ite ?_ ?_)
   | (with_reducible refine LeO.bind ?_ (fun _ => ?_))
   | exact Sort_u32.mono _ _
   | exact LeO.none _
   | refine LeO.ite ?_ ?_
   | refine LeO.bind ?_ (fun _ => ?_)
set_option maxHeartbeats 8000000 in
set_option maxRecDepth 100000 in
theorem q7z.calls (k : Nat) (P0_ : Nat → Prop) (u9000_ : Value) (l0 : List Int) (r : List Int) (w0 w : World) (hB : Below w0.heap.size w0 w) (ho0 : Kd.R (Kd.int .u32) 22 w w0.heap.size P0_ u9000_ l0) (h : q7z.f k l0 = some r) :
  Calls Try.prog 28 #[u9000_] w fun e w' => ∃ v0_ : Value, e = .returned (v0_) ∧ Kd.R (Kd.int .u32) 22 w' w0.heap.size (fun k_ => (P0_ k_ ∨ w.heap.size ≤ k_)) v0_ r ∧ Below w0.heap.size w0 w' ∧ Kept w w' (fun k_ => P0_ k_) := by
 have HO0 := Aside0.mk (show Kd.R (Kd.int .u32) 22 w w0.heap.size (fun k_ => (P0_ k_ ∨ w.heap.size ≤ k_)) u9000_ l0 from Kd.R_mono ho0 (fun k_ hk => (.inl hk)))
 have HK := Aside0.mk (Kept.refl w (fun k_ => P0_ k_))
 have HW0 := Aside0.mk hB.size
 have HB := Aside0.mk hB
 clear hB
 have H : ((Sort_u32.f k l0).bind fun t1 => ((Compact_u32.f t1).bind fun t2 => (some t2))) = some r := h
 clear h
 replace H := Option.bind_eq_some_iff.mp H
 obtain ⟨t1, A20, H⟩ := H
 replace H : ((Compact_u32.f t1).bind fun t2 => (some t2)) = some r := H
 have A2 := Aside0.mk A20
 clear A20
 replace H := Option.bind_eq_some_iff.mp H
 obtain ⟨t2, A30, H⟩ := H
 replace H : (some t2) = some r := H
 have A3 := Aside0.mk A30
 clear A30
 obtain rfl := Option.some.inj H
 obtain ⟨Ao4, co4, eo4⟩ := Kd.R_slice HO0.out
 subst eo4
 go_enter Try.func28, Try.ntmps28
 go_wp2_with (first | ((with_reducible refine gate_callee (f := 42) rfl ?_); refine goesL_ (some 4) rfl rfl Try.func42 (by kernel_rfl) rfl #[.slice Ao4 l0.length co4] rfl (by (try simp only [List.map_toArray, List.map_cons, List.map_nil]); first | done | rfl | (simp only [List.length_drop, List.length_take]; rfl)) ?_; (with_reducible refine (Sort_u32.calls k (fun k_ => some k_ = (.slice Ao4 l0.length co4 : Value).ownBlock) (.slice Ao4 l0.length co4) l0 t1 w0 _ ?side1 ?side2 A2.out).mono ?_); (case side1 => exact hbW HB); (case side2 => exact Kd.R_tight rfl HO0.out); rintro e w5 ⟨rfl, hy0, hb, hkp⟩; refine ⟨_, rfl, ?_⟩; have n0_ := Aside0.mk (Kd.R_reok rfl hy0 (fun k_ e_ => HO0.out.1 k_ e_)); have n1_ := Aside0.mk (Kept.then_ (S := (fun k_ => P0_ k_)) (by repeat (first | (with_reducible first | exact HK.out | apply Kept.alloc | apply Kept.drewN | apply Kept.drew) | exact HK.out)) hkp (fun k_ hs_ => (fun e_ => (HO0.out.1 k_ e_.symm)) hs_)); have n2_ := Aside0.mk (hb); clear HO0; clear HK; clear HB; have HO0 := n0_; have HK := n1_; have HB := n2_; clear n0_ n1_ n2_; (try clear hb); (try clear hkp); (try clear hy0)) | ((with_reducible refine gate_callee (f := 43) rfl ?_); refine goesL_ (some 6) rfl rfl Try.func43 (by kernel_rfl) rfl #[.slice Ao4 l0.length co4] rfl (by (try simp only [List.map_toArray, List.map_cons, List.map_nil]); first | done | rfl | (simp only [List.length_drop, List.length_take]; rfl)) ?_; (with_reducible refine (Compact_u32.calls (fun k_ => some k_ = (.slice Ao4 l0.length co4 : Value).ownBlock) (.slice Ao4 l0.length co4) t1 t2 w0 _ ?side1 ?side2 A3.out).mono ?_); (case side1 => exact hbW HB); (case side2 => exact Kd.R_tight rfl HO0.out); rintro e w6 ⟨v3, rfl, ho0, hb, hkp⟩; refine ⟨_, rfl, ?_⟩; have n0_ := Aside0.mk (Kd.R_mono (ok' := fun k_ => (P0_ k_ ∨ w.heap.size ≤ k_)) ho0 (fun k_ hk_ => Or.elim hk_ (fun hs_ => (HO0.out.1 k_ (hs_).symm)) (fun hn_ => (.inr (Nat.le_trans (by first | exact HK.out.1 | exact (show Kept w _ (fun k_ => P0_ k_) from by repeat (first | (with_reducible first | exact HK.out | apply Kept.alloc | apply Kept.drewN | apply Kept.drew) | exact HK.out)).1) hn_))))); have n1_ := Aside0.mk (Kept.then_ (S := (fun k_ => P0_ k_)) (by repeat (first | (with_reducible first | exact HK.out | apply Kept.alloc | apply Kept.drewN | apply Kept.drew) | exact HK.out)) hkp (fun k_ hs_ => (fun e_ => (HO0.out.1 k_ e_.symm)) hs_)); have n2_ := Aside0.mk (hb); clear HK; clear HB; clear HO0; have HO4 := n0_; have HK := n1_; have HB := n2_; clear n0_ n1_ n2_; (try clear hb); (try clear hkp); (try clear ho0)))
 go_ret
 exact ⟨_, by first | rfl | (simp [errW_none, errW_some] <;> rfl) | (simp [*, errW_none, errW_some] <;> rfl), by (with_reducible repeat (first | apply Kd.R_alloc | apply Kd.R_drewN | apply Kd.R_drew)); exact HO4.out, hbW HB, by repeat (first | (with_reducible first | exact HK.out | apply Kept.alloc | apply Kept.drewN | apply Kept.drew) | exact HK.out)⟩

/-! ### act_Do: function 13 -/
def q8z.f (k : Nat) (a0_0 : Int) (a0_1 : Int) (l0_2 : List Int) (l0_3 : List (S53)) (a1_0 : Int) (a1_1 : Int) (l1_2 : List Int) (l1_3 : List Int) (a1_4 : Int) (a1_5 : Int) (a1_6 : Int) (a1_7 : Int) : Option (Int × Int × List Int × List Int × Int × Int × Int × Int) := (q5z.f a1_0 a1_1 l1_2 l1_3 a1_4 a1_5 a1_6 a1_7).bind fun bt4 => ((q4z.f k a0_0 a0_1 l0_2 l0_3).bind fun t16 => (if t16 = true then (if a0_0 = 1 then (some (bt4.1, bt4.2.1, bt4.2.2.1, bt4.2.2.2.1, a0_1, bt4.2.2.2.2.2.1, bt4.2.2.2.2.2.2.1, bt4.2.2.2.2.2.2.2)) else (if a0_0 = 2 then (some (bt4.1, bt4.2.1, bt4.2.2.1, bt4.2.2.2.1, bt4.2.2.2.2.1, a0_1, bt4.2.2.2.2.2.2.1, bt4.2.2.2.2.2.2.2)) else (if a0_0 = 3 then (some (bt4.1, bt4.2.1, bt4.2.2.1, bt4.2.2.2.1, bt4.2.2.2.2.1, bt4.2.2.2.2.2.1, wrap64 (a0_1), bt4.2.2.2.2.2.2.2)) else (if a0_0 = 4 then (some (bt4.1, bt4.2.1, bt4.2.2.1, bt4.2.2.2.1, bt4.2.2.2.2.1, bt4.2.2.2.2.2.1, bt4.2.2.2.2.2.2.1, a0_1)) else (if a0_0 = 5 then ((q6z.f (([l0_2, bt4.2.2.1] : List (List Int)))).bind fun t20 => (some (bt4.1, bt4.2.1, t20, bt4.2.2.2.1, bt4.2.2.2.2.1, bt4.2.2.2.2.2.1, bt4.2.2.2.2.2.2.1, bt4.2.2.2.2.2.2.2))) else (if a0_0 = 6 then ((q6z.f (([bt4.2.2.2.1, l0_2] : List (List Int)))).bind fun t26 => ((q7z.f k t26).bind fun t29 => (some (bt4.1, bt4.2.1, bt4.2.2.1, t29, bt4.2.2.2.2.1, bt4.2.2.2.2.2.1, bt4.2.2.2.2.2.2.1, bt4.2.2.2.2.2.2.2)))) else (if a0_0 = 7 then ((q6z.f (([l0_2] : List (List Int)))).bind fun t35 => ((q7z.f k t35).bind fun t38 => (some (bt4.1, bt4.2.1, bt4.2.2.1, t38, bt4.2.2.2.2.1, bt4.2.2.2.2.2.1, bt4.2.2.2.2.2.2.1, bt4.2.2.2.2.2.2.2)))) else (if a0_0 = 8 then ((act_del.f bt4.2.2.2.1 l0_3).bind fun t41 => ((q7z.f k t41).bind fun t44 => (some (bt4.1, bt4.2.1, bt4.2.2.1, t44, bt4.2.2.2.2.1, bt4.2.2.2.2.2.1, bt4.2.2.2.2.2.2.1, bt4.2.2.2.2.2.2.2)))) else (some (bt4.1, bt4.2.1, bt4.2.2.1, bt4.2.2.2.1, bt4.2.2.2.2.1, bt4.2.2.2.2.2.1, bt4.2.2.2.2.2.2.1, bt4.2.2.2.2.2.2.2)))))))))) else (some (bt4.1, bt4.2.1, bt4.2.2.1, bt4.2.2.2.1, bt4.2.2.2.2.1, bt4.2.2.2.2.2.1, bt4.2.2.2.2.2.2.1, bt4.2.2.2.2.2.2.2))))
theorem q8z.mono : ∀ a0 a1 a2 a3 a4 a5 a6 a7 a8 a9 a10 a11 k, LeO (q8z.f k a0 a1 a2 a3 a4 a5 a6 a7 a8 a9 a10 a11) (q8z.f (k + 1) a0 a1 a2 a3 a4 a5 a6 a7 a8 a9 a10 a11) := by
 intro a0 a1 a2 a3 a4 a5 a6 a7 a8 a9 a10 a11 k
 unfold q8z.f
 repeat' first
   | (with_reducible exact q4z.mono _ _ _ _ _)
   | (with_reducible exact q7z.mono _ _)
   | (with_reducible exact LeO.refl _)
   | (with_reducible exact LeO.none _)
   | (with_reducible refine LeO.ite ?_ ?_)
   | (with_reducible refine LeO.bind ?_ (fun _ => ?_))
   | exact q4z.mono _ _ _ _ _
   | exact q7z.mono _ _
   | exact LeO.none _
   | refine LeO.ite ?_ ?_
   | refine LeO.bind ?_ (fun _ => ?_)
set_option maxHeartbeats 8000000 in
set_option maxRecDepth 100000 in
theorem q8z.calls (k : Nat) (a0_0 : Int) (a0_1 : Int) (P0_2_ : Nat → Prop) (A0_2 : Option Addr) (c0_2 : Nat) (l0_2 : List Int) (A0_3 : Option Addr) (c0_3 : Nat) (l0_3 : List (S53)) (a1_0 : Int) (a1_1 : Int) (A1_2 : Option Addr) (c1_2 : Nat) (l1_2 : List Int) (A1_3 : Option Addr) (c1_3 : Nat) (l1_3 : List Int) (a1_4 : Int) (a1_5 : Int) (a1_6 : Int) (a1_7 : Int) (r1 : Int) (r2 : Int) (r3 : List Int) (r4 : List Int) (r5 : Int) (r6 : Int) (r7 : Int) (r8 : Int) (w : World) (hs0_2 : Kd.V (Kd.int .u32) 22 w w.heap.size (fun k_ => P0_2_ k_) (.slice A0_2 l0_2.length c0_2) l0_2) (hr0_3 : Kd.C k53 w A0_3 l0_3.length l0_3) (hc0_3 : l0_3.length ≤ c0_3) (hr1_2 : Kd.C (Kd.int .u32) w A1_2 l1_2.length l1_2) (hc1_2 : l1_2.length ≤ c1_2) (hr1_3 : Kd.C (Kd.int .u32) w A1_3 l1_3.length l1_3) (hc1_3 : l1_3.length ≤ c1_3) (h : q8z.f k a0_0 a0_1 l0_2 l0_3 a1_0 a1_1 l1_2 l1_3 a1_4 a1_5 a1_6 a1_7 = some (r1, r2, r3, r4, r5, r6, r7, r8)) :
  Calls Try.prog 13 #[.agg #[.int .i64 a0_0, .int .u32 a0_1, .slice A0_2 l0_2.length c0_2, .slice A0_3 l0_3.length c0_3], .agg #[.int .u32 a1_0, .int .i64 a1_1, .slice A1_2 l1_2.length c1_2, .slice A1_3 l1_3.length c1_3, .int .u32 a1_4, .int .u32 a1_5, .int .i64 a1_6, .int .u32 a1_7]] w fun e w' => ∃ v2_ v3_ : Value, e = .returned (.agg #[.int .u32 r1, .int .i64 r2, v2_, v3_, .int .u32 r5, .int .u32 r6, .int .i64 r7, .int .u32 r8]) ∧ Kd.R (Kd.int .u32) 22 w' w.heap.size (fun k_ => (w.heap.size ≤ k_) ∧ some k_ ≠ (v3_ : Value).ownBlock) v2_ r3 ∧ Kd.R (Kd.int .u32) 22 w' w.heap.size (fun k_ => (w.heap.size ≤ k_) ∧ some k_ ≠ (v2_ : Value).ownBlock) v3_ r4 ∧ Below w.heap.size w w' := by
 have hu26 := Try.underlying26
 have hu30 := Try.underlying30
 have HO0_2 := Aside0.mk (show Kd.V (Kd.int .u32) 22 w w.heap.size (fun k_ => (P0_2_ k_ ∨ w.heap.size ≤ k_)) (.slice A0_2 l0_2.length c0_2) l0_2 from Kd.V_mono hs0_2 (fun k_ hk => .inl hk))
 have HR0_3 := Aside0.mk hr0_3
 have HC0_3 := Aside0.mk hc0_3
 clear hr0_3 hc0_3
 have HR1_2 := Aside0.mk hr1_2
 have HC1_2 := Aside0.mk hc1_2
 clear hr1_2 hc1_2
 have HR1_3 := Aside0.mk hr1_3
 have HC1_3 := Aside0.mk hc1_3
 clear hr1_3 hc1_3
 have HB := Aside0.mk (Below.refl w.heap.size w)
 have H : ((q5z.f a1_0 a1_1 l1_2 l1_3 a1_4 a1_5 a1_6 a1_7).bind fun bt4 => ((q4z.f k a0_0 a0_1 l0_2 l0_3).bind fun t16 => (if t16 = true then (if a0_0 = 1 then (some (bt4.1, bt4.2.1, bt4.2.2.1, bt4.2.2.2.1, a0_1, bt4.2.2.2.2.2.1, bt4.2.2.2.2.2.2.1, bt4.2.2.2.2.2.2.2)) else (if a0_0 = 2 then (some (bt4.1, bt4.2.1, bt4.2.2.1, bt4.2.2.2.1, bt4.2.2.2.2.1, a0_1, bt4.2.2.2.2.2.2.1, bt4.2.2.2.2.2.2.2)) else (if a0_0 = 3 then (some (bt4.1, bt4.2.1, bt4.2.2.1, bt4.2.2.2.1, bt4.2.2.2.2.1, bt4.2.2.2.2.2.1, wrap64 (a0_1), bt4.2.2.2.2.2.2.2)) else (if a0_0 = 4 then (some (bt4.1, bt4.2.1, bt4.2.2.1, bt4.2.2.2.1, bt4.2.2.2.2.1, bt4.2.2.2.2.2.1, bt4.2.2.2.2.2.2.1, a0_1)) else (if a0_0 = 5 then ((q6z.f (([l0_2, bt4.2.2.1] : List (List Int)))).bind fun t20 => (some (bt4.1, bt4.2.1, t20, bt4.2.2.2.1, bt4.2.2.2.2.1, bt4.2.2.2.2.2.1, bt4.2.2.2.2.2.2.1, bt4.2.2.2.2.2.2.2))) else (if a0_0 = 6 then ((q6z.f (([bt4.2.2.2.1, l0_2] : List (List Int)))).bind fun t26 => ((q7z.f k t26).bind fun t29 => (some (bt4.1, bt4.2.1, bt4.2.2.1, t29, bt4.2.2.2.2.1, bt4.2.2.2.2.2.1, bt4.2.2.2.2.2.2.1, bt4.2.2.2.2.2.2.2)))) else (if a0_0 = 7 then ((q6z.f (([l0_2] : List (List Int)))).bind fun t35 => ((q7z.f k t35).bind fun t38 => (some (bt4.1, bt4.2.1, bt4.2.2.1, t38, bt4.2.2.2.2.1, bt4.2.2.2.2.2.1, bt4.2.2.2.2.2.2.1, bt4.2.2.2.2.2.2.2)))) else (if a0_0 = 8 then ((act_del.f bt4.2.2.2.1 l0_3).bind fun t41 => ((q7z.f k t41).bind fun t44 => (some (bt4.1, bt4.2.1, bt4.2.2.1, t44, bt4.2.2.2.2.1, bt4.2.2.2.2.2.1, bt4.2.2.2.2.2.2.1, bt4.2.2.2.2.2.2.2)))) else (some (bt4.1, bt4.2.1, bt4.2.2.1, bt4.2.2.2.1, bt4.2.2.2.2.1, bt4.2.2.2.2.2.1, bt4.2.2.2.2.2.2.1, bt4.2.2.2.2.2.2.2)))))))))) else (some (bt4.1, bt4.2.1, bt4.2.2.1, bt4.2.2.2.1, bt4.2.2.2.2.1, bt4.2.2.2.2.2.1, bt4.2.2.2.2.2.2.1, bt4.2.2.2.2.2.2.2))))) = some (r1, r2, r3, r4, r5, r6, r7, r8) := h
 clear h
 replace H := Option.bind_eq_some_iff.mp H
 obtain ⟨⟨t4, t5, t6, t9, t12, t13, t14, t15⟩, A30, H⟩ := H
 replace H : ((q4z.f k a0_0 a0_1 l0_2 l0_3).bind fun t16 => (if t16 = true then (if a0_0 = 1 then (some (t4, t5, t6, t9, a0_1, t13, t14, t15)) else (if a0_0 = 2 then (some (t4, t5, t6, t9, t12, a0_1, t14, t15)) else (if a0_0 = 3 then (some (t4, t5, t6, t9, t12, t13, wrap64 (a0_1), t15)) else (if a0_0 = 4 then (some (t4, t5, t6, t9, t12, t13, t14, a0_1)) else (if a0_0 = 5 then ((q6z.f (([l0_2, t6] : List (List Int)))).bind fun t20 => (some (t4, t5, t20, t9, t12, t13, t14, t15))) else (if a0_0 = 6 then ((q6z.f (([t9, l0_2] : List (List Int)))).bind fun t26 => ((q7z.f k t26).bind fun t29 => (some (t4, t5, t6, t29, t12, t13, t14, t15)))) else (if a0_0 = 7 then ((q6z.f (([l0_2] : List (List Int)))).bind fun t35 => ((q7z.f k t35).bind fun t38 => (some (t4, t5, t6, t38, t12, t13, t14, t15)))) else (if a0_0 = 8 then ((act_del.f t9 l0_3).bind fun t41 => ((q7z.f k t41).bind fun t44 => (some (t4, t5, t6, t44, t12, t13, t14, t15)))) else (some (t4, t5, t6, t9, t12, t13, t14, t15)))))))))) else (some (t4, t5, t6, t9, t12, t13, t14, t15)))) = some (r1, r2, r3, r4, r5, r6, r7, r8) := H
 have A3 := Aside0.mk A30
 clear A30
 replace H := Option.bind_eq_some_iff.mp H
 obtain ⟨t16, A40, H⟩ := H
 replace H : (if t16 = true then (if a0_0 = 1 then (some (t4, t5, t6, t9, a0_1, t13, t14, t15)) else (if a0_0 = 2 then (some (t4, t5, t6, t9, t12, a0_1, t14, t15)) else (if a0_0 = 3 then (some (t4, t5, t6, t9, t12, t13, wrap64 (a0_1), t15)) else (if a0_0 = 4 then (some (t4, t5, t6, t9, t12, t13, t14, a0_1)) else (if a0_0 = 5 then ((q6z.f (([l0_2, t6] : List (List Int)))).bind fun t20 => (some (t4, t5, t20, t9, t12, t13, t14, t15))) else (if a0_0 = 6 then ((q6z.f (([t9, l0_2] : List (List Int)))).bind fun t26 => ((q7z.f k t26).bind fun t29 => (some (t4, t5, t6, t29, t12, t13, t14, t15)))) else (if a0_0 = 7 then ((q6z.f (([l0_2] : List (List Int)))).bind fun t35 => ((q7z.f k t35).bind fun t38 => (some (t4, t5, t6, t38, t12, t13, t14, t15)))) else (if a0_0 = 8 then ((act_del.f t9 l0_3).bind fun t41 => ((q7z.f k t41).bind fun t44 => (some (t4, t5, t6, t44, t12, t13, t14, t15)))) else (some (t4, t5, t6, t9, t12, t13, t14, t15)))))))))) else (some (t4, t5, t6, t9, t12, t13, t14, t15))) = some (r1, r2, r3, r4, r5, r6, r7, r8) := H
 have A4 := Aside0.mk A40
 clear A40
 by_cases c5 : t16 = true
 ·
  subst c5
  have H1 : (if a0_0 = 1 then (some (t4, t5, t6, t9, a0_1, t13, t14, t15)) else (if a0_0 = 2 then (some (t4, t5, t6, t9, t12, a0_1, t14, t15)) else (if a0_0 = 3 then (some (t4, t5, t6, t9, t12, t13, wrap64 (a0_1), t15)) else (if a0_0 = 4 then (some (t4, t5, t6, t9, t12, t13, t14, a0_1)) else (if a0_0 = 5 then ((q6z.f (([l0_2, t6] : List (List Int)))).bind fun t20 => (some (t4, t5, t20, t9, t12, t13, t14, t15))) else (if a0_0 = 6 then ((q6z.f (([t9, l0_2] : List (List Int)))).bind fun t26 => ((q7z.f k t26).bind fun t29 => (some (t4, t5, t6, t29, t12, t13, t14, t15)))) else (if a0_0 = 7 then ((q6z.f (([l0_2] : List (List Int)))).bind fun t35 => ((q7z.f k t35).bind fun t38 => (some (t4, t5, t6, t38, t12, t13, t14, t15)))) else (if a0_0 = 8 then ((act_del.f t9 l0_3).bind fun t41 => ((q7z.f k t41).bind fun t44 => (some (t4, t5, t6, t44, t12, t13, t14, t15)))) else (some (t4, t5, t6, t9, t12, t13, t14, t15)))))))))) = some (r1, r2, r3, r4, r5, r6, r7, r8) := by rw [if_pos rfl] at H; exact H
  clear H
  have H := H1
  clear H1
  have HH_c6 := Aside0.mk H
  clear H
  go_enter Try.func13, Try.ntmps13
  go_upto_region 4 with (first | ((with_reducible refine gate_dst (N := 2) rfl ?_); refine box_event ?hg (N := 2) ?hd (cs := #[.int .i64 a0_0, .int .u32 a0_1, .slice A0_2 l0_2.length c0_2, .slice A0_3 l0_3.length c0_3]) (t := 26) ?hr ?_; (case hd => rfl); (case hg => rfl); (case hr => first | (go_simp; done) | (go_simp; rfl)); intro gb1 hg w7 hbox hb; have BK1 := Aside0.mk (hbox); have GW1 := gwS hg HB; have GE1 := gwS hg HB; replace HO0_2 := Aside0.mk (Kd.V_below (Kd.V_elderB (by (with_reducible repeat (first | apply Kd.V_alloc | apply Kd.V_drewN | apply Kd.V_drew)); exact HO0_2.out) gb1 (Nat.le_of_eq hg.symm)) hb); replace HB := hbS HB hb; clear hb hbox hg) | ((with_reducible refine gate_dst (N := 3) rfl ?_); refine box_event ?hg (N := 3) ?hd (cs := #[.int .u32 a1_0, .int .i64 a1_1, .slice A1_2 l1_2.length c1_2, .slice A1_3 l1_3.length c1_3, .int .u32 a1_4, .int .u32 a1_5, .int .i64 a1_6, .int .u32 a1_7]) (t := 30) ?hr ?_; (case hd => rfl); (case hg => rfl); (case hr => first | (go_simp; done) | (go_simp; rfl)); intro gb2 hg w8 hbox hb; have BK2 := Aside0.mk (hbox); have GW2 := gwS hg HB; have GE2 := gwS hg HB; have NB1_2 := nbL hg BK1; have NB2_1 := nbG hg BK1; replace HO0_2 := Aside0.mk (Kd.V_below (Kd.V_elderB (by (with_reducible repeat (first | apply Kd.V_alloc | apply Kd.V_drewN | apply Kd.V_drew)); exact HO0_2.out) gb2 (Nat.le_of_eq hg.symm)) hb); replace BK1 := bkB BK1 hb; replace HB := hbS HB hb; clear hb hbox hg) | ((with_reducible refine gate_dst (N := 4) rfl ?_); refine box_event ?hg (N := 4) ?hd (cs := #[.int .u32 0, .int .i64 0, .slice none 0 0, .slice none 0 0, .int .u32 0, .int .u32 0, .int .i64 0, .int .u32 0]) (t := 30) ?hr ?_; (case hd => rfl); (case hg => rfl); (case hr => first | (go_simp; done) | (go_simp; rfl)); intro gb3 hg w9 hbox hb; have BK3 := Aside0.mk (hbox); have GW3 := gwS hg HB; have GE3 := gwS hg HB; have NB1_3 := nbL hg BK1; have NB3_1 := nbG hg BK1; have NB2_3 := nbL hg BK2; have NB3_2 := nbG hg BK2; replace HO0_2 := Aside0.mk (Kd.V_below (Kd.V_elderB (by (with_reducible repeat (first | apply Kd.V_alloc | apply Kd.V_drewN | apply Kd.V_drew)); exact HO0_2.out) gb3 (Nat.le_of_eq hg.symm)) hb); replace BK1 := bkB BK1 hb; replace BK2 := bkB BK2 hb; replace HB := hbS HB hb; clear hb hbox hg; have hnb104 := NB2_1.out; have hnc104 := NB1_2.out; have hnb105 := NB2_3.out; have hnc105 := NB3_2.out; obtain ⟨hcz106_0, hcz106_1, hcz106_2, hcz106_3, hcz106_4, hcz106_5, hcz106_6, hcz106_7, hfz106_0, hfz106_1, hfz106_2, hfz106_3, hfz106_4, hfz106_5, hfz106_6, hfz106_7⟩ := bc8 BK2) | ((with_reducible refine gate_callee (f := 26) rfl ?_); refine goesL_ (some 6) rfl rfl Try.func26 (by kernel_rfl) rfl #[.agg #[.int .u32 a1_0, .int .i64 a1_1, .slice A1_2 l1_2.length c1_2, .slice A1_3 l1_3.length c1_3, .int .u32 a1_4, .int .u32 a1_5, .int .i64 a1_6, .int .u32 a1_7]] rfl (by (try simp only [List.map_toArray, List.map_cons, List.map_nil]); first | done | rfl | (simp only [List.length_drop, List.length_take]; rfl)) ?_; (with_reducible refine (q5z.calls a1_0 a1_1 _ _ l1_2 _ _ l1_3 a1_4 a1_5 a1_6 a1_7 t4 t5 t6 t9 t12 t13 t14 t15 _ ?side1 ?side2 ?side3 ?side4 A3.out).mono ?_); (case side1 => repeat (first | exact (Kd.C_below HR1_2.out HB.out) | (with_reducible refine Kd.C_alloc ?_ _) | (with_reducible refine Kd.C_drewN ?_ _) | (with_reducible refine Kd.C_drew ?_))); (case side2 => exact HC1_2.out); (case side3 => repeat (first | exact (Kd.C_below HR1_3.out HB.out) | (with_reducible refine Kd.C_alloc ?_ _) | (with_reducible refine Kd.C_drewN ?_ _) | (with_reducible refine Kd.C_drew ?_))); (case side4 => exact HC1_3.out); rintro e w13 ⟨v7, v10, rfl, ho0, ho1, hb⟩; refine ⟨_, rfl, ?_⟩; have HO8 := Aside0.mk (Kd.R_lower (Kd.R_newM (M := fun k_ => (w.heap.size ≤ k_)) ho0 (below_size (hbW HB)) (fun k_ h_ => h_)) (below_size (hbW HB))); have HO11 := Aside0.mk (Kd.R_lower (Kd.R_newM (M := fun k_ => (w.heap.size ≤ k_)) ho1 (below_size (hbW HB)) (fun k_ h_ => h_)) (below_size (hbW HB))); replace HO0_2 := Aside0.mk (Kd.V_mono (Kd.V_told (Kd.V_told (Kd.V_old (by (with_reducible repeat (first | apply Kd.V_alloc | apply Kd.V_drewN | apply Kd.V_drew)); exact HO0_2.out) hb) (Kd.R_base ho0)) (Kd.R_base ho1)) (fun _ h_ => h_.1)); replace BK1 := bkB BK1 hb; replace BK2 := bkB BK2 hb; replace BK3 := bkB BK3 hb; replace HB := hbS HB hb; (try clear hb); (try clear hk); (try clear ho0); (try clear ho1); obtain ⟨hcz14_0, hcz14_1, hcz14_2, hcz14_3, hcz14_4, hcz14_5, hcz14_6, hcz14_7, hfz14_0, hfz14_1, hfz14_2, hfz14_3, hfz14_4, hfz14_5, hfz14_6, hfz14_7⟩ := bc8 BK2; obtain ⟨Ao15, co15, eo15⟩ := Kd.R_slice HO8.out; subst eo15; obtain ⟨Ao16, co16, eo16⟩ := Kd.R_slice HO11.out; subst eo16; have hnb111 := NB1_3.out; have hnc111 := NB3_1.out; obtain ⟨hcz112_0, hcz112_1, hcz112_2, hcz112_3, hfz112_0, hfz112_1, hfz112_2, hfz112_3⟩ := bc4 BK1) | ((with_reducible refine gate_callee (f := 14) rfl ?_); refine goesL_ (some 8) rfl rfl Try.func14 (by kernel_rfl) rfl #[.agg #[.int .i64 a0_0, .int .u32 a0_1, .slice A0_2 l0_2.length c0_2, .slice A0_3 l0_3.length c0_3]] rfl (by (try simp only [List.map_toArray, List.map_cons, List.map_nil]); first | done | rfl | (simp only [List.length_drop, List.length_take]; rfl)) ?_; (with_reducible refine (q4z.calls k a0_0 a0_1 _ _ l0_2 _ _ l0_3 _ _ ?side1 ?side2 ?side3 ?side4 A4.out).mono ?_); (case side1 => refine (Kd.V_reads' (e := 22) (base := w.heap.size) (ok := fun k_ => ((((((P0_2_ k_ ∨ w.heap.size ≤ k_) ∧ k_ ≠ gb1) ∧ k_ ≠ gb2) ∧ k_ ≠ gb3) ∧ some k_ ≠ (.slice Ao15 t6.length co15 : Value).ownBlock) ∧ some k_ ≠ (.slice Ao16 t9.length co16 : Value).ownBlock)) (n := l0_2.length) (c := c0_2) ?_).2.2; exact (by (with_reducible repeat (first | apply Kd.V_alloc | apply Kd.V_drewN | apply Kd.V_drew)); exact (Kd.V_mono (Kd.V_far (p := ⟨gb2, 7, none⟩) (Kd.V_far (p := ⟨gb2, 6, none⟩) (Kd.V_far (p := ⟨gb2, 5, none⟩) (Kd.V_far (p := ⟨gb2, 4, none⟩) (Kd.V_far (p := ⟨gb2, 3, none⟩) (Kd.V_far (p := ⟨gb2, 2, none⟩) (Kd.V_far (p := ⟨gb2, 1, none⟩) (Kd.V_far (p := ⟨gb2, 0, none⟩) (Kd.V_mono HO0_2.out (fun k_ hk => (⟨hk, hk.1.1.1.2⟩ : _ ∧ k_ ≠ gb2))) (fun _ hk => hk.2) (.int .u32 t4)) (fun _ hk => hk.2) (.int .i64 t5)) (fun _ hk => hk.2) (.slice Ao15 t6.length co15)) (fun _ hk => hk.2) (.slice Ao16 t9.length co16)) (fun _ hk => hk.2) (.int .u32 t12)) (fun _ hk => hk.2) (.int .u32 t13)) (fun _ hk => hk.2) (.int .i64 t14)) (fun _ hk => hk.2) (.int .u32 t15)) (fun _ h_ => h_.1)))); (case side2 => exact (Kd.V_reads' HO0_2.out).2.1); (case side3 => exact Kd.C_below HR0_3.out (hbW HB)); (case side4 => exact HC0_3.out); rintro e w19 ⟨rfl, hb⟩; refine ⟨_, rfl, ?_⟩; replace HO0_2 := Aside0.mk (Kd.V_below (by (with_reducible repeat (first | apply Kd.V_alloc | apply Kd.V_drewN | apply Kd.V_drew)); exact (Kd.V_mono (Kd.V_far (p := ⟨gb2, 7, none⟩) (Kd.V_far (p := ⟨gb2, 6, none⟩) (Kd.V_far (p := ⟨gb2, 5, none⟩) (Kd.V_far (p := ⟨gb2, 4, none⟩) (Kd.V_far (p := ⟨gb2, 3, none⟩) (Kd.V_far (p := ⟨gb2, 2, none⟩) (Kd.V_far (p := ⟨gb2, 1, none⟩) (Kd.V_far (p := ⟨gb2, 0, none⟩) (Kd.V_mono HO0_2.out (fun k_ hk => (⟨hk, hk.1.1.1.2⟩ : _ ∧ k_ ≠ gb2))) (fun _ hk => hk.2) (.int .u32 t4)) (fun _ hk => hk.2) (.int .i64 t5)) (fun _ hk => hk.2) (.slice Ao15 t6.length co15)) (fun _ hk => hk.2) (.slice Ao16 t9.length co16)) (fun _ hk => hk.2) (.int .u32 t12)) (fun _ hk => hk.2) (.int .u32 t13)) (fun _ hk => hk.2) (.int .i64 t14)) (fun _ hk => hk.2) (.int .u32 t15)) (fun _ h_ => h_.1))) hb); replace HO8 := Aside0.mk (Kd.R_below (rW HO8) hb); replace HO11 := Aside0.mk (Kd.R_below (rW HO11) hb); replace BK1 := bvB BK1 hb; replace BK2 := Aside0.mk (blk_below (g := gb2) (o := .cells #[.int .u32 t4, .int .i64 t5, .slice Ao15 t6.length co15, .slice Ao16 t9.length co16, .int .u32 t12, .int .u32 t13, .int .i64 t14, .int .u32 t15] 30 (0, 0)) (bp8 BK2) hb); replace BK3 := bvB BK3 hb; replace HB := hbS HB hb; (try clear hb); (try clear hk); obtain ⟨hcz188_0, hcz188_1, hcz188_2, hcz188_3, hfz188_0, hfz188_1, hfz188_2, hfz188_3⟩ := bc4 BK1; obtain ⟨hcz189_0, hcz189_1, hcz189_2, hcz189_3, hcz189_4, hcz189_5, hcz189_6, hcz189_7, hfz189_0, hfz189_1, hfz189_2, hfz189_3, hfz189_4, hfz189_5, hfz189_6, hfz189_7⟩ := bc8 BK2; obtain ⟨hcz190_0, hcz190_1, hcz190_2, hcz190_3, hcz190_4, hcz190_5, hcz190_6, hcz190_7, hfz190_0, hfz190_1, hfz190_2, hfz190_3, hfz190_4, hfz190_5, hfz190_6, hfz190_7⟩ := bc8 BK3))
  have H := HH_c6.out
  clear HH_c6
  by_cases c6 : a0_0 = 1
  ·
   rw [if_pos c6] at H
   have c6b0 : (a0_0 == 1) = true := beq_iff_eq.mpr c6
   have c6b1 : (a0_0 != 1) = false := bne_eq_false_iff_eq.mpr c6
   clear c6
   simp only [Option.some.injEq, Prod.mk.injEq] at H
   obtain ⟨rfl, rfl, rfl, rfl, rfl, rfl, rfl, rfl⟩ := H
   go_wp2
   refine bodyPost_ret (results_cell_row rfl _ _ gb3 30 #[.int .u32 t4, .int .i64 t5, .slice Ao15 t6.length co15, .slice Ao16 t9.length co16, .int .u32 a0_1, .int .u32 t13, .int .i64 t14, .int .u32 t15] (0, 0) _ rfl (bp8 BK3) Try.underlying30 rfl (by kernel_rfl)) rfl ?_
   exact ⟨_, _, by first | rfl | (simp [errW_none, errW_some] <;> rfl) | (simp [*, errW_none, errW_some] <;> rfl), moR (rW HO8), moR (rW HO11), hbW HB⟩
  ·
   rw [if_neg c6] at H
   have c6b0 : (a0_0 == 1) = false := beq_eq_false_iff_ne.mpr c6
   have c6b1 : (a0_0 != 1) = true := bne_iff_ne.mpr c6
   by_cases c23 : a0_0 = 2
   ·
    rw [if_pos c23] at H
    have c23b0 : (a0_0 == 2) = true := beq_iff_eq.mpr c23
    have c23b1 : (a0_0 != 2) = false := bne_eq_false_iff_eq.mpr c23
    clear c23
    simp only [Option.some.injEq, Prod.mk.injEq] at H
    obtain ⟨rfl, rfl, rfl, rfl, rfl, rfl, rfl, rfl⟩ := H
    go_wp2
    refine bodyPost_ret (results_cell_row rfl _ _ gb3 30 #[.int .u32 t4, .int .i64 t5, .slice Ao15 t6.length co15, .slice Ao16 t9.length co16, .int .u32 t12, .int .u32 a0_1, .int .i64 t14, .int .u32 t15] (0, 0) _ rfl (bp8 BK3) Try.underlying30 rfl (by kernel_rfl)) rfl ?_
    exact ⟨_, _, by first | rfl | (simp [errW_none, errW_some] <;> rfl) | (simp [*, errW_none, errW_some] <;> rfl), moR (rW HO8), moR (rW HO11), hbW HB⟩
   ·
    rw [if_neg c23] at H
    have c23b0 : (a0_0 == 2) = false := beq_eq_false_iff_ne.mpr c23
    have c23b1 : (a0_0 != 2) = true := bne_iff_ne.mpr c23
    by_cases c40 : a0_0 = 3
    ·
     rw [if_pos c40] at H
     have c40b0 : (a0_0 == 3) = true := beq_iff_eq.mpr c40
     have c40b1 : (a0_0 != 3) = false := bne_eq_false_iff_eq.mpr c40
     clear c40
     simp only [Option.some.injEq, Prod.mk.injEq] at H
     obtain ⟨rfl, rfl, rfl, rfl, rfl, rfl, rfl, rfl⟩ := H
     go_wp2
     refine bodyPost_ret (results_cell_row rfl _ _ gb3 30 #[.int .u32 t4, .int .i64 t5, .slice Ao15 t6.length co15, .slice Ao16 t9.length co16, .int .u32 t12, .int .u32 t13, .int .i64 (wrap64 (a0_1)), .int .u32 t15] (0, 0) _ rfl (bp8 BK3) Try.underlying30 rfl (by kernel_rfl)) rfl ?_
     exact ⟨_, _, by first | rfl | (simp [errW_none, errW_some] <;> rfl) | (simp [*, errW_none, errW_some] <;> rfl), moR (rW HO8), moR (rW HO11), hbW HB⟩
    ·
     rw [if_neg c40] at H
     have c40b0 : (a0_0 == 3) = false := beq_eq_false_iff_ne.mpr c40
     have c40b1 : (a0_0 != 3) = true := bne_iff_ne.mpr c40
     by_cases c57 : a0_0 = 4
     ·
      rw [if_pos c57] at H
      have c57b0 : (a0_0 == 4) = true := beq_iff_eq.mpr c57
      have c57b1 : (a0_0 != 4) = false := bne_eq_false_iff_eq.mpr c57
      clear c57
      simp only [Option.some.injEq, Prod.mk.injEq] at H
      obtain ⟨rfl, rfl, rfl, rfl, rfl, rfl, rfl, rfl⟩ := H
      go_wp2
      refine bodyPost_ret (results_cell_row rfl _ _ gb3 30 #[.int .u32 t4, .int .i64 t5, .slice Ao15 t6.length co15, .slice Ao16 t9.length co16, .int .u32 t12, .int .u32 t13, .int .i64 t14, .int .u32 a0_1] (0, 0) _ rfl (bp8 BK3) Try.underlying30 rfl (by kernel_rfl)) rfl ?_
      exact ⟨_, _, by first | rfl | (simp [errW_none, errW_some] <;> rfl) | (simp [*, errW_none, errW_some] <;> rfl), moR (rW HO8), moR (rW HO11), hbW HB⟩
     ·
      rw [if_neg c57] at H
      have c57b0 : (a0_0 == 4) = false := beq_eq_false_iff_ne.mpr c57
      have c57b1 : (a0_0 != 4) = true := bne_iff_ne.mpr c57
      by_cases c74 : a0_0 = 5
      ·
       rw [if_pos c74] at H
       have c74b0 : (a0_0 == 5) = true := beq_iff_eq.mpr c74
       have c74b1 : (a0_0 != 5) = false := bne_eq_false_iff_eq.mpr c74
       clear c74
       obtain ⟨y17, hy17⟩ : ∃ y_ : List (List Int), y_ = (([l0_2, t6] : List (List Int))) := ⟨_, rfl⟩
       replace H : ((q6z.f y17).bind fun t20 => (some (t4, t5, t20, t9, t12, t13, t14, t15))) = some (r1, r2, r3, r4, r5, r6, r7, r8) := by first | (rw [hy17]; with_reducible exact H) | (have H2_ := (Option.bind_some _ _).symm.trans H; rw [hy17]; with_reducible exact H2_) | (have H2_ := (Option.bind_some _ _).symm.trans H; with_reducible exact H2_) | with_reducible exact H | (rw [hy17]; exact H) | exact H
       have Ny17 := Aside0.mk hy17
       clear hy17
       replace H := Option.bind_eq_some_iff.mp H
       obtain ⟨t20, A750, H⟩ := H
       replace H : (some (t4, t5, t20, t9, t12, t13, t14, t15)) = some (r1, r2, r3, r4, r5, r6, r7, r8) := H
       have A75 := Aside0.mk A750
       clear A750
       simp only [Option.some.injEq, Prod.mk.injEq] at H
       obtain ⟨rfl, rfl, rfl, rfl, rfl, rfl, rfl, rfl⟩ := H
       go_wp2_with (first | ((with_reducible refine gate_dst (N := 40) rfl ?_); refine Kd.N_lit (Kd.slice 22 (Kd.int .u32)) _ 23 ?hg (N' := 40) ?hd (xs := ([l0_2, t6] : List (List Int))) (inner := [.slice A0_2 l0_2.length c0_2, .slice Ao15 t6.length co15]) (ok := (fun k_ => (P0_2_ k_ ∨ w.heap.size ≤ k_) ∧ some k_ ≠ (.slice Ao16 t9.length co16 : Value).ownBlock ∧ k_ ≠ gb1 ∧ k_ ≠ gb2 ∧ k_ ≠ gb3)) (okp := (fun k_ => (P0_2_ k_ ∨ w.heap.size ≤ k_) ∧ some k_ ≠ (.slice Ao16 t9.length co16 : Value).ownBlock ∧ k_ ≠ gb1 ∧ k_ ≠ gb2 ∧ k_ ≠ gb3)) ?hr ?hp (fun _ hk => hk) ((show ∀ k_, w19.heap.size ≤ k_ → (fun k_ => (P0_2_ k_ ∨ w.heap.size ≤ k_) ∧ some k_ ≠ (.slice Ao16 t9.length co16 : Value).ownBlock ∧ k_ ≠ gb1 ∧ k_ ≠ gb2 ∧ k_ ≠ gb3) k_ from fun k_ hk => ⟨(.inr (Nat.le_trans (below_size (hbW HB)) hk)), Kd.fresh' (Kd.R_lt (rW HO11)) k_ hk, Kd.freshB (g := gb1) (o := .cells #[.int .i64 a0_0, .int .u32 a0_1, .slice A0_2 l0_2.length c0_2, .slice A0_3 l0_3.length c0_3] 26 (0, 0)) (bkW BK1) k_ hk, Kd.freshB (g := gb2) (o := .cells #[.int .u32 t4, .int .i64 t5, .slice Ao15 t6.length co15, .slice Ao16 t9.length co16, .int .u32 t12, .int .u32 t13, .int .i64 t14, .int .u32 t15] 30 (0, 0)) (bkW BK2) k_ hk, Kd.freshB (g := gb3) (o := .cells #[.int .u32 0, .int .i64 0, .slice none 0 0, .slice none 0 0, .int .u32 0, .int .u32 0, .int .i64 0, .int .u32 0] 30 (0, 0)) (bkW BK3) k_ hk⟩) _ (Nat.le_refl _)) (Below.refl _ _) (Nat.le_refl _) (by simp) ?_; (case hd => rfl); (case hg => rfl); (case hr => first | (go_simp; done) | (go_simp; rfl)); (case hp => exact (Reps.one (show Kd.FK (Kd.slice 22 (Kd.int .u32)) _ _ l0_2 [.slice A0_2 l0_2.length c0_2] from (Kd.FK_slice_mk (Kd.V_reads' (Kd.V_mono (ok' := (fun k_ => (P0_2_ k_ ∨ w.heap.size ≤ k_) ∧ some k_ ≠ (.slice Ao16 t9.length co16 : Value).ownBlock ∧ k_ ≠ gb1 ∧ k_ ≠ gb2 ∧ k_ ≠ gb3)) (HO0_2.out) (fun k_ hk => ⟨hk.1.1.1.1.1, ⟨hk.2, ⟨hk.1.1.1.1.2, ⟨hk.1.1.1.2, hk.1.1.2⟩⟩⟩⟩))).2.1 (Kd.V_F (Kd.V_mono (ok' := (fun k_ => (P0_2_ k_ ∨ w.heap.size ≤ k_) ∧ some k_ ≠ (.slice Ao16 t9.length co16 : Value).ownBlock ∧ k_ ≠ gb1 ∧ k_ ≠ gb2 ∧ k_ ≠ gb3)) (HO0_2.out) (fun k_ hk => ⟨hk.1.1.1.1.1, ⟨hk.2, ⟨hk.1.1.1.1.2, ⟨hk.1.1.1.2, hk.1.1.2⟩⟩⟩⟩))))) (Reps.one (show Kd.FK (Kd.slice 22 (Kd.int .u32)) _ _ t6 [.slice Ao15 t6.length co15] from (Kd.FK_slice_mk (Kd.R_reads' (Kd.R_mono (ok' := (fun k_ => (P0_2_ k_ ∨ w.heap.size ≤ k_) ∧ some k_ ≠ (.slice Ao16 t9.length co16 : Value).ownBlock ∧ k_ ≠ gb1 ∧ k_ ≠ gb2 ∧ k_ ≠ gb3)) (Kd.R_types (Kd.R_types (Kd.R_types (HO8.out) BK1.out (by decide)) BK2.out (by decide)) BK3.out (by decide)) (fun k_ hk => ⟨(.inr (hk.1.1.1.1)), ⟨hk.1.1.1.2, ⟨hk.1.1.2, ⟨hk.1.2, hk.2⟩⟩⟩⟩))).2.1 (Kd.R_F (Kd.R_mono (ok' := (fun k_ => (P0_2_ k_ ∨ w.heap.size ≤ k_) ∧ some k_ ≠ (.slice Ao16 t9.length co16 : Value).ownBlock ∧ k_ ≠ gb1 ∧ k_ ≠ gb2 ∧ k_ ≠ gb3)) (Kd.R_types (Kd.R_types (Kd.R_types (HO8.out) BK1.out (by decide)) BK2.out (by decide)) BK3.out (by decide)) (fun k_ hk => ⟨(.inr (hk.1.1.1.1)), ⟨hk.1.1.1.2, ⟨hk.1.1.2, ⟨hk.1.2, hk.2⟩⟩⟩⟩))))) (Reps.none _ _)))); intro v18 w91 ho92 hb hg_ hnew_; clear hg_ hnew_; (first | rw [← Ny17.out] at ho92 | (simp only [Int.reduceToNat] at ho92; rw [← Ny17.out] at ho92)); have n0_ := Aside0.mk (Kd.V_elder' (by (with_reducible repeat (first | apply Kd.V_alloc | apply Kd.V_drewN | apply Kd.V_drew)); exact HO0_2.out) (Kd.N_base ho92) hb); have n1_ := Aside0.mk (Kd.R_below (rW HO11) hb); have n2_ := Aside0.mk (Kd.N_lower ho92 (below_size (hbW HB))); have n3_ := bkB BK1 hb; have n4_ := bkB BK2 hb; have n5_ := bkB BK3 hb; have n6_ := hbS HB hb; clear HO0_2; clear HO11; clear BK1; clear BK2; clear BK3; clear HB; clear HO8; have HO0_2 := n0_; have HO11 := n1_; have HO19 := n2_; have BK1 := n3_; have BK2 := n4_; have BK3 := n5_; have HB := n6_; clear n0_ n1_ n2_ n3_ n4_ n5_ n6_; clear hb ho92; obtain ⟨Ao93, co93, eo93⟩ := Kd.N_slice HO19.out; subst eo93) | ((with_reducible refine gate_callee (f := 27) rfl ?_); refine goesL_ (some 41) rfl rfl Try.func27 (by kernel_rfl) rfl #[.slice Ao93 y17.length co93] rfl (by (try simp only [List.map_toArray, List.map_cons, List.map_nil]); first | done | rfl | (simp only [List.length_drop, List.length_take]; rfl)) ?_; (with_reducible refine (q6z.calls _ _ y17 t20 _ ?side1 ?side2 A75.out).mono ?_); (case side1 => repeat (first | exact (Kd.N_reads' HO19.out).2.2 | (with_reducible refine Kd.C_alloc ?_ _) | (with_reducible refine Kd.C_drewN ?_ _) | (with_reducible refine Kd.C_drew ?_))); (case side2 => exact (Kd.N_reads' HO19.out).2.1); rintro e w94 ⟨v21, rfl, ho0, hb⟩; refine ⟨_, rfl, ?_⟩; have HO22 := Aside0.mk (Kd.R_lower (Kd.R_new' (Kd.R_newM (M := fun k_ => (w.heap.size ≤ k_)) ho0 (below_size (hbW HB)) (fun k_ h_ => h_)) (Kd.R_lt (rW HO11))) (below_size (hbW HB))); replace HO0_2 := Aside0.mk (Kd.V_elder' (by (with_reducible repeat (first | apply Kd.V_alloc | apply Kd.V_drewN | apply Kd.V_drew)); exact HO0_2.out) (Kd.R_base ho0) hb); replace HO11 := Aside0.mk (Kd.R_elder' (rW HO11) (Kd.R_base ho0) hb); replace HO19 := Aside0.mk (Kd.N_elder' (by (with_reducible repeat (first | apply Kd.N_alloc | apply Kd.N_drewN | apply Kd.N_drew)); exact HO19.out) (Kd.R_base ho0) hb); replace BK1 := bkB BK1 hb; replace BK2 := bkB BK2 hb; replace BK3 := bkB BK3 hb; replace HB := hbS HB hb; (try clear hb); (try clear hk); (try clear ho0); obtain ⟨Ao95, co95, eo95⟩ := Kd.R_slice HO22.out; subst eo95; obtain ⟨hcz96_0, hcz96_1, hcz96_2, hcz96_3, hcz96_4, hcz96_5, hcz96_6, hcz96_7, hfz96_0, hfz96_1, hfz96_2, hfz96_3, hfz96_4, hfz96_5, hfz96_6, hfz96_7⟩ := bc8 BK2; obtain ⟨hcz97_0, hcz97_1, hcz97_2, hcz97_3, hcz97_4, hcz97_5, hcz97_6, hcz97_7, hfz97_0, hfz97_1, hfz97_2, hfz97_3, hfz97_4, hfz97_5, hfz97_6, hfz97_7⟩ := bc8 BK3))
       refine bodyPost_ret (results_cell_row rfl _ _ gb3 30 #[.int .u32 t4, .int .i64 t5, .slice Ao95 t20.length co95, .slice Ao16 t9.length co16, .int .u32 t12, .int .u32 t13, .int .i64 t14, .int .u32 t15] (0, 0) _ rfl (bp8 BK3) Try.underlying30 rfl (by kernel_rfl)) rfl ?_
       exact ⟨_, _, by first | rfl | (simp [errW_none, errW_some] <;> rfl) | (simp [*, errW_none, errW_some] <;> rfl), moR (rW HO22), moR (rW HO11), hbW HB⟩
      ·
       rw [if_neg c74] at H
       have c74b0 : (a0_0 == 5) = false := beq_eq_false_iff_ne.mpr c74
       have c74b1 : (a0_0 != 5) = true := bne_iff_ne.mpr c74
       by_cases c98 : a0_0 = 6
       ·
        rw [if_pos c98] at H
        have c98b0 : (a0_0 == 6) = true := beq_iff_eq.mpr c98
        have c98b1 : (a0_0 != 6) = false := bne_eq_false_iff_eq.mpr c98
        clear c98
        obtain ⟨y23, hy23⟩ : ∃ y_ : List (List Int), y_ = (([t9, l0_2] : List (List Int))) := ⟨_, rfl⟩
        replace H : ((q6z.f y23).bind fun t26 => ((q7z.f k t26).bind fun t29 => (some (t4, t5, t6, t29, t12, t13, t14, t15)))) = some (r1, r2, r3, r4, r5, r6, r7, r8) := by first | (rw [hy23]; with_reducible exact H) | (have H2_ := (Option.bind_some _ _).symm.trans H; rw [hy23]; with_reducible exact H2_) | (have H2_ := (Option.bind_some _ _).symm.trans H; with_reducible exact H2_) | with_reducible exact H | (rw [hy23]; exact H) | exact H
        have Ny23 := Aside0.mk hy23
        clear hy23
        replace H := Option.bind_eq_some_iff.mp H
        obtain ⟨t26, A990, H⟩ := H
        replace H : ((q7z.f k t26).bind fun t29 => (some (t4, t5, t6, t29, t12, t13, t14, t15))) = some (r1, r2, r3, r4, r5, r6, r7, r8) := H
        have A99 := Aside0.mk A990
        clear A990
        replace H := Option.bind_eq_some_iff.mp H
        obtain ⟨t29, A1000, H⟩ := H
        replace H : (some (t4, t5, t6, t29, t12, t13, t14, t15)) = some (r1, r2, r3, r4, r5, r6, r7, r8) := H
        have A100 := Aside0.mk A1000
        clear A1000
        simp only [Option.some.injEq, Prod.mk.injEq] at H
        obtain ⟨rfl, rfl, rfl, rfl, rfl, rfl, rfl, rfl⟩ := H
        go_wp2_with (first | ((with_reducible refine gate_dst (N := 49) rfl ?_); refine Kd.N_lit (Kd.slice 22 (Kd.int .u32)) _ 23 ?hg (N' := 49) ?hd (xs := ([t9, l0_2] : List (List Int))) (inner := [.slice Ao16 t9.length co16, .slice A0_2 l0_2.length c0_2]) (ok := (fun k_ => (P0_2_ k_ ∨ w.heap.size ≤ k_) ∧ some k_ ≠ (.slice Ao15 t6.length co15 : Value).ownBlock ∧ k_ ≠ gb1 ∧ k_ ≠ gb2 ∧ k_ ≠ gb3)) (okp := (fun k_ => (P0_2_ k_ ∨ w.heap.size ≤ k_) ∧ some k_ ≠ (.slice Ao15 t6.length co15 : Value).ownBlock ∧ k_ ≠ gb1 ∧ k_ ≠ gb2 ∧ k_ ≠ gb3)) ?hr ?hp (fun _ hk => hk) ((show ∀ k_, w19.heap.size ≤ k_ → (fun k_ => (P0_2_ k_ ∨ w.heap.size ≤ k_) ∧ some k_ ≠ (.slice Ao15 t6.length co15 : Value).ownBlock ∧ k_ ≠ gb1 ∧ k_ ≠ gb2 ∧ k_ ≠ gb3) k_ from fun k_ hk => ⟨(.inr (Nat.le_trans (below_size (hbW HB)) hk)), Kd.fresh' (Kd.R_lt (rW HO8)) k_ hk, Kd.freshB (g := gb1) (o := .cells #[.int .i64 a0_0, .int .u32 a0_1, .slice A0_2 l0_2.length c0_2, .slice A0_3 l0_3.length c0_3] 26 (0, 0)) (bkW BK1) k_ hk, Kd.freshB (g := gb2) (o := .cells #[.int .u32 t4, .int .i64 t5, .slice Ao15 t6.length co15, .slice Ao16 t9.length co16, .int .u32 t12, .int .u32 t13, .int .i64 t14, .int .u32 t15] 30 (0, 0)) (bkW BK2) k_ hk, Kd.freshB (g := gb3) (o := .cells #[.int .u32 0, .int .i64 0, .slice none 0 0, .slice none 0 0, .int .u32 0, .int .u32 0, .int .i64 0, .int .u32 0] 30 (0, 0)) (bkW BK3) k_ hk⟩) _ (Nat.le_refl _)) (Below.refl _ _) (Nat.le_refl _) (by simp) ?_; (case hd => rfl); (case hg => rfl); (case hr => first | (go_simp; done) | (go_simp; rfl)); (case hp => exact (Reps.one (show Kd.FK (Kd.slice 22 (Kd.int .u32)) _ _ t9 [.slice Ao16 t9.length co16] from (Kd.FK_slice_mk (Kd.R_reads' (Kd.R_mono (ok' := (fun k_ => (P0_2_ k_ ∨ w.heap.size ≤ k_) ∧ some k_ ≠ (.slice Ao15 t6.length co15 : Value).ownBlock ∧ k_ ≠ gb1 ∧ k_ ≠ gb2 ∧ k_ ≠ gb3)) (Kd.R_types (Kd.R_types (Kd.R_types (HO11.out) BK1.out (by decide)) BK2.out (by decide)) BK3.out (by decide)) (fun k_ hk => ⟨(.inr (hk.1.1.1.1)), ⟨hk.1.1.1.2, ⟨hk.1.1.2, ⟨hk.1.2, hk.2⟩⟩⟩⟩))).2.1 (Kd.R_F (Kd.R_mono (ok' := (fun k_ => (P0_2_ k_ ∨ w.heap.size ≤ k_) ∧ some k_ ≠ (.slice Ao15 t6.length co15 : Value).ownBlock ∧ k_ ≠ gb1 ∧ k_ ≠ gb2 ∧ k_ ≠ gb3)) (Kd.R_types (Kd.R_types (Kd.R_types (HO11.out) BK1.out (by decide)) BK2.out (by decide)) BK3.out (by decide)) (fun k_ hk => ⟨(.inr (hk.1.1.1.1)), ⟨hk.1.1.1.2, ⟨hk.1.1.2, ⟨hk.1.2, hk.2⟩⟩⟩⟩))))) (Reps.one (show Kd.FK (Kd.slice 22 (Kd.int .u32)) _ _ l0_2 [.slice A0_2 l0_2.length c0_2] from (Kd.FK_slice_mk (Kd.V_reads' (Kd.V_mono (ok' := (fun k_ => (P0_2_ k_ ∨ w.heap.size ≤ k_) ∧ some k_ ≠ (.slice Ao15 t6.length co15 : Value).ownBlock ∧ k_ ≠ gb1 ∧ k_ ≠ gb2 ∧ k_ ≠ gb3)) (HO0_2.out) (fun k_ hk => ⟨hk.1.1.1.1.1, ⟨hk.1.2, ⟨hk.1.1.1.1.2, ⟨hk.1.1.1.2, hk.1.1.2⟩⟩⟩⟩))).2.1 (Kd.V_F (Kd.V_mono (ok' := (fun k_ => (P0_2_ k_ ∨ w.heap.size ≤ k_) ∧ some k_ ≠ (.slice Ao15 t6.length co15 : Value).ownBlock ∧ k_ ≠ gb1 ∧ k_ ≠ gb2 ∧ k_ ≠ gb3)) (HO0_2.out) (fun k_ hk => ⟨hk.1.1.1.1.1, ⟨hk.1.2, ⟨hk.1.1.1.1.2, ⟨hk.1.1.1.2, hk.1.1.2⟩⟩⟩⟩))))) (Reps.none _ _)))); intro v24 w116 ho117 hb hg_ hnew_; clear hg_ hnew_; (first | rw [← Ny23.out] at ho117 | (simp only [Int.reduceToNat] at ho117; rw [← Ny23.out] at ho117)); have n0_ := Aside0.mk (Kd.V_elder' (by (with_reducible repeat (first | apply Kd.V_alloc | apply Kd.V_drewN | apply Kd.V_drew)); exact HO0_2.out) (Kd.N_base ho117) hb); have n1_ := Aside0.mk (Kd.R_below (rW HO8) hb); have n2_ := Aside0.mk (Kd.N_lower ho117 (below_size (hbW HB))); have n3_ := bkB BK1 hb; have n4_ := bkB BK2 hb; have n5_ := bkB BK3 hb; have n6_ := hbS HB hb; clear HO0_2; clear HO8; clear BK1; clear BK2; clear BK3; clear HB; clear HO11; have HO0_2 := n0_; have HO8 := n1_; have HO25 := n2_; have BK1 := n3_; have BK2 := n4_; have BK3 := n5_; have HB := n6_; clear n0_ n1_ n2_ n3_ n4_ n5_ n6_; clear hb ho117; obtain ⟨Ao118, co118, eo118⟩ := Kd.N_slice HO25.out; subst eo118) | ((with_reducible refine gate_callee (f := 27) rfl ?_); refine goesL_ (some 50) rfl rfl Try.func27 (by kernel_rfl) rfl #[.slice Ao118 y23.length co118] rfl (by (try simp only [List.map_toArray, List.map_cons, List.map_nil]); first | done | rfl | (simp only [List.length_drop, List.length_take]; rfl)) ?_; (with_reducible refine (q6z.calls _ _ y23 t26 _ ?side1 ?side2 A99.out).mono ?_); (case side1 => repeat (first | exact (Kd.N_reads' HO25.out).2.2 | (with_reducible refine Kd.C_alloc ?_ _) | (with_reducible refine Kd.C_drewN ?_ _) | (with_reducible refine Kd.C_drew ?_))); (case side2 => exact (Kd.N_reads' HO25.out).2.1); rintro e w119 ⟨v27, rfl, ho0, hb⟩; refine ⟨_, rfl, ?_⟩; have HO28 := Aside0.mk (Kd.R_lower (Kd.R_new' (Kd.R_newM (M := fun k_ => (w.heap.size ≤ k_)) ho0 (below_size (hbW HB)) (fun k_ h_ => h_)) (Kd.R_lt (rW HO8))) (below_size (hbW HB))); replace HO0_2 := Aside0.mk (Kd.V_elder' (by (with_reducible repeat (first | apply Kd.V_alloc | apply Kd.V_drewN | apply Kd.V_drew)); exact HO0_2.out) (Kd.R_base ho0) hb); replace HO8 := Aside0.mk (Kd.R_elder' (rW HO8) (Kd.R_base ho0) hb); replace HO25 := Aside0.mk (Kd.N_elder' (by (with_reducible repeat (first | apply Kd.N_alloc | apply Kd.N_drewN | apply Kd.N_drew)); exact HO25.out) (Kd.R_base ho0) hb); replace BK1 := bkB BK1 hb; replace BK2 := bkB BK2 hb; replace BK3 := bkB BK3 hb; replace HB := hbS HB hb; (try clear hb); (try clear hk); (try clear ho0); obtain ⟨Ao120, co120, eo120⟩ := Kd.R_slice HO28.out; subst eo120) | ((with_reducible refine gate_callee (f := 28) rfl ?_); refine goesL_ (some 51) rfl rfl Try.func28 (by kernel_rfl) rfl #[.slice Ao120 t26.length co120] rfl (by (try simp only [List.map_toArray, List.map_cons, List.map_nil]); first | done | rfl | (simp only [List.length_drop, List.length_take]; rfl)) ?_; (with_reducible refine (q7z.calls k (fun k_ => some k_ = (.slice Ao120 t26.length co120 : Value).ownBlock) (.slice Ao120 t26.length co120) t26 t29 w _ ?side1 ?side2 A100.out).mono ?_); (case side1 => exact hbW HB); (case side2 => exact Kd.R_tight rfl HO28.out); rintro e w121 ⟨v30, rfl, ho0, hb, hkp⟩; refine ⟨_, rfl, ?_⟩; have n0_ := Aside0.mk (Kd.V_mono (ok' := fun k_ => (P0_2_ k_ ∨ w.heap.size ≤ k_) ∧ some k_ ≠ (.slice Ao15 t6.length co15 : Value).ownBlock ∧ some k_ ≠ (.slice Ao118 y23.length co118 : Value).ownBlock ∧ k_ ≠ gb1 ∧ k_ ≠ gb2 ∧ k_ ≠ gb3 ∧ some k_ ≠ (v30 : Value).ownBlock) (Kd.V_keptB (HO0_2.out) hkp (fun k_ hk_ hs_ => (hk_.2) hs_)) (fun k_ hk_ => ⟨hk_.1.1.1.1.1.1.1.1, hk_.1.1.1.1.2, hk_.1.1.2, hk_.1.1.1.1.1.1.1.2, hk_.1.1.1.1.1.1.2, hk_.1.1.1.1.1.2, fun e_ => Or.elim (ho0.1 k_ e_.symm) (fun hs_ => hk_.2.1 hs_) (fun hn_ => Nat.not_le.2 hk_.2.2 hn_)⟩)); have n1_ := Aside0.mk (blk_kept (bkW BK1) hkp (fun hs_ => (fun e_ => (Kd.R_ne HO28.out BK1.out (by decide)) e_) hs_)); have n2_ := Aside0.mk (blk_kept (bkW BK2) hkp (fun hs_ => (fun e_ => (Kd.R_ne HO28.out BK2.out (by decide)) e_) hs_)); have n3_ := Aside0.mk (blk_kept (bkW BK3) hkp (fun hs_ => (fun e_ => (Kd.R_ne HO28.out BK3.out (by decide)) e_) hs_)); have n4_ := Aside0.mk (Kd.R_mono (ok' := fun k_ => (w.heap.size ≤ k_) ∧ some k_ ≠ (v30 : Value).ownBlock) (Kd.R_keptB (HO8.out) hkp (fun k_ hk_ hs_ => (hk_.2) hs_)) (fun k_ hk_ => ⟨hk_.1.1.1, fun e_ => Or.elim (ho0.1 k_ e_.symm) (fun hs_ => hk_.2.1 hs_) (fun hn_ => Nat.not_le.2 hk_.2.2 hn_)⟩)); have n5_ := Aside0.mk (Kd.N_mono (ok' := fun k_ => (P0_2_ k_ ∨ w.heap.size ≤ k_) ∧ some k_ ≠ (.slice Ao15 t6.length co15 : Value).ownBlock ∧ k_ ≠ gb1 ∧ k_ ≠ gb2 ∧ k_ ≠ gb3 ∧ some k_ ≠ (v30 : Value).ownBlock) (Kd.N_keptB (HO25.out) hkp (fun k_ hk_ hs_ => (hk_.2) hs_)) (fun k_ hk_ => ⟨hk_.1.1.1, hk_.1.1.2.1, hk_.1.1.2.2.1, hk_.1.1.2.2.2.1, hk_.1.1.2.2.2.2, fun e_ => Or.elim (ho0.1 k_ e_.symm) (fun hs_ => hk_.2.1 hs_) (fun hn_ => Nat.not_le.2 hk_.2.2 hn_)⟩)); have n6_ := Aside0.mk (Kd.R_mono (ok' := fun k_ => (w.heap.size ≤ k_) ∧ some k_ ≠ (.slice Ao15 t6.length co15 : Value).ownBlock) ho0 (fun k_ hk_ => ⟨Or.elim hk_ (fun hs_ => (HO28.out.1 k_ (hs_).symm).1.1) (fun hn_ => (Nat.le_trans (below_size (hbW HB)) hn_)), Or.elim hk_ (fun hs_ => fun e_ => (((HO8.out).1 k_ e_.symm).2) hs_) (fun hn_ => (Kd.fresh' (Kd.R_lt (rW HO8)) k_ hn_))⟩)); have n7_ := Aside0.mk (hb); clear HO0_2; clear BK1; clear BK2; clear BK3; clear HO8; clear HO25; clear HB; clear HO28; have HO0_2 := n0_; have BK1 := n1_; have BK2 := n2_; have BK3 := n3_; have HO8 := n4_; have HO25 := n5_; have HO31 := n6_; have HB := n7_; clear n0_ n1_ n2_ n3_ n4_ n5_ n6_ n7_; (try clear hb); (try clear hkp); (try clear ho0); obtain ⟨Ao122, co122, eo122⟩ := Kd.R_slice HO31.out; subst eo122; obtain ⟨hcz123_0, hcz123_1, hcz123_2, hcz123_3, hcz123_4, hcz123_5, hcz123_6, hcz123_7, hfz123_0, hfz123_1, hfz123_2, hfz123_3, hfz123_4, hfz123_5, hfz123_6, hfz123_7⟩ := bc8 BK2; obtain ⟨hcz124_0, hcz124_1, hcz124_2, hcz124_3, hcz124_4, hcz124_5, hcz124_6, hcz124_7, hfz124_0, hfz124_1, hfz124_2, hfz124_3, hfz124_4, hfz124_5, hfz124_6, hfz124_7⟩ := bc8 BK3))
        refine bodyPost_ret (results_cell_row rfl _ _ gb3 30 #[.int .u32 t4, .int .i64 t5, .slice Ao15 t6.length co15, .slice Ao122 t29.length co122, .int .u32 t12, .int .u32 t13, .int .i64 t14, .int .u32 t15] (0, 0) _ rfl (bp8 BK3) Try.underlying30 rfl (by kernel_rfl)) rfl ?_
        exact ⟨_, _, by first | rfl | (simp [errW_none, errW_some] <;> rfl) | (simp [*, errW_none, errW_some] <;> rfl), moR (rW HO8), moR (rW HO31), hbW HB⟩
       ·
        rw [if_neg c98] at H
        have c98b0 : (a0_0 == 6) = false := beq_eq_false_iff_ne.mpr c98
        have c98b1 : (a0_0 != 6) = true := bne_iff_ne.mpr c98
        by_cases c125 : a0_0 = 7
        ·
         rw [if_pos c125] at H
         have c125b0 : (a0_0 == 7) = true := beq_iff_eq.mpr c125
         have c125b1 : (a0_0 != 7) = false := bne_eq_false_iff_eq.mpr c125
         clear c125
         obtain ⟨y32, hy32⟩ : ∃ y_ : List (List Int), y_ = (([l0_2] : List (List Int))) := ⟨_, rfl⟩
         replace H : ((q6z.f y32).bind fun t35 => ((q7z.f k t35).bind fun t38 => (some (t4, t5, t6, t38, t12, t13, t14, t15)))) = some (r1, r2, r3, r4, r5, r6, r7, r8) := by first | (rw [hy32]; with_reducible exact H) | (have H2_ := (Option.bind_some _ _).symm.trans H; rw [hy32]; with_reducible exact H2_) | (have H2_ := (Option.bind_some _ _).symm.trans H; with_reducible exact H2_) | with_reducible exact H | (rw [hy32]; exact H) | exact H
         have Ny32 := Aside0.mk hy32
         clear hy32
         replace H := Option.bind_eq_some_iff.mp H
         obtain ⟨t35, A1260, H⟩ := H
         replace H : ((q7z.f k t35).bind fun t38 => (some (t4, t5, t6, t38, t12, t13, t14, t15))) = some (r1, r2, r3, r4, r5, r6, r7, r8) := H
         have A126 := Aside0.mk A1260
         clear A1260
         replace H := Option.bind_eq_some_iff.mp H
         obtain ⟨t38, A1270, H⟩ := H
         replace H : (some (t4, t5, t6, t38, t12, t13, t14, t15)) = some (r1, r2, r3, r4, r5, r6, r7, r8) := H
         have A127 := Aside0.mk A1270
         clear A1270
         simp only [Option.some.injEq, Prod.mk.injEq] at H
         obtain ⟨rfl, rfl, rfl, rfl, rfl, rfl, rfl, rfl⟩ := H
         go_wp2_with (first | ((with_reducible refine gate_dst (N := 57) rfl ?_); refine Kd.N_lit (Kd.slice 22 (Kd.int .u32)) _ 23 ?hg (N' := 57) ?hd (xs := ([l0_2] : List (List Int))) (inner := [.slice A0_2 l0_2.length c0_2]) (ok := (fun k_ => (P0_2_ k_ ∨ w.heap.size ≤ k_) ∧ some k_ ≠ (.slice Ao15 t6.length co15 : Value).ownBlock ∧ some k_ ≠ (.slice Ao16 t9.length co16 : Value).ownBlock ∧ k_ ≠ gb1 ∧ k_ ≠ gb2 ∧ k_ ≠ gb3)) (okp := (fun k_ => (P0_2_ k_ ∨ w.heap.size ≤ k_) ∧ some k_ ≠ (.slice Ao15 t6.length co15 : Value).ownBlock ∧ some k_ ≠ (.slice Ao16 t9.length co16 : Value).ownBlock ∧ k_ ≠ gb1 ∧ k_ ≠ gb2 ∧ k_ ≠ gb3)) ?hr ?hp (fun _ hk => hk) ((show ∀ k_, w19.heap.size ≤ k_ → (fun k_ => (P0_2_ k_ ∨ w.heap.size ≤ k_) ∧ some k_ ≠ (.slice Ao15 t6.length co15 : Value).ownBlock ∧ some k_ ≠ (.slice Ao16 t9.length co16 : Value).ownBlock ∧ k_ ≠ gb1 ∧ k_ ≠ gb2 ∧ k_ ≠ gb3) k_ from fun k_ hk => ⟨(.inr (Nat.le_trans (below_size (hbW HB)) hk)), Kd.fresh' (Kd.R_lt (rW HO8)) k_ hk, Kd.fresh' (Kd.R_lt (rW HO11)) k_ hk, Kd.freshB (g := gb1) (o := .cells #[.int .i64 a0_0, .int .u32 a0_1, .slice A0_2 l0_2.length c0_2, .slice A0_3 l0_3.length c0_3] 26 (0, 0)) (bkW BK1) k_ hk, Kd.freshB (g := gb2) (o := .cells #[.int .u32 t4, .int .i64 t5, .slice Ao15 t6.length co15, .slice Ao16 t9.length co16, .int .u32 t12, .int .u32 t13, .int .i64 t14, .int .u32 t15] 30 (0, 0)) (bkW BK2) k_ hk, Kd.freshB (g := gb3) (o := .cells #[.int .u32 0, .int .i64 0, .slice none 0 0, .slice none 0 0, .int .u32 0, .int .u32 0, .int .i64 0, .int .u32 0] 30 (0, 0)) (bkW BK3) k_ hk⟩) _ (Nat.le_refl _)) (Below.refl _ _) (Nat.le_refl _) (by simp) ?_; (case hd => rfl); (case hg => rfl); (case hr => first | (go_simp; done) | (go_simp; rfl)); (case hp => exact (Reps.one (show Kd.FK (Kd.slice 22 (Kd.int .u32)) _ _ l0_2 [.slice A0_2 l0_2.length c0_2] from (Kd.FK_slice_mk (Kd.V_reads' (Kd.V_mono (ok' := (fun k_ => (P0_2_ k_ ∨ w.heap.size ≤ k_) ∧ some k_ ≠ (.slice Ao15 t6.length co15 : Value).ownBlock ∧ some k_ ≠ (.slice Ao16 t9.length co16 : Value).ownBlock ∧ k_ ≠ gb1 ∧ k_ ≠ gb2 ∧ k_ ≠ gb3)) (HO0_2.out) (fun k_ hk => ⟨hk.1.1.1.1.1, ⟨hk.1.2, ⟨hk.2, ⟨hk.1.1.1.1.2, ⟨hk.1.1.1.2, hk.1.1.2⟩⟩⟩⟩⟩))).2.1 (Kd.V_F (Kd.V_mono (ok' := (fun k_ => (P0_2_ k_ ∨ w.heap.size ≤ k_) ∧ some k_ ≠ (.slice Ao15 t6.length co15 : Value).ownBlock ∧ some k_ ≠ (.slice Ao16 t9.length co16 : Value).ownBlock ∧ k_ ≠ gb1 ∧ k_ ≠ gb2 ∧ k_ ≠ gb3)) (HO0_2.out) (fun k_ hk => ⟨hk.1.1.1.1.1, ⟨hk.1.2, ⟨hk.2, ⟨hk.1.1.1.1.2, ⟨hk.1.1.1.2, hk.1.1.2⟩⟩⟩⟩⟩))))) (Reps.none _ _))); intro v33 w142 ho143 hb hg_ hnew_; clear hg_ hnew_; (first | rw [← Ny32.out] at ho143 | (simp only [Int.reduceToNat] at ho143; rw [← Ny32.out] at ho143)); have HO34 := Aside0.mk (Kd.N_lower ho143 (below_size (hbW HB))); replace HO0_2 := Aside0.mk (Kd.V_elder' (by (with_reducible repeat (first | apply Kd.V_alloc | apply Kd.V_drewN | apply Kd.V_drew)); exact HO0_2.out) (Kd.N_base ho143) hb); replace HO8 := Aside0.mk (Kd.R_below (rW HO8) hb); replace HO11 := Aside0.mk (Kd.R_below (rW HO11) hb); replace BK1 := bkB BK1 hb; replace BK2 := bkB BK2 hb; replace BK3 := bkB BK3 hb; replace HB := hbS HB hb; clear hb ho143; obtain ⟨Ao144, co144, eo144⟩ := Kd.N_slice HO34.out; subst eo144) | ((with_reducible refine gate_callee (f := 27) rfl ?_); refine goesL_ (some 58) rfl rfl Try.func27 (by kernel_rfl) rfl #[.slice Ao144 y32.length co144] rfl (by (try simp only [List.map_toArray, List.map_cons, List.map_nil]); first | done | rfl | (simp only [List.length_drop, List.length_take]; rfl)) ?_; (with_reducible refine (q6z.calls _ _ y32 t35 _ ?side1 ?side2 A126.out).mono ?_); (case side1 => repeat (first | exact (Kd.N_reads' HO34.out).2.2 | (with_reducible refine Kd.C_alloc ?_ _) | (with_reducible refine Kd.C_drewN ?_ _) | (with_reducible refine Kd.C_drew ?_))); (case side2 => exact (Kd.N_reads' HO34.out).2.1); rintro e w145 ⟨v36, rfl, ho0, hb⟩; refine ⟨_, rfl, ?_⟩; have HO37 := Aside0.mk (Kd.R_lower (Kd.R_new' (Kd.R_new' (Kd.R_newM (M := fun k_ => (w.heap.size ≤ k_)) ho0 (below_size (hbW HB)) (fun k_ h_ => h_)) (Kd.R_lt (rW HO8))) (Kd.R_lt (rW HO11))) (below_size (hbW HB))); replace HO0_2 := Aside0.mk (Kd.V_elder' (by (with_reducible repeat (first | apply Kd.V_alloc | apply Kd.V_drewN | apply Kd.V_drew)); exact HO0_2.out) (Kd.R_base ho0) hb); replace HO8 := Aside0.mk (Kd.R_elder' (rW HO8) (Kd.R_base ho0) hb); replace HO11 := Aside0.mk (Kd.R_elder' (rW HO11) (Kd.R_base ho0) hb); replace HO34 := Aside0.mk (Kd.N_elder' (by (with_reducible repeat (first | apply Kd.N_alloc | apply Kd.N_drewN | apply Kd.N_drew)); exact HO34.out) (Kd.R_base ho0) hb); replace BK1 := bkB BK1 hb; replace BK2 := bkB BK2 hb; replace BK3 := bkB BK3 hb; replace HB := hbS HB hb; (try clear hb); (try clear hk); (try clear ho0); obtain ⟨Ao146, co146, eo146⟩ := Kd.R_slice HO37.out; subst eo146) | ((with_reducible refine gate_callee (f := 28) rfl ?_); refine goesL_ (some 59) rfl rfl Try.func28 (by kernel_rfl) rfl #[.slice Ao146 t35.length co146] rfl (by (try simp only [List.map_toArray, List.map_cons, List.map_nil]); first | done | rfl | (simp only [List.length_drop, List.length_take]; rfl)) ?_; (with_reducible refine (q7z.calls k (fun k_ => some k_ = (.slice Ao146 t35.length co146 : Value).ownBlock) (.slice Ao146 t35.length co146) t35 t38 w _ ?side1 ?side2 A127.out).mono ?_); (case side1 => exact hbW HB); (case side2 => exact Kd.R_tight rfl HO37.out); rintro e w147 ⟨v39, rfl, ho0, hb, hkp⟩; refine ⟨_, rfl, ?_⟩; have n0_ := Aside0.mk (Kd.V_mono (ok' := fun k_ => (P0_2_ k_ ∨ w.heap.size ≤ k_) ∧ some k_ ≠ (.slice Ao15 t6.length co15 : Value).ownBlock ∧ some k_ ≠ (.slice Ao16 t9.length co16 : Value).ownBlock ∧ some k_ ≠ (.slice Ao144 y32.length co144 : Value).ownBlock ∧ k_ ≠ gb1 ∧ k_ ≠ gb2 ∧ k_ ≠ gb3 ∧ some k_ ≠ (v39 : Value).ownBlock) (Kd.V_keptB (HO0_2.out) hkp (fun k_ hk_ hs_ => (hk_.2) hs_)) (fun k_ hk_ => ⟨hk_.1.1.1.1.1.1.1.1, hk_.1.1.1.1.2, hk_.1.1.1.2, hk_.1.1.2, hk_.1.1.1.1.1.1.1.2, hk_.1.1.1.1.1.1.2, hk_.1.1.1.1.1.2, fun e_ => Or.elim (ho0.1 k_ e_.symm) (fun hs_ => hk_.2.1 hs_) (fun hn_ => Nat.not_le.2 hk_.2.2 hn_)⟩)); have n1_ := Aside0.mk (blk_kept (bkW BK1) hkp (fun hs_ => (fun e_ => (Kd.R_ne HO37.out BK1.out (by decide)) e_) hs_)); have n2_ := Aside0.mk (blk_kept (bkW BK2) hkp (fun hs_ => (fun e_ => (Kd.R_ne HO37.out BK2.out (by decide)) e_) hs_)); have n3_ := Aside0.mk (blk_kept (bkW BK3) hkp (fun hs_ => (fun e_ => (Kd.R_ne HO37.out BK3.out (by decide)) e_) hs_)); have n4_ := Aside0.mk (Kd.R_mono (ok' := fun k_ => (w.heap.size ≤ k_) ∧ some k_ ≠ (.slice Ao16 t9.length co16 : Value).ownBlock ∧ some k_ ≠ (v39 : Value).ownBlock) (Kd.R_keptB (HO8.out) hkp (fun k_ hk_ hs_ => (hk_.2) hs_)) (fun k_ hk_ => ⟨hk_.1.1.1, hk_.1.1.2, fun e_ => Or.elim (ho0.1 k_ e_.symm) (fun hs_ => hk_.2.1 hs_) (fun hn_ => Nat.not_le.2 hk_.2.2 hn_)⟩)); have n5_ := Aside0.mk (Kd.R_mono (ok' := fun k_ => (w.heap.size ≤ k_) ∧ some k_ ≠ (.slice Ao15 t6.length co15 : Value).ownBlock ∧ some k_ ≠ (v39 : Value).ownBlock) (Kd.R_keptB (HO11.out) hkp (fun k_ hk_ hs_ => (hk_.2) hs_)) (fun k_ hk_ => ⟨hk_.1.1.1, hk_.1.1.2, fun e_ => Or.elim (ho0.1 k_ e_.symm) (fun hs_ => hk_.2.1 hs_) (fun hn_ => Nat.not_le.2 hk_.2.2 hn_)⟩)); have n6_ := Aside0.mk (Kd.N_mono (ok' := fun k_ => (P0_2_ k_ ∨ w.heap.size ≤ k_) ∧ some k_ ≠ (.slice Ao15 t6.length co15 : Value).ownBlock ∧ some k_ ≠ (.slice Ao16 t9.length co16 : Value).ownBlock ∧ k_ ≠ gb1 ∧ k_ ≠ gb2 ∧ k_ ≠ gb3 ∧ some k_ ≠ (v39 : Value).ownBlock) (Kd.N_keptB (HO34.out) hkp (fun k_ hk_ hs_ => (hk_.2) hs_)) (fun k_ hk_ => ⟨hk_.1.1.1, hk_.1.1.2.1, hk_.1.1.2.2.1, hk_.1.1.2.2.2.1, hk_.1.1.2.2.2.2.1, hk_.1.1.2.2.2.2.2, fun e_ => Or.elim (ho0.1 k_ e_.symm) (fun hs_ => hk_.2.1 hs_) (fun hn_ => Nat.not_le.2 hk_.2.2 hn_)⟩)); have n7_ := Aside0.mk (Kd.R_mono (ok' := fun k_ => (w.heap.size ≤ k_) ∧ some k_ ≠ (.slice Ao15 t6.length co15 : Value).ownBlock ∧ some k_ ≠ (.slice Ao16 t9.length co16 : Value).ownBlock) ho0 (fun k_ hk_ => ⟨Or.elim hk_ (fun hs_ => (HO37.out.1 k_ (hs_).symm).1.1.1) (fun hn_ => (Nat.le_trans (below_size (hbW HB)) hn_)), Or.elim hk_ (fun hs_ => fun e_ => (((HO8.out).1 k_ e_.symm).2) hs_) (fun hn_ => (Kd.fresh' (Kd.R_lt (rW HO8)) k_ hn_)), Or.elim hk_ (fun hs_ => fun e_ => (((HO11.out).1 k_ e_.symm).2) hs_) (fun hn_ => (Kd.fresh' (Kd.R_lt (rW HO11)) k_ hn_))⟩)); have n8_ := Aside0.mk (hb); clear HO0_2; clear BK1; clear BK2; clear BK3; clear HO8; clear HO11; clear HO34; clear HB; clear HO37; have HO0_2 := n0_; have BK1 := n1_; have BK2 := n2_; have BK3 := n3_; have HO8 := n4_; have HO11 := n5_; have HO34 := n6_; have HO40 := n7_; have HB := n8_; clear n0_ n1_ n2_ n3_ n4_ n5_ n6_ n7_ n8_; (try clear hb); (try clear hkp); (try clear ho0); obtain ⟨Ao148, co148, eo148⟩ := Kd.R_slice HO40.out; subst eo148; obtain ⟨hcz149_0, hcz149_1, hcz149_2, hcz149_3, hcz149_4, hcz149_5, hcz149_6, hcz149_7, hfz149_0, hfz149_1, hfz149_2, hfz149_3, hfz149_4, hfz149_5, hfz149_6, hfz149_7⟩ := bc8 BK2; obtain ⟨hcz150_0, hcz150_1, hcz150_2, hcz150_3, hcz150_4, hcz150_5, hcz150_6, hcz150_7, hfz150_0, hfz150_1, hfz150_2, hfz150_3, hfz150_4, hfz150_5, hfz150_6, hfz150_7⟩ := bc8 BK3))
         refine bodyPost_ret (results_cell_row rfl _ _ gb3 30 #[.int .u32 t4, .int .i64 t5, .slice Ao15 t6.length co15, .slice Ao148 t38.length co148, .int .u32 t12, .int .u32 t13, .int .i64 t14, .int .u32 t15] (0, 0) _ rfl (bp8 BK3) Try.underlying30 rfl (by kernel_rfl)) rfl ?_
         exact ⟨_, _, by first | rfl | (simp [errW_none, errW_some] <;> rfl) | (simp [*, errW_none, errW_some] <;> rfl), moR (rW HO8), moR (rW HO40), hbW HB⟩
        ·
         rw [if_neg c125] at H
         have c125b0 : (a0_0 == 7) = false := beq_eq_false_iff_ne.mpr c125
         have c125b1 : (a0_0 != 7) = true := bne_iff_ne.mpr c125
         by_cases c151 : a0_0 = 8
         ·
          rw [if_pos c151] at H
          have c151b0 : (a0_0 == 8) = true := beq_iff_eq.mpr c151
          have c151b1 : (a0_0 != 8) = false := bne_eq_false_iff_eq.mpr c151
          clear c151
          replace H := Option.bind_eq_some_iff.mp H
          obtain ⟨t41, A1520, H⟩ := H
          replace H : ((q7z.f k t41).bind fun t44 => (some (t4, t5, t6, t44, t12, t13, t14, t15))) = some (r1, r2, r3, r4, r5, r6, r7, r8) := H
          have A152 := Aside0.mk A1520
          clear A1520
          replace H := Option.bind_eq_some_iff.mp H
          obtain ⟨t44, A1530, H⟩ := H
          replace H : (some (t4, t5, t6, t44, t12, t13, t14, t15)) = some (r1, r2, r3, r4, r5, r6, r7, r8) := H
          have A153 := Aside0.mk A1530
          clear A1530
          simp only [Option.some.injEq, Prod.mk.injEq] at H
          obtain ⟨rfl, rfl, rfl, rfl, rfl, rfl, rfl, rfl⟩ := H
          go_wp2_with (first | ((with_reducible refine gate_callee (f := 29) rfl ?_); refine goesL_ (some 66) rfl rfl Try.func29 (by kernel_rfl) rfl #[.slice Ao16 t9.length co16, .func (.func 30) #[] #[.pointer (some ⟨gb1, 0, none⟩)]] rfl (by (try simp only [List.map_toArray, List.map_cons, List.map_nil]); first | done | rfl | (simp only [List.length_drop, List.length_take]; rfl)) ?_; (with_reducible refine (act_del.calls gb1 #[.int .i64 a0_0, .int .u32 a0_1, .slice A0_2 l0_2.length c0_2, .slice A0_3 l0_3.length c0_3] (fun k_ => some k_ = (.slice Ao16 t9.length co16 : Value).ownBlock) (.slice Ao16 t9.length co16) t9 A0_3 c0_3 l0_3 t41 w _ ?side1 ?side2 ?side3 ?side4 ?sideB ?sideC ?sideG A152.out).mono ?_); (case sideB => exact (bkW BK1)); (case sideC => exact rfl); (case sideG => exact (fun hs_ => (Kd.R_ne HO11.out BK1.out (by decide)) hs_)); (case side1 => exact hbW HB); (case side2 => exact Kd.R_tight rfl HO11.out); (case side3 => exact Kd.C_kept_came k53_heap HR0_3.out (hbW HB) (fun k_ hs_ => (fun e_ => Kd.R_base HO11.out k_ e_.symm) hs_)); (case side4 => exact HC0_3.out); rintro e w169 ⟨v42, rfl, ho0, hb, hkp⟩; refine ⟨_, rfl, ?_⟩; have n0_ := Aside0.mk (Kd.V_mono (ok' := fun k_ => (P0_2_ k_ ∨ w.heap.size ≤ k_) ∧ some k_ ≠ (.slice Ao15 t6.length co15 : Value).ownBlock ∧ k_ ≠ gb1 ∧ k_ ≠ gb2 ∧ k_ ≠ gb3 ∧ some k_ ≠ (v42 : Value).ownBlock) (Kd.V_keptB (HO0_2.out) hkp (fun k_ hk_ hs_ => (hk_.2) hs_)) (fun k_ hk_ => ⟨hk_.1.1.1.1.1.1, hk_.1.1.2, hk_.1.1.1.1.1.2, hk_.1.1.1.1.2, hk_.1.1.1.2, fun e_ => Or.elim (ho0.1 k_ e_.symm) (fun hs_ => hk_.2.1 hs_) (fun hn_ => Nat.not_le.2 hk_.2.2 hn_)⟩)); have n1_ := Aside0.mk (blk_kept (bkW BK1) hkp (fun hs_ => (fun e_ => (Kd.R_ne HO11.out BK1.out (by decide)) e_) hs_)); have n2_ := Aside0.mk (blk_kept (bkW BK2) hkp (fun hs_ => (fun e_ => (Kd.R_ne HO11.out BK2.out (by decide)) e_) hs_)); have n3_ := Aside0.mk (blk_kept (bkW BK3) hkp (fun hs_ => (fun e_ => (Kd.R_ne HO11.out BK3.out (by decide)) e_) hs_)); have n4_ := Aside0.mk (Kd.R_mono (ok' := fun k_ => (w.heap.size ≤ k_) ∧ some k_ ≠ (v42 : Value).ownBlock) (Kd.R_keptB (HO8.out) hkp (fun k_ hk_ hs_ => (hk_.2) hs_)) (fun k_ hk_ => ⟨hk_.1.1, fun e_ => Or.elim (ho0.1 k_ e_.symm) (fun hs_ => hk_.2.1 hs_) (fun hn_ => Nat.not_le.2 hk_.2.2 hn_)⟩)); have n5_ := Aside0.mk (Kd.R_mono (ok' := fun k_ => (w.heap.size ≤ k_) ∧ some k_ ≠ (.slice Ao15 t6.length co15 : Value).ownBlock) ho0 (fun k_ hk_ => ⟨Or.elim hk_ (fun hs_ => (HO11.out.1 k_ (hs_).symm).1) (fun hn_ => (Nat.le_trans (below_size (hbW HB)) hn_)), Or.elim hk_ (fun hs_ => fun e_ => (((HO8.out).1 k_ e_.symm).2) hs_) (fun hn_ => (Kd.fresh' (Kd.R_lt (rW HO8)) k_ hn_))⟩)); have n6_ := Aside0.mk (hb); clear HO0_2; clear BK1; clear BK2; clear BK3; clear HO8; clear HB; clear HO11; have HO0_2 := n0_; have BK1 := n1_; have BK2 := n2_; have BK3 := n3_; have HO8 := n4_; have HO43 := n5_; have HB := n6_; clear n0_ n1_ n2_ n3_ n4_ n5_ n6_; (try clear hb); (try clear hkp); (try clear ho0); obtain ⟨Ao170, co170, eo170⟩ := Kd.R_slice HO43.out; subst eo170) | ((with_reducible refine gate_callee (f := 28) rfl ?_); refine goesL_ (some 67) rfl rfl Try.func28 (by kernel_rfl) rfl #[.slice Ao170 t41.length co170] rfl (by (try simp only [List.map_toArray, List.map_cons, List.map_nil]); first | done | rfl | (simp only [List.length_drop, List.length_take]; rfl)) ?_; (with_reducible refine (q7z.calls k (fun k_ => some k_ = (.slice Ao170 t41.length co170 : Value).ownBlock) (.slice Ao170 t41.length co170) t41 t44 w _ ?side1 ?side2 A153.out).mono ?_); (case side1 => exact hbW HB); (case side2 => exact Kd.R_tight rfl HO43.out); rintro e w171 ⟨v45, rfl, ho0, hb, hkp⟩; refine ⟨_, rfl, ?_⟩; have n0_ := Aside0.mk (Kd.V_mono (ok' := fun k_ => (P0_2_ k_ ∨ w.heap.size ≤ k_) ∧ some k_ ≠ (.slice Ao15 t6.length co15 : Value).ownBlock ∧ k_ ≠ gb1 ∧ k_ ≠ gb2 ∧ k_ ≠ gb3 ∧ some k_ ≠ (v45 : Value).ownBlock) (Kd.V_keptB (HO0_2.out) hkp (fun k_ hk_ hs_ => (hk_.2.2.2.2.2) hs_)) (fun k_ hk_ => ⟨hk_.1.1, hk_.1.2.1, hk_.1.2.2.1, hk_.1.2.2.2.1, hk_.1.2.2.2.2.1, fun e_ => Or.elim (ho0.1 k_ e_.symm) (fun hs_ => hk_.2.1 hs_) (fun hn_ => Nat.not_le.2 hk_.2.2 hn_)⟩)); have n1_ := Aside0.mk (blk_kept (bkW BK1) hkp (fun hs_ => (fun e_ => (Kd.R_ne HO43.out BK1.out (by decide)) e_) hs_)); have n2_ := Aside0.mk (blk_kept (bkW BK2) hkp (fun hs_ => (fun e_ => (Kd.R_ne HO43.out BK2.out (by decide)) e_) hs_)); have n3_ := Aside0.mk (blk_kept (bkW BK3) hkp (fun hs_ => (fun e_ => (Kd.R_ne HO43.out BK3.out (by decide)) e_) hs_)); have n4_ := Aside0.mk (Kd.R_mono (ok' := fun k_ => (w.heap.size ≤ k_) ∧ some k_ ≠ (v45 : Value).ownBlock) (Kd.R_keptB (HO8.out) hkp (fun k_ hk_ hs_ => (hk_.2) hs_)) (fun k_ hk_ => ⟨hk_.1.1, fun e_ => Or.elim (ho0.1 k_ e_.symm) (fun hs_ => hk_.2.1 hs_) (fun hn_ => Nat.not_le.2 hk_.2.2 hn_)⟩)); have n5_ := Aside0.mk (Kd.R_mono (ok' := fun k_ => (w.heap.size ≤ k_) ∧ some k_ ≠ (.slice Ao15 t6.length co15 : Value).ownBlock) ho0 (fun k_ hk_ => ⟨Or.elim hk_ (fun hs_ => (HO43.out.1 k_ (hs_).symm).1) (fun hn_ => (Nat.le_trans (below_size (hbW HB)) hn_)), Or.elim hk_ (fun hs_ => fun e_ => (((HO8.out).1 k_ e_.symm).2) hs_) (fun hn_ => (Kd.fresh' (Kd.R_lt (rW HO8)) k_ hn_))⟩)); have n6_ := Aside0.mk (hb); clear HO0_2; clear BK1; clear BK2; clear BK3; clear HO8; clear HB; clear HO43; have HO0_2 := n0_; have BK1 := n1_; have BK2 := n2_; have BK3 := n3_; have HO8 := n4_; have HO46 := n5_; have HB := n6_; clear n0_ n1_ n2_ n3_ n4_ n5_ n6_; (try clear hb); (try clear hkp); (try clear ho0); obtain ⟨Ao172, co172, eo172⟩ := Kd.R_slice HO46.out; subst eo172; obtain ⟨hcz173_0, hcz173_1, hcz173_2, hcz173_3, hcz173_4, hcz173_5, hcz173_6, hcz173_7, hfz173_0, hfz173_1, hfz173_2, hfz173_3, hfz173_4, hfz173_5, hfz173_6, hfz173_7⟩ := bc8 BK2; obtain ⟨hcz174_0, hcz174_1, hcz174_2, hcz174_3, hcz174_4, hcz174_5, hcz174_6, hcz174_7, hfz174_0, hfz174_1, hfz174_2, hfz174_3, hfz174_4, hfz174_5, hfz174_6, hfz174_7⟩ := bc8 BK3))
          refine bodyPost_ret (results_cell_row rfl _ _ gb3 30 #[.int .u32 t4, .int .i64 t5, .slice Ao15 t6.length co15, .slice Ao172 t44.length co172, .int .u32 t12, .int .u32 t13, .int .i64 t14, .int .u32 t15] (0, 0) _ rfl (bp8 BK3) Try.underlying30 rfl (by kernel_rfl)) rfl ?_
          exact ⟨_, _, by first | rfl | (simp [errW_none, errW_some] <;> rfl) | (simp [*, errW_none, errW_some] <;> rfl), moR (rW HO8), moR (rW HO46), hbW HB⟩
         ·
          rw [if_neg c151] at H
          have c151b0 : (a0_0 == 8) = false := beq_eq_false_iff_ne.mpr c151
          have c151b1 : (a0_0 != 8) = true := bne_iff_ne.mpr c151
          simp only [Option.some.injEq, Prod.mk.injEq] at H
          obtain ⟨rfl, rfl, rfl, rfl, rfl, rfl, rfl, rfl⟩ := H
          go_wp2
          refine bodyPost_ret (results_cell_row rfl _ _ gb3 30 #[.int .u32 t4, .int .i64 t5, .slice Ao15 t6.length co15, .slice Ao16 t9.length co16, .int .u32 t12, .int .u32 t13, .int .i64 t14, .int .u32 t15] (0, 0) _ rfl (bp8 BK3) Try.underlying30 rfl (by kernel_rfl)) rfl ?_
          exact ⟨_, _, by first | rfl | (simp [errW_none, errW_some] <;> rfl) | (simp [*, errW_none, errW_some] <;> rfl), moR (rW HO8), moR (rW HO11), hbW HB⟩
 ·
  replace c5 := Bool.eq_false_iff.mpr c5
  subst c5
  have H1 : (some (t4, t5, t6, t9, t12, t13, t14, t15)) = some (r1, r2, r3, r4, r5, r6, r7, r8) := by rw [if_neg (show ¬ (false = true) by decide)] at H; exact H
  clear H
  have H := H1
  clear H1
  simp only [Option.some.injEq, Prod.mk.injEq] at H
  obtain ⟨rfl, rfl, rfl, rfl, rfl, rfl, rfl, rfl⟩ := H
  go_enter Try.func13, Try.ntmps13
  go_wp2_with (first | ((with_reducible refine gate_dst (N := 2) rfl ?_); refine box_event ?hg (N := 2) ?hd (cs := #[.int .i64 a0_0, .int .u32 a0_1, .slice A0_2 l0_2.length c0_2, .slice A0_3 l0_3.length c0_3]) (t := 26) ?hr ?_; (case hd => rfl); (case hg => rfl); (case hr => first | (go_simp; done) | (go_simp; rfl)); intro gb1 hg w191 hbox hb; have BK1 := Aside0.mk (hbox); have GW1 := gwS hg HB; have GE1 := gwS hg HB; replace HO0_2 := Aside0.mk (Kd.V_below (Kd.V_elderB (by (with_reducible repeat (first | apply Kd.V_alloc | apply Kd.V_drewN | apply Kd.V_drew)); exact HO0_2.out) gb1 (Nat.le_of_eq hg.symm)) hb); replace HB := hbS HB hb; clear hb hbox hg) | ((with_reducible refine gate_dst (N := 3) rfl ?_); refine box_event ?hg (N := 3) ?hd (cs := #[.int .u32 a1_0, .int .i64 a1_1, .slice A1_2 l1_2.length c1_2, .slice A1_3 l1_3.length c1_3, .int .u32 a1_4, .int .u32 a1_5, .int .i64 a1_6, .int .u32 a1_7]) (t := 30) ?hr ?_; (case hd => rfl); (case hg => rfl); (case hr => first | (go_simp; done) | (go_simp; rfl)); intro gb2 hg w192 hbox hb; have BK2 := Aside0.mk (hbox); have GW2 := gwS hg HB; have GE2 := gwS hg HB; have NB1_2 := nbL hg BK1; have NB2_1 := nbG hg BK1; replace HO0_2 := Aside0.mk (Kd.V_below (Kd.V_elderB (by (with_reducible repeat (first | apply Kd.V_alloc | apply Kd.V_drewN | apply Kd.V_drew)); exact HO0_2.out) gb2 (Nat.le_of_eq hg.symm)) hb); replace BK1 := bkB BK1 hb; replace HB := hbS HB hb; clear hb hbox hg) | ((with_reducible refine gate_dst (N := 4) rfl ?_); refine box_event ?hg (N := 4) ?hd (cs := #[.int .u32 0, .int .i64 0, .slice none 0 0, .slice none 0 0, .int .u32 0, .int .u32 0, .int .i64 0, .int .u32 0]) (t := 30) ?hr ?_; (case hd => rfl); (case hg => rfl); (case hr => first | (go_simp; done) | (go_simp; rfl)); intro gb3 hg w193 hbox hb; have BK3 := Aside0.mk (hbox); have GW3 := gwS hg HB; have GE3 := gwS hg HB; have NB1_3 := nbL hg BK1; have NB3_1 := nbG hg BK1; have NB2_3 := nbL hg BK2; have NB3_2 := nbG hg BK2; replace HO0_2 := Aside0.mk (Kd.V_below (Kd.V_elderB (by (with_reducible repeat (first | apply Kd.V_alloc | apply Kd.V_drewN | apply Kd.V_drew)); exact HO0_2.out) gb3 (Nat.le_of_eq hg.symm)) hb); replace BK1 := bkB BK1 hb; replace BK2 := bkB BK2 hb; replace HB := hbS HB hb; clear hb hbox hg; have hnb194 := NB2_1.out; have hnc194 := NB1_2.out; have hnb195 := NB2_3.out; have hnc195 := NB3_2.out; obtain ⟨hcz196_0, hcz196_1, hcz196_2, hcz196_3, hcz196_4, hcz196_5, hcz196_6, hcz196_7, hfz196_0, hfz196_1, hfz196_2, hfz196_3, hfz196_4, hfz196_5, hfz196_6, hfz196_7⟩ := bc8 BK2) | ((with_reducible refine gate_callee (f := 26) rfl ?_); refine goesL_ (some 6) rfl rfl Try.func26 (by kernel_rfl) rfl #[.agg #[.int .u32 a1_0, .int .i64 a1_1, .slice A1_2 l1_2.length c1_2, .slice A1_3 l1_3.length c1_3, .int .u32 a1_4, .int .u32 a1_5, .int .i64 a1_6, .int .u32 a1_7]] rfl (by (try simp only [List.map_toArray, List.map_cons, List.map_nil]); first | done | rfl | (simp only [List.length_drop, List.length_take]; rfl)) ?_; (with_reducible refine (q5z.calls a1_0 a1_1 _ _ l1_2 _ _ l1_3 a1_4 a1_5 a1_6 a1_7 t4 t5 t6 t9 t12 t13 t14 t15 _ ?side1 ?side2 ?side3 ?side4 A3.out).mono ?_); (case side1 => repeat (first | exact (Kd.C_below HR1_2.out HB.out) | (with_reducible refine Kd.C_alloc ?_ _) | (with_reducible refine Kd.C_drewN ?_ _) | (with_reducible refine Kd.C_drew ?_))); (case side2 => exact HC1_2.out); (case side3 => repeat (first | exact (Kd.C_below HR1_3.out HB.out) | (with_reducible refine Kd.C_alloc ?_ _) | (with_reducible refine Kd.C_drewN ?_ _) | (with_reducible refine Kd.C_drew ?_))); (case side4 => exact HC1_3.out); rintro e w197 ⟨v7, v10, rfl, ho0, ho1, hb⟩; refine ⟨_, rfl, ?_⟩; have HO8 := Aside0.mk (Kd.R_lower (Kd.R_newM (M := fun k_ => (w.heap.size ≤ k_)) ho0 (below_size (hbW HB)) (fun k_ h_ => h_)) (below_size (hbW HB))); have HO11 := Aside0.mk (Kd.R_lower (Kd.R_newM (M := fun k_ => (w.heap.size ≤ k_)) ho1 (below_size (hbW HB)) (fun k_ h_ => h_)) (below_size (hbW HB))); replace HO0_2 := Aside0.mk (Kd.V_mono (Kd.V_told (Kd.V_told (Kd.V_old (by (with_reducible repeat (first | apply Kd.V_alloc | apply Kd.V_drewN | apply Kd.V_drew)); exact HO0_2.out) hb) (Kd.R_base ho0)) (Kd.R_base ho1)) (fun _ h_ => h_.1)); replace BK1 := bkB BK1 hb; replace BK2 := bkB BK2 hb; replace BK3 := bkB BK3 hb; replace HB := hbS HB hb; (try clear hb); (try clear hk); (try clear ho0); (try clear ho1); obtain ⟨hcz198_0, hcz198_1, hcz198_2, hcz198_3, hcz198_4, hcz198_5, hcz198_6, hcz198_7, hfz198_0, hfz198_1, hfz198_2, hfz198_3, hfz198_4, hfz198_5, hfz198_6, hfz198_7⟩ := bc8 BK2; obtain ⟨Ao199, co199, eo199⟩ := Kd.R_slice HO8.out; subst eo199; obtain ⟨Ao200, co200, eo200⟩ := Kd.R_slice HO11.out; subst eo200; have hnb201 := NB1_3.out; have hnc201 := NB3_1.out; obtain ⟨hcz202_0, hcz202_1, hcz202_2, hcz202_3, hfz202_0, hfz202_1, hfz202_2, hfz202_3⟩ := bc4 BK1) | ((with_reducible refine gate_callee (f := 14) rfl ?_); refine goesL_ (some 8) rfl rfl Try.func14 (by kernel_rfl) rfl #[.agg #[.int .i64 a0_0, .int .u32 a0_1, .slice A0_2 l0_2.length c0_2, .slice A0_3 l0_3.length c0_3]] rfl (by (try simp only [List.map_toArray, List.map_cons, List.map_nil]); first | done | rfl | (simp only [List.length_drop, List.length_take]; rfl)) ?_; (with_reducible refine (q4z.calls k a0_0 a0_1 _ _ l0_2 _ _ l0_3 false _ ?side1 ?side2 ?side3 ?side4 A4.out).mono ?_); (case side1 => refine (Kd.V_reads' (e := 22) (base := w.heap.size) (ok := fun k_ => ((((((P0_2_ k_ ∨ w.heap.size ≤ k_) ∧ k_ ≠ gb1) ∧ k_ ≠ gb2) ∧ k_ ≠ gb3) ∧ some k_ ≠ (.slice Ao199 t6.length co199 : Value).ownBlock) ∧ some k_ ≠ (.slice Ao200 t9.length co200 : Value).ownBlock)) (n := l0_2.length) (c := c0_2) ?_).2.2; exact (by (with_reducible repeat (first | apply Kd.V_alloc | apply Kd.V_drewN | apply Kd.V_drew)); exact (Kd.V_mono (Kd.V_far (p := ⟨gb2, 7, none⟩) (Kd.V_far (p := ⟨gb2, 6, none⟩) (Kd.V_far (p := ⟨gb2, 5, none⟩) (Kd.V_far (p := ⟨gb2, 4, none⟩) (Kd.V_far (p := ⟨gb2, 3, none⟩) (Kd.V_far (p := ⟨gb2, 2, none⟩) (Kd.V_far (p := ⟨gb2, 1, none⟩) (Kd.V_far (p := ⟨gb2, 0, none⟩) (Kd.V_mono HO0_2.out (fun k_ hk => (⟨hk, hk.1.1.1.2⟩ : _ ∧ k_ ≠ gb2))) (fun _ hk => hk.2) (.int .u32 t4)) (fun _ hk => hk.2) (.int .i64 t5)) (fun _ hk => hk.2) (.slice Ao199 t6.length co199)) (fun _ hk => hk.2) (.slice Ao200 t9.length co200)) (fun _ hk => hk.2) (.int .u32 t12)) (fun _ hk => hk.2) (.int .u32 t13)) (fun _ hk => hk.2) (.int .i64 t14)) (fun _ hk => hk.2) (.int .u32 t15)) (fun _ h_ => h_.1)))); (case side2 => exact (Kd.V_reads' HO0_2.out).2.1); (case side3 => exact Kd.C_below HR0_3.out (hbW HB)); (case side4 => exact HC0_3.out); rintro e w203 ⟨rfl, hb⟩; refine ⟨_, rfl, ?_⟩; replace HO0_2 := Aside0.mk (Kd.V_below (by (with_reducible repeat (first | apply Kd.V_alloc | apply Kd.V_drewN | apply Kd.V_drew)); exact (Kd.V_mono (Kd.V_far (p := ⟨gb2, 7, none⟩) (Kd.V_far (p := ⟨gb2, 6, none⟩) (Kd.V_far (p := ⟨gb2, 5, none⟩) (Kd.V_far (p := ⟨gb2, 4, none⟩) (Kd.V_far (p := ⟨gb2, 3, none⟩) (Kd.V_far (p := ⟨gb2, 2, none⟩) (Kd.V_far (p := ⟨gb2, 1, none⟩) (Kd.V_far (p := ⟨gb2, 0, none⟩) (Kd.V_mono HO0_2.out (fun k_ hk => (⟨hk, hk.1.1.1.2⟩ : _ ∧ k_ ≠ gb2))) (fun _ hk => hk.2) (.int .u32 t4)) (fun _ hk => hk.2) (.int .i64 t5)) (fun _ hk => hk.2) (.slice Ao199 t6.length co199)) (fun _ hk => hk.2) (.slice Ao200 t9.length co200)) (fun _ hk => hk.2) (.int .u32 t12)) (fun _ hk => hk.2) (.int .u32 t13)) (fun _ hk => hk.2) (.int .i64 t14)) (fun _ hk => hk.2) (.int .u32 t15)) (fun _ h_ => h_.1))) hb); replace HO8 := Aside0.mk (Kd.R_below (rW HO8) hb); replace HO11 := Aside0.mk (Kd.R_below (rW HO11) hb); replace BK1 := bvB BK1 hb; replace BK2 := Aside0.mk (blk_below (g := gb2) (o := .cells #[.int .u32 t4, .int .i64 t5, .slice Ao199 t6.length co199, .slice Ao200 t9.length co200, .int .u32 t12, .int .u32 t13, .int .i64 t14, .int .u32 t15] 30 (0, 0)) (bp8 BK2) hb); replace BK3 := bvB BK3 hb; replace HB := hbS HB hb; (try clear hb); (try clear hk); obtain ⟨hcz204_0, hcz204_1, hcz204_2, hcz204_3, hcz204_4, hcz204_5, hcz204_6, hcz204_7, hfz204_0, hfz204_1, hfz204_2, hfz204_3, hfz204_4, hfz204_5, hfz204_6, hfz204_7⟩ := bc8 BK2; obtain ⟨hcz205_0, hcz205_1, hcz205_2, hcz205_3, hcz205_4, hcz205_5, hcz205_6, hcz205_7, hfz205_0, hfz205_1, hfz205_2, hfz205_3, hfz205_4, hfz205_5, hfz205_6, hfz205_7⟩ := bc8 BK3))
  refine bodyPost_ret (results_cell_row rfl _ _ gb3 30 #[.int .u32 t4, .int .i64 t5, .slice Ao199 t6.length co199, .slice Ao200 t9.length co200, .int .u32 t12, .int .u32 t13, .int .i64 t14, .int .u32 t15] (0, 0) _ rfl (bp8 BK3) Try.underlying30 rfl (by kernel_rfl)) rfl ?_
  exact ⟨_, _, by first | rfl | (simp [errW_none, errW_some] <;> rfl) | (simp [*, errW_none, errW_some] <;> rfl), moR (rW HO8), moR (rW HO11), hbW HB⟩

/-! ### dragomanref01_Nums: function 20 -/
def q9z.l0 : Nat → List Int → List Int → Int → Int → Option (Bool)
 | 0, _, _, _, _ => none
 | k + 1, x0, x1, x12, x13 => if x13 < x12 then (if 0 ≤ x13 then (if x13 < (x0.length : Int) then (if x13 < (x1.length : Int) then (if (rd x0 x13) = (rd x1 x13) then (q9z.l0 k x0 x1 x12 (wrap64 (x13 + 1))) else (some false)) else (none)) else (none)) else (none)) else (some true)
def q9z.f (k : Nat) (l0 : List Int) (l1 : List Int) : Option (Bool) := if (l0.length : Int) = (l1.length : Int) then (q9z.l0 k l0 l1 (l0.length : Int) 0) else (some false)
theorem q9z.mono_l : ∀ k, (∀ y0 y1 y2 y3, LeO (q9z.l0 k y0 y1 y2 y3) (q9z.l0 (k + 1) y0 y1 y2 y3))
 | 0 => fun _ _ _ _ r h => by simp [q9z.l0] at h
 | k + 1 => by
  have ih0 := q9z.mono_l k
  ·
   intro y0 y1 y2 y3
   unfold q9z.l0
   repeat' first
   | (with_reducible exact ih0 _ _ _ _)
   | (with_reducible exact LeO.refl _)
   | (with_reducible exact LeO.none _)
   | (with_reducible refine LeO.ite ?_ ?_)
   | (with_reducible refine LeO.bind ?_ (fun _ => ?_))
   | exact ih0 _ _ _ _
   | exact LeO.none _
   | refine LeO.ite ?_ ?_
   | refine LeO.bind ?_ (fun _ => ?_)
theorem q9z.mono : ∀ a0 a1 k, LeO (q9z.f k a0 a1) (q9z.f (k + 1) a0 a1) := by
 intro a0 a1 k
 have ih0 := q9z.mono_l k
 unfold q9z.f
 repeat' first
   | (with_reducible exact ih0 _ _ _ _)
   | (with_reducible exact LeO.refl _)
   | (with_reducible exact LeO.none _)
   | (with_reducible refine LeO.ite ?_ ?_)
   | (with_reducible refine LeO.bind ?_ (fun _ => ?_))
   | exact ih0 _ _ _ _
   | exact LeO.none _
   | refine LeO.ite ?_ ?_
   | refine LeO.bind ?_ (fun _ => ?_)
set_option maxHeartbeats 8000000 in
set_option maxRecDepth 100000 in
theorem q9z.calls (k : Nat) (A0 : Option Addr) (c0 : Nat) (l0 : List Int) (A1 : Option Addr) (c1 : Nat) (l1 : List Int) (r : Bool) (w : World) (hr0 : Kd.C (Kd.int .u32) w A0 l0.length l0) (hc0 : l0.length ≤ c0) (hr1 : Kd.C (Kd.int .u32) w A1 l1.length l1) (hc1 : l1.length ≤ c1) (h : q9z.f k l0 l1 = some r) :
  Calls Try.prog 20 #[.slice A0 l0.length c0, .slice A1 l1.length c1] w fun e w' => e = .returned (.bool r) ∧ Drawn0 w w' := by
 have HR0 := Aside0.mk hr0
 have HC0 := Aside0.mk hc0
 clear hr0 hc0
 have HR1 := Aside0.mk hr1
 have HC1 := Aside0.mk hc1
 clear hr1 hc1
 have H : (if (l0.length : Int) = (l1.length : Int) then (q9z.l0 k l0 l1 (l0.length : Int) 0) else (some false)) = some r := h
 clear h
 by_cases c3 : (l0.length : Int) = (l1.length : Int)
 ·
  rw [if_pos c3] at H
  have c3b0 : ((l0.length : Int) == (l1.length : Int)) = true := beq_iff_eq.mpr c3
  have c3b1 : ((l0.length : Int) != (l1.length : Int)) = false := bne_eq_false_iff_eq.mpr c3
  have c3b2 : (l0.length == l1.length) = true := by first | simpa using c3 | (simp at c3 ⊢; omega)
  clear c3
  have H' := Aside0.mk H
  clear H
  go_enter Try.func20, Try.ntmps20
  go_wp2
  repeat (go_quiet (fail); try go_wp2)
  go_loopg [13] k (fun kq v13 w' => ∃ (x13_1 : Int), v13 = .int .i64 x13_1 ∧ Aside0 (q9z.l0 kq l0 l1 (l0.length : Int) x13_1 = some r) ∧ Aside0 (kq ≤ k) ∧ Drawn0 w w')
  case atStart => exact ⟨(0), (by first | rfl | (simp; done) | (simp [*]; done)), H', ⟨Nat.le_refl _⟩, by repeat (first | exact Drawn0.refl _ | apply Drawn0.step)⟩
  case round =>
   clear H'
   try clear c1
   try clear c2
   try clear p2
   try clear c3
   try clear c3b0
   try clear c3b1
   try clear c3b2
   obtain ⟨x13_1, rfl, HA, HK1, ⟨m1, rfl⟩⟩ := hrel
   cases gk with
   | zero => exact absurd HA.out (by simp [q9z.l0])
   | succ k1 =>
    have H := HA.out
    clear HA
    simp only [q9z.l0] at H
    by_cases c4 : x13_1 < (l0.length : Int)
    ·
     rw [if_pos c4] at H
     have c4b0 : decide (x13_1 < (l0.length : Int)) = true := decide_eq_true c4
     clear c4
     by_cases c5 : 0 ≤ x13_1
     ·
      rw [if_pos c5] at H
      have c5b0 : decide (0 ≤ x13_1) = true := decide_eq_true c5
      clear c5
      by_cases c6 : x13_1 < (l0.length : Int)
      ·
       rw [if_pos c6] at H
       have c6b0 : decide (x13_1 < (l0.length : Int)) = true := decide_eq_true c6
       clear c6
       by_cases c7 : x13_1 < (l1.length : Int)
       ·
        rw [if_pos c7] at H
        have c7b0 : decide (x13_1 < (l1.length : Int)) = true := decide_eq_true c7
        clear c7
        by_cases c8 : (rd l0 x13_1) = (rd l1 x13_1)
        ·
         rw [if_pos c8] at H
         have c8b0 : ((rd l0 x13_1) == (rd l1 x13_1)) = true := beq_iff_eq.mpr c8
         have c8b1 : ((rd l0 x13_1) != (rd l1 x13_1)) = false := bne_eq_false_iff_eq.mpr c8
         clear c8
         have H' := Aside0.mk H
         clear H
         have p1 : 0 ≤ (x13_1 : Int) := of_decide_eq_true (by first | (with_reducible assumption) | assumption)
         have q1 : x13_1 < (l0.length : Int) := of_decide_eq_true (by first | (with_reducible assumption) | assumption)
         obtain ⟨ad1, e1, hx1_0⟩ := Kd.at_int HR0.out x13_1 p1 q1
         cases e1
         replace p1 := eq_true p1
         replace q1 := eq_true q1
         have p2 : 0 ≤ (x13_1 : Int) := of_decide_eq_true (by first | (with_reducible assumption) | assumption)
         have q2 : x13_1 < (l1.length : Int) := of_decide_eq_true (by first | (with_reducible assumption) | assumption)
         obtain ⟨ad2, e2, hx2_0⟩ := Kd.at_int HR1.out x13_1 p2 q2
         cases e2
         replace p2 := eq_true p2
         replace q2 := eq_true q2
         go_wp2
         repeat (go_quiet (fail); try go_wp2)
         go_roundg k1
         case measure => have := HK1.out; omega
         case rel => exact ⟨(wrap64 (x13_1 + 1)), (by first | rfl | (simp; done) | (simp [*]; done)), H', ⟨by have := HK1.out; omega⟩, by repeat (first | exact Drawn0.refl _ | apply Drawn0.step)⟩
        ·
         rw [if_neg c8] at H
         have c8b0 : ((rd l0 x13_1) == (rd l1 x13_1)) = false := beq_eq_false_iff_ne.mpr c8
         have c8b1 : ((rd l0 x13_1) != (rd l1 x13_1)) = true := bne_iff_ne.mpr c8
         obtain rfl := Option.some.inj H
         have p1 : 0 ≤ (x13_1 : Int) := of_decide_eq_true (by first | (with_reducible assumption) | assumption)
         have q1 : x13_1 < (l0.length : Int) := of_decide_eq_true (by first | (with_reducible assumption) | assumption)
         obtain ⟨ad1, e1, hx1_0⟩ := Kd.at_int HR0.out x13_1 p1 q1
         cases e1
         replace p1 := eq_true p1
         replace q1 := eq_true q1
         have p2 : 0 ≤ (x13_1 : Int) := of_decide_eq_true (by first | (with_reducible assumption) | assumption)
         have q2 : x13_1 < (l1.length : Int) := of_decide_eq_true (by first | (with_reducible assumption) | assumption)
         obtain ⟨ad2, e2, hx2_0⟩ := Kd.at_int HR1.out x13_1 p2 q2
         cases e2
         replace p2 := eq_true p2
         replace q2 := eq_true q2
         go_wp2
         repeat (go_quiet (fail); try go_wp2)
         go_ret
         exact ⟨by first | rfl | (simp; done) | (simp [*]; done), by repeat (first | exact Drawn0.refl _ | apply Drawn0.step)⟩
       ·
        rw [if_neg c7] at H
        exact absurd H (by simp)
      ·
       rw [if_neg c6] at H
       exact absurd H (by simp)
     ·
      rw [if_neg c5] at H
      exact absurd H (by simp)
    ·
     rw [if_neg c4] at H
     have c4b0 : decide (x13_1 < (l0.length : Int)) = false := decide_eq_false c4
     clear c4
     obtain rfl := Option.some.inj H
     go_wp2
     repeat (go_quiet (fail); try go_wp2)
     go_ret
     exact ⟨by first | rfl | (simp; done) | (simp [*]; done), by repeat (first | exact Drawn0.refl _ | apply Drawn0.step)⟩
 ·
  rw [if_neg c3] at H
  have c3b0 : ((l0.length : Int) == (l1.length : Int)) = false := beq_eq_false_iff_ne.mpr c3
  have c3b1 : ((l0.length : Int) != (l1.length : Int)) = true := bne_iff_ne.mpr c3
  have c3b2 : (l0.length == l1.length) = false := by first | simpa using c3 | (simp at c3 ⊢; omega)
  obtain rfl := Option.some.inj H
  go_enter Try.func20, Try.ntmps20
  go_wp2
  repeat (go_quiet (fail); try go_wp2)
  go_ret
  exact ⟨by first | rfl | (simp; done) | (simp [*]; done), by repeat (first | exact Drawn0.refl _ | apply Drawn0.step)⟩

/-! ### dragomanref02_In: function 60 -/
def q10z.f (a0_0 : Int) (a0_1 : Int) (a1 : Int) : Option (Bool) := if ((Int.tdiv a1 65536) % 4294967296) ≥ ((Int.tdiv a0_0 65536) % 4294967296) then (if ((Int.tdiv a1 65536) % 4294967296) ≤ ((Int.tdiv a0_1 65536) % 4294967296) then (if (Int.tmod a1 65536) ≥ (Int.tmod a0_0 65536) then (some (decide ((Int.tmod a1 65536) ≤ (Int.tmod a0_1 65536)))) else (some false)) else (some false)) else (some false)
set_option maxHeartbeats 8000000 in
set_option maxRecDepth 100000 in
theorem q10z.calls (a0_0 : Int) (a0_1 : Int) (a1 : Int) (r : Bool) (w : World) (h : q10z.f a0_0 a0_1 a1 = some r) :
  Calls Try.prog 60 #[.agg #[.int .u32 a0_0, .int .u32 a0_1], .int .u32 a1] w fun e w' => e = .returned (.bool r) ∧ Below w.heap.size w w' := by
 have hu50 := Try.underlying50
 have HB := Aside0.mk (Below.refl w.heap.size w)
 have H : (if ((Int.tdiv a1 65536) % 4294967296) ≥ ((Int.tdiv a0_0 65536) % 4294967296) then (if ((Int.tdiv a1 65536) % 4294967296) ≤ ((Int.tdiv a0_1 65536) % 4294967296) then (if (Int.tmod a1 65536) ≥ (Int.tmod a0_0 65536) then (some (decide ((Int.tmod a1 65536) ≤ (Int.tmod a0_1 65536)))) else (some false)) else (some false)) else (some false)) = some r := h
 clear h
 by_cases c3 : ((Int.tdiv a1 65536) % 4294967296) ≥ ((Int.tdiv a0_0 65536) % 4294967296)
 ·
  rw [if_pos c3] at H
  have c3b0 : decide (((Int.tdiv a0_0 65536) % 4294967296) ≤ ((Int.tdiv a1 65536) % 4294967296)) = true := decide_eq_true c3
  clear c3
  by_cases c4 : ((Int.tdiv a1 65536) % 4294967296) ≤ ((Int.tdiv a0_1 65536) % 4294967296)
  ·
   rw [if_pos c4] at H
   have c4b0 : decide (((Int.tdiv a1 65536) % 4294967296) ≤ ((Int.tdiv a0_1 65536) % 4294967296)) = true := decide_eq_true c4
   clear c4
   by_cases c5 : (Int.tmod a1 65536) ≥ (Int.tmod a0_0 65536)
   ·
    rw [if_pos c5] at H
    have c5b0 : decide ((Int.tmod a0_0 65536) ≤ (Int.tmod a1 65536)) = true := decide_eq_true c5
    clear c5
    obtain rfl := Option.some.inj H
    go_enter Try.func60, Try.ntmps60
    go_wp2_with (first | ((with_reducible refine gate_dst (N := 2) rfl ?_); refine box_event ?hg (N := 2) ?hd (cs := #[.int .u32 a0_0, .int .u32 a0_1]) (t := 50) ?hr ?_; (case hd => rfl); (case hg => rfl); (case hr => first | (go_simp; done) | (go_simp; rfl)); intro gb1 hg w6 hbox hb; have BK1 := Aside0.mk (hbox); have GW1 := gwS hg HB; have GE1 := gwS hg HB; replace HB := hbS HB hb; clear hb hbox hg; obtain ⟨hcz7_0, hcz7_1, hfz7_0, hfz7_1⟩ := bc2 BK1))
    go_ret
    exact ⟨by first | rfl | (simp [errW_none, errW_some] <;> rfl) | (simp [*, errW_none, errW_some] <;> rfl), hbW HB⟩
   ·
    rw [if_neg c5] at H
    have c5b0 : decide ((Int.tmod a0_0 65536) ≤ (Int.tmod a1 65536)) = false := decide_eq_false c5
    clear c5
    obtain rfl := Option.some.inj H
    go_enter Try.func60, Try.ntmps60
    go_wp2_with (first | ((with_reducible refine gate_dst (N := 2) rfl ?_); refine box_event ?hg (N := 2) ?hd (cs := #[.int .u32 a0_0, .int .u32 a0_1]) (t := 50) ?hr ?_; (case hd => rfl); (case hg => rfl); (case hr => first | (go_simp; done) | (go_simp; rfl)); intro gb1 hg w8 hbox hb; have BK1 := Aside0.mk (hbox); have GW1 := gwS hg HB; have GE1 := gwS hg HB; replace HB := hbS HB hb; clear hb hbox hg; obtain ⟨hcz9_0, hcz9_1, hfz9_0, hfz9_1⟩ := bc2 BK1))
    go_ret
    exact ⟨by first | rfl | (simp [errW_none, errW_some] <;> rfl) | (simp [*, errW_none, errW_some] <;> rfl), hbW HB⟩
  ·
   rw [if_neg c4] at H
   have c4b0 : decide (((Int.tdiv a1 65536) % 4294967296) ≤ ((Int.tdiv a0_1 65536) % 4294967296)) = false := decide_eq_false c4
   clear c4
   obtain rfl := Option.some.inj H
   go_enter Try.func60, Try.ntmps60
   go_wp2_with (first | ((with_reducible refine gate_dst (N := 2) rfl ?_); refine box_event ?hg (N := 2) ?hd (cs := #[.int .u32 a0_0, .int .u32 a0_1]) (t := 50) ?hr ?_; (case hd => rfl); (case hg => rfl); (case hr => first | (go_simp; done) | (go_simp; rfl)); intro gb1 hg w10 hbox hb; have BK1 := Aside0.mk (hbox); have GW1 := gwS hg HB; have GE1 := gwS hg HB; replace HB := hbS HB hb; clear hb hbox hg; obtain ⟨hcz11_0, hcz11_1, hfz11_0, hfz11_1⟩ := bc2 BK1))
   go_ret
   exact ⟨by first | rfl | (simp [errW_none, errW_some] <;> rfl) | (simp [*, errW_none, errW_some] <;> rfl), hbW HB⟩
 ·
  rw [if_neg c3] at H
  have c3b0 : decide (((Int.tdiv a0_0 65536) % 4294967296) ≤ ((Int.tdiv a1 65536) % 4294967296)) = false := decide_eq_false c3
  clear c3
  obtain rfl := Option.some.inj H
  go_enter Try.func60, Try.ntmps60
  go_wp2_with (first | ((with_reducible refine gate_dst (N := 2) rfl ?_); refine box_event ?hg (N := 2) ?hd (cs := #[.int .u32 a0_0, .int .u32 a0_1]) (t := 50) ?hr ?_; (case hd => rfl); (case hg => rfl); (case hr => first | (go_simp; done) | (go_simp; rfl)); intro gb1 hg w12 hbox hb; have BK1 := Aside0.mk (hbox); have GW1 := gwS hg HB; have GE1 := gwS hg HB; replace HB := hbS HB hb; clear hb hbox hg; obtain ⟨hcz13_0, hcz13_1, hfz13_0, hfz13_1⟩ := bc2 BK1))
  go_ret
  exact ⟨by first | rfl | (simp [errW_none, errW_some] <;> rfl) | (simp [*, errW_none, errW_some] <;> rfl), hbW HB⟩

/-! ### dragomanref11_all: function 39 -/
mutual
def q11z.l0 : Nat → List Int → List (S50) → Int → Int → Option (Bool)
 | 0, _, _, _, _ => none
 | k + 1, x1, x10, x11, x12 => if x12 < x11 then (if 0 ≤ x12 then (if x12 < (x10.length : Int) then (q11z.l1 k x1 false x10 x11 x12 x1 (x1.length : Int) 0 ((rd_T50 x10 x12).f0) ((rd_T50 x10 x12).f1)) else (none)) else (none)) else (some true)
def q11z.l1 : Nat → List Int → Bool → List (S50) → Int → Int → List Int → Int → Int → Int → Int → Option (Bool)
 | 0, _, _, _, _, _, _, _, _, _, _ => none
 | k + 1, x1, x7, x10, x11, x12, x16, x17, x18, x3000, x3001 => if x18 < x17 then (if 0 ≤ x18 then (if x18 < (x16.length : Int) then (if x7 = true then (q11z.l1 k x1 true x10 x11 x12 x16 x17 (wrap64 (x18 + 1)) x3000 x3001) else ((q10z.f x3000 x3001 (rd x16 x18)).bind fun t4 => (q11z.l1 k x1 t4 x10 x11 x12 x16 x17 (wrap64 (x18 + 1)) x3000 x3001))) else (none)) else (none)) else (if x7 = true then (q11z.l0 k x1 x10 x11 (wrap64 (x12 + 1))) else (some false))
end
def q11z.f (k : Nat) (l0 : List (S50)) (l1 : List Int) : Option (Bool) := q11z.l0 k l1 l0 (l0.length : Int) 0
theorem q11z.mono_l : ∀ k, (∀ y0 y1 y2 y3, LeO (q11z.l0 k y0 y1 y2 y3) (q11z.l0 (k + 1) y0 y1 y2 y3)) ∧ (∀ y0 y1 y2 y3 y4 y5 y6 y7 y8 y9, LeO (q11z.l1 k y0 y1 y2 y3 y4 y5 y6 y7 y8 y9) (q11z.l1 (k + 1) y0 y1 y2 y3 y4 y5 y6 y7 y8 y9))
 | 0 => ⟨fun _ _ _ _ r h => by simp [q11z.l0] at h, fun _ _ _ _ _ _ _ _ _ _ r h => by simp [q11z.l1] at h⟩
 | k + 1 => by
  obtain ⟨ih0, ih1⟩ := q11z.mono_l k
  refine ⟨?_, ?_⟩
  ·
   intro y0 y1 y2 y3
   unfold q11z.l0
   repeat' first
   | (with_reducible exact ih0 _ _ _ _)
   | (with_reducible exact ih1 _ _ _ _ _ _ _ _ _ _)
   | (with_reducible exact LeO.refl _)
   | (with_reducible exact LeO.none _)
   | (with_reducible refine LeO.ite ?_ ?_)
   | (with_reducible refine LeO.bind ?_ (fun _ => ?_))
   | exact ih0 _ _ _ _
   | exact ih1 _ _ _ _ _ _ _ _ _ _
   | exact LeO.none _
   | refine LeO.ite ?_ ?_
   | refine LeO.bind ?_ (fun _ => ?_)
  ·
   intro y0 y1 y2 y3 y4 y5 y6 y7 y8 y9
   unfold q11z.l1
   repeat' first
   | (with_reducible exact ih0 _ _ _ _)
   | (with_reducible exact ih1 _ _ _ _ _ _ _ _ _ _)
   | (with_reducible exact LeO.refl _)
   | (with_reducible exact LeO.none _)
   | (with_reducible refine LeO.ite ?_ ?_)
   | (with_reducible refine LeO.bind ?_ (fun _ => ?_))
   | exact ih0 _ _ _ _
   | exact ih1 _ _ _ _ _ _ _ _ _ _
   | exact LeO.none _
   | refine LeO.ite ?_ ?_
   | refine LeO.bind ?_ (fun _ => ?_)
theorem q11z.mono : ∀ a0 a1 k, LeO (q11z.f k a0 a1) (q11z.f (k + 1) a0 a1) := by
 intro a0 a1 k
 obtain ⟨ih0, ih1⟩ := q11z.mono_l k
 unfold q11z.f
 repeat' first
   | (with_reducible exact ih0 _ _ _ _)
   | (with_reducible exact ih1 _ _ _ _ _ _ _ _ _ _)
   | (with_reducible exact LeO.refl _)
   | (with_reducible exact LeO.none _)
   | (with_reducible refine LeO.ite ?_ ?_)
   | (with_reducible refine LeO.bind ?_ (fun _ => ?_))
   | exact ih0 _ _ _ _
   | exact ih1 _ _ _ _ _ _ _ _ _ _
   | exact LeO.none _
   | refine LeO.ite ?_ ?_
   | refine LeO.bind ?_ (fun _ => ?_)
set_option maxHeartbeats 8000000 in
set_option maxRecDepth 100000 in
theorem q11z.calls (k : Nat) (A0 : Option Addr) (c0 : Nat) (l0 : List (S50)) (A1 : Option Addr) (c1 : Nat) (l1 : List Int) (r : Bool) (w : World) (hr0 : Kd.C k50 w A0 l0.length l0) (hc0 : l0.length ≤ c0) (hr1 : Kd.C (Kd.int .u32) w A1 l1.length l1) (hc1 : l1.length ≤ c1) (h : q11z.f k l0 l1 = some r) :
  Calls Try.prog 39 #[.slice A0 l0.length c0, .slice A1 l1.length c1] w fun e w' => e = .returned (.bool r) ∧ Below w.heap.size w w' := by
 have hu50 := Try.underlying50
 have HR0 := Aside0.mk hr0
 have HC0 := Aside0.mk hc0
 clear hr0 hc0
 have HR1 := Aside0.mk hr1
 have HC1 := Aside0.mk hc1
 clear hr1 hc1
 have HB := Aside0.mk (Below.refl w.heap.size w)
 have H : (q11z.l0 k l1 l0 (l0.length : Int) 0) = some r := h
 clear h
 have H' := Aside0.mk H
 clear H
 go_enter Try.func39, Try.ntmps39
 go_wp2
 go_loopg [12] k (fun kq v12 w' => ∃ (x12_1 : Int), v12 = .int .i64 x12_1 ∧ Aside0 (q11z.l0 kq l1 l0 (l0.length : Int) x12_1 = some r) ∧ Aside0 (kq ≤ k) ∧ Aside0 (Below w.heap.size w w'))
 case atStart => exact ⟨(0), (by first | rfl | (simp; done) | (simp [*]; done)), H', ⟨Nat.le_refl _⟩, ⟨hbW HB⟩⟩
 case round =>
  clear H'
  try clear c1
  try clear p2
  obtain ⟨x12_1, rfl, HA, HK1, HB⟩ := hrel
  cases gk with
  | zero => exact absurd HA.out (by simp [q11z.l0])
  | succ k1 =>
   have H := HA.out
   clear HA
   simp only [q11z.l0] at H
   by_cases c3 : x12_1 < (l0.length : Int)
   ·
    rw [if_pos c3] at H
    have c3b0 : decide (x12_1 < (l0.length : Int)) = true := decide_eq_true c3
    clear c3
    by_cases c4 : 0 ≤ x12_1
    ·
     rw [if_pos c4] at H
     have c4b0 : decide (0 ≤ x12_1) = true := decide_eq_true c4
     clear c4
     by_cases c5 : x12_1 < (l0.length : Int)
     ·
      rw [if_pos c5] at H
      have c5b0 : decide (x12_1 < (l0.length : Int)) = true := decide_eq_true c5
      clear c5
      have H' := Aside0.mk H
      clear H
      have p1 : 0 ≤ (x12_1 : Int) := of_decide_eq_true (by first | (with_reducible assumption) | assumption)
      have q1 : x12_1 < (l0.length : Int) := of_decide_eq_true (by first | (with_reducible assumption) | assumption)
      obtain ⟨ad1, e1, hx1_0, hx1_1⟩ := at_T50 HR0.out x12_1 p1 q1
      cases e1
      replace hx1_0 := (HB.out.cell (World.block_lt_of_cell? w _ hx1_0)).trans hx1_0
      replace hx1_1 := (HB.out.cell (World.block_lt_of_cell? w _ hx1_1)).trans hx1_1
      replace p1 := eq_true p1
      replace q1 := eq_true q1
      go_wp2_with (first | ((with_reducible refine gate_dst (N := 6) rfl ?_); refine box_event ?hg (N := 6) ?hd (cs := #[.int .u32 0, .int .u32 0]) (t := 50) ?hr ?_; (case hd => rfl); (case hg => rfl); (case hr => first | (go_simp; done) | (go_simp; rfl)); intro gb2 hg w6 hbox hb; have BK2 := Aside0.mk (hbox); have GW2 := gwS hg HB; have GE2 := gwS hg HB; replace HB := hbS HB hb; clear hb hbox hg; obtain ⟨hcz7_0, hcz7_1, hfz7_0, hfz7_1⟩ := bc2 BK2))
      go_loopg [7, 18] k1 (fun kq v7 v18 w' => ∃ (x7_2 : Bool) (x18_2 : Int), v7 = .bool x7_2 ∧ v18 = .int .i64 x18_2 ∧ Aside0 (q11z.l1 kq l1 x7_2 l0 (l0.length : Int) x12_1 l1 (l1.length : Int) x18_2 ((rd_T50 l0 x12_1).f0) ((rd_T50 l0 x12_1).f1) = some r) ∧ Aside0 (kq ≤ k1) ∧ Aside0 (w'.heap[gb2]? = some (.cells #[.int .u32 ((rd_T50 l0 x12_1).f0), .int .u32 ((rd_T50 l0 x12_1).f1)] 50 (0, 0))) ∧ Aside0 (Below w.heap.size w w'))
      case atStart => exact ⟨(false), (0), (by first | rfl | (simp; done) | (simp [*]; done)), (by first | rfl | (simp; done) | (simp [*]; done)), H', ⟨Nat.le_refl _⟩, ⟨by (with_reducible repeat (first | refine blk_drewN ?_ _ | refine blk_drew ?_ | refine blk_alloc ?_ _)); refine blk_put (cs := #[.int .u32 ((rd_T50 l0 x12_1).f0), .int .u32 0]) ?_ 1 _ rfl; (with_reducible repeat (first | refine blk_drewN ?_ _ | refine blk_drew ?_ | refine blk_alloc ?_ _)); refine blk_put (cs := #[.int .u32 0, .int .u32 0]) ?_ 0 _ rfl; (with_reducible repeat (first | refine blk_drewN ?_ _ | refine blk_drew ?_ | refine blk_alloc ?_ _)); exact BK2.out⟩, ⟨hbW HB⟩⟩
      case round =>
       clear H'
       try clear c1
       try clear p1
       try clear q1
       try clear hx1
       try clear p2
       try clear c3
       try clear c3b0
       try clear c4
       try clear c4b0
       try clear c5
       try clear c5b0
       try clear hcz7_0 hcz7_1
       try clear hfz7_0 hfz7_1
       try clear hx1_0
       try clear hx1_1
       try clear p1
       try clear p2
       try clear q1
       obtain ⟨x7_2, x18_2, rfl, rfl, HA, HK2, BK2, HB⟩ := hrel
       cases gk with
       | zero => exact absurd HA.out (by simp [q11z.l1])
       | succ k2 =>
        have H := HA.out
        clear HA
        simp only [q11z.l1] at H
        by_cases c8 : x18_2 < (l1.length : Int)
        ·
         rw [if_pos c8] at H
         have c8b0 : decide (x18_2 < (l1.length : Int)) = true := decide_eq_true c8
         clear c8
         by_cases c9 : 0 ≤ x18_2
         ·
          rw [if_pos c9] at H
          have c9b0 : decide (0 ≤ x18_2) = true := decide_eq_true c9
          clear c9
          by_cases c10 : x18_2 < (l1.length : Int)
          ·
           rw [if_pos c10] at H
           have c10b0 : decide (x18_2 < (l1.length : Int)) = true := decide_eq_true c10
           clear c10
           by_cases c11 : x7_2 = true
           ·
            subst c11
            have H1 : (q11z.l1 k2 l1 true l0 (l0.length : Int) x12_1 l1 (l1.length : Int) (wrap64 (x18_2 + 1)) ((rd_T50 l0 x12_1).f0) ((rd_T50 l0 x12_1).f1)) = some r := by rw [if_pos rfl] at H; exact H
            clear H
            have H := H1
            clear H1
            have H' := Aside0.mk H
            clear H
            have p3 : 0 ≤ (x18_2 : Int) := of_decide_eq_true (by first | (with_reducible assumption) | assumption)
            have q3 : x18_2 < (l1.length : Int) := of_decide_eq_true (by first | (with_reducible assumption) | assumption)
            obtain ⟨ad3, e3, hx3_0⟩ := Kd.at_int HR1.out x18_2 p3 q3
            cases e3
            replace hx3_0 := (HB.out.cell (World.block_lt_of_cell? w _ hx3_0)).trans hx3_0
            replace p3 := eq_true p3
            replace q3 := eq_true q3
            go_wp2
            go_roundg k2
            case measure => have := HK1.out; have := HK2.out; omega
            case rel => exact ⟨(true), (wrap64 (x18_2 + 1)), (by first | rfl | (simp; done) | (simp [*]; done)), (by first | rfl | (simp; done) | (simp [*]; done)), H', ⟨by have := HK1.out; have := HK2.out; omega⟩, ⟨by (with_reducible repeat (first | refine blk_drewN ?_ _ | refine blk_drew ?_ | refine blk_alloc ?_ _)); exact BK2.out⟩, ⟨hbW HB⟩⟩
           ·
            replace c11 := Bool.eq_false_iff.mpr c11
            subst c11
            have H1 : ((q10z.f ((rd_T50 l0 x12_1).f0) ((rd_T50 l0 x12_1).f1) (rd l1 x18_2)).bind fun t4 => (q11z.l1 k2 l1 t4 l0 (l0.length : Int) x12_1 l1 (l1.length : Int) (wrap64 (x18_2 + 1)) ((rd_T50 l0 x12_1).f0) ((rd_T50 l0 x12_1).f1))) = some r := by rw [if_neg (show ¬ (false = true) by decide)] at H; exact H
            clear H
            have H := H1
            clear H1
            replace H := Option.bind_eq_some_iff.mp H
            obtain ⟨t4, A120, H⟩ := H
            replace H : (q11z.l1 k2 l1 t4 l0 (l0.length : Int) x12_1 l1 (l1.length : Int) (wrap64 (x18_2 + 1)) ((rd_T50 l0 x12_1).f0) ((rd_T50 l0 x12_1).f1)) = some r := H
            have A12 := Aside0.mk A120
            clear A120
            have H' := Aside0.mk H
            clear H
            have p3 : 0 ≤ (x18_2 : Int) := of_decide_eq_true (by first | (with_reducible assumption) | assumption)
            have q3 : x18_2 < (l1.length : Int) := of_decide_eq_true (by first | (with_reducible assumption) | assumption)
            obtain ⟨ad3, e3, hx3_0⟩ := Kd.at_int HR1.out x18_2 p3 q3
            cases e3
            replace hx3_0 := (HB.out.cell (World.block_lt_of_cell? w _ hx3_0)).trans hx3_0
            replace p3 := eq_true p3
            replace q3 := eq_true q3
            obtain ⟨hcz13_0, hcz13_1, hfz13_0, hfz13_1⟩ := bc2 BK2
            go_wp2_with (first | (go_at_call 60; (with_reducible refine (q10z.calls ((rd_T50 l0 x12_1).f0) ((rd_T50 l0 x12_1).f1) (rd l1 x18_2) t4 _ A12.out).mono ?_); rintro e w14 ⟨rfl, hb⟩; replace BK2 := bkB BK2 hb; replace HB := hbS HB hb; (try clear hb)))
            go_roundg k2
            case measure => have := HK1.out; have := HK2.out; omega
            case rel => exact ⟨(t4), (wrap64 (x18_2 + 1)), (by first | rfl | (simp; done) | (simp [*]; done)), (by first | rfl | (simp; done) | (simp [*]; done)), H', ⟨by have := HK1.out; have := HK2.out; omega⟩, ⟨by (with_reducible repeat (first | refine blk_drewN ?_ _ | refine blk_drew ?_ | refine blk_alloc ?_ _)); exact BK2.out⟩, ⟨hbW HB⟩⟩
          ·
           rw [if_neg c10] at H
           exact absurd H (by simp)
         ·
          rw [if_neg c9] at H
          exact absurd H (by simp)
        ·
         rw [if_neg c8] at H
         have c8b0 : decide (x18_2 < (l1.length : Int)) = false := decide_eq_false c8
         clear c8
         by_cases c15 : x7_2 = true
         ·
          subst c15
          have H1 : (q11z.l0 k2 l1 l0 (l0.length : Int) (wrap64 (x12_1 + 1))) = some r := by rw [if_pos rfl] at H; exact H
          clear H
          have H := H1
          clear H1
          have H' := Aside0.mk H
          clear H
          go_wp2
          go_roundg k2
          case measure => have := HK1.out; have := HK2.out; omega
          case rel => exact ⟨(wrap64 (x12_1 + 1)), (by first | rfl | (simp; done) | (simp [*]; done)), H', ⟨by have := HK1.out; have := HK2.out; omega⟩, ⟨hbW HB⟩⟩
         ·
          replace c15 := Bool.eq_false_iff.mpr c15
          subst c15
          have H1 : (some false) = some r := by rw [if_neg (show ¬ (false = true) by decide)] at H; exact H
          clear H
          have H := H1
          clear H1
          obtain rfl := Option.some.inj H
          go_wp2
          go_ret
          exact ⟨by first | rfl | (simp [errW_none, errW_some] <;> rfl) | (simp [*, errW_none, errW_some] <;> rfl), hbW HB⟩
     ·
      rw [if_neg c5] at H
      exact absurd H (by simp)
    ·
     rw [if_neg c4] at H
     exact absurd H (by simp)
   ·
    rw [if_neg c3] at H
    have c3b0 : decide (x12_1 < (l0.length : Int)) = false := decide_eq_false c3
    clear c3
    obtain rfl := Option.some.inj H
    go_wp2
    go_ret
    exact ⟨by first | rfl | (simp [errW_none, errW_some] <;> rfl) | (simp [*, errW_none, errW_some] <;> rfl), hbW HB⟩

/-! ### dragomanref11_TakesComms: function 21 -/
def q12z.l0 : Nat → List Int → List (S53) → Int → Int → Option (Bool)
 | 0, _, _, _, _ => none
 | k + 1, x1, x7, x8, x9 => if x9 < x8 then (if 0 ≤ x9 then (if x9 < (x7.length : Int) then ((q11z.f k ((rd_T53 x7 x9).f1) x1).bind fun t3 => (if t3 = true then (some (!((rd_T53 x7 x9).f0))) else (q12z.l0 k x1 x7 x8 (wrap64 (x9 + 1))))) else (none)) else (none)) else (some false)
def q12z.f (k : Nat) (l0 : List (S53)) (l1 : List Int) : Option (Bool) := q12z.l0 k l1 l0 (l0.length : Int) 0
theorem q12z.mono_l : ∀ k, (∀ y0 y1 y2 y3, LeO (q12z.l0 k y0 y1 y2 y3) (q12z.l0 (k + 1) y0 y1 y2 y3))
 | 0 => fun _ _ _ _ r h => by simp [q12z.l0] at h
 | k + 1 => by
  have ih0 := q12z.mono_l k
  ·
   intro y0 y1 y2 y3
   unfold q12z.l0
   repeat' first
   | (with_reducible exact ih0 _ _ _ _)
   | (with_reducible exact q11z.mono _ _ _)
   | (with_reducible exact LeO.refl _)
   | (with_reducible exact LeO.none _)
   | (with_reducible refine LeO.ite ?_ ?_)
   | (with_reducible refine LeO.bind ?_ (fun _ => ?_))
   | exact ih0 _ _ _ _
   | exact q11z.mono _ _ _
   | exact LeO.none _
   | refine LeO.ite ?_ ?_
   | refine LeO.bind ?_ (fun _ => ?_)
theorem q12z.mono : ∀ a0 a1 k, LeO (q12z.f k a0 a1) (q12z.f (k + 1) a0 a1) := by
 intro a0 a1 k
 have ih0 := q12z.mono_l k
 unfold q12z.f
 repeat' first
   | (with_reducible exact ih0 _ _ _ _)
   | (with_reducible exact q11z.mono _ _ _)
   | (with_reducible exact LeO.refl _)
   | (with_reducible exact LeO.none _)
   | (with_reducible refine LeO.ite ?_ ?_)
   | (with_reducible refine LeO.bind ?_ (fun _ => ?_))
   | exact ih0 _ _ _ _
   | exact q11z.mono _ _ _
   | exact LeO.none _
   | refine LeO.ite ?_ ?_
   | refine LeO.bind ?_ (fun _ => ?_)
set_option maxHeartbeats 8000000 in
set_option maxRecDepth 100000 in
theorem q12z.calls (k : Nat) (A0 : Option Addr) (c0 : Nat) (l0 : List (S53)) (A1 : Option Addr) (c1 : Nat) (l1 : List Int) (r : Bool) (w : World) (hr0 : Kd.C k53 w A0 l0.length l0) (hc0 : l0.length ≤ c0) (hr1 : Kd.C (Kd.int .u32) w A1 l1.length l1) (hc1 : l1.length ≤ c1) (h : q12z.f k l0 l1 = some r) :
  Calls Try.prog 21 #[.slice A0 l0.length c0, .slice A1 l1.length c1] w fun e w' => e = .returned (.bool r) ∧ Below w.heap.size w w' := by
 have hu53 := Try.underlying53
 have HR0 := Aside0.mk hr0
 have HC0 := Aside0.mk hc0
 clear hr0 hc0
 have HR1 := Aside0.mk hr1
 have HC1 := Aside0.mk hc1
 clear hr1 hc1
 have HB := Aside0.mk (Below.refl w.heap.size w)
 have H : (q12z.l0 k l1 l0 (l0.length : Int) 0) = some r := h
 clear h
 have H' := Aside0.mk H
 clear H
 go_enter Try.func21, Try.ntmps21
 go_wp2
 go_loopg [9] k (fun kq v9 w' => ∃ (x9_1 : Int), v9 = .int .i64 x9_1 ∧ Aside0 (q12z.l0 kq l1 l0 (l0.length : Int) x9_1 = some r) ∧ Aside0 (kq ≤ k) ∧ Aside0 (Below w.heap.size w w'))
 case atStart => exact ⟨(0), (by first | rfl | (simp; done) | (simp [*]; done)), H', ⟨Nat.le_refl _⟩, ⟨hbW HB⟩⟩
 case round =>
  clear H'
  try clear c1
  try clear c2
  try clear p2
  obtain ⟨x9_1, rfl, HA, HK1, HB⟩ := hrel
  cases gk with
  | zero => exact absurd HA.out (by simp [q12z.l0])
  | succ k1 =>
   have H := HA.out
   clear HA
   simp only [q12z.l0] at H
   by_cases c3 : x9_1 < (l0.length : Int)
   ·
    rw [if_pos c3] at H
    have c3b0 : decide (x9_1 < (l0.length : Int)) = true := decide_eq_true c3
    clear c3
    by_cases c4 : 0 ≤ x9_1
    ·
     rw [if_pos c4] at H
     have c4b0 : decide (0 ≤ x9_1) = true := decide_eq_true c4
     clear c4
     by_cases c5 : x9_1 < (l0.length : Int)
     ·
      rw [if_pos c5] at H
      have c5b0 : decide (x9_1 < (l0.length : Int)) = true := decide_eq_true c5
      clear c5
      replace H := Option.bind_eq_some_iff.mp H
      obtain ⟨t3, A60, H⟩ := H
      replace H : (if t3 = true then (some (!((rd_T53 l0 x9_1).f0))) else (q12z.l0 k1 l1 l0 (l0.length : Int) (wrap64 (x9_1 + 1)))) = some r := H
      have A6 := Aside0.mk A60
      clear A60
      by_cases c7 : t3 = true
      ·
       subst c7
       have H1 : (some (!((rd_T53 l0 x9_1).f0))) = some r := by rw [if_pos rfl] at H; exact H
       clear H
       have H := H1
       clear H1
       obtain rfl := Option.some.inj H
       have p1 : 0 ≤ (x9_1 : Int) := of_decide_eq_true (by first | (with_reducible assumption) | assumption)
       have q1 : x9_1 < (l0.length : Int) := of_decide_eq_true (by first | (with_reducible assumption) | assumption)
       obtain ⟨ad1, A1_1, c1_1, e1, hx1_0, hx1_1, hl1_1, hi1_1⟩ := at_T53 HR0.out x9_1 p1 q1
       cases e1
       replace hx1_0 := (HB.out.cell (World.block_lt_of_cell? w _ hx1_0)).trans hx1_0
       replace hx1_1 := (HB.out.cell (World.block_lt_of_cell? w _ hx1_1)).trans hx1_1
       have HR1_1 := Aside0.mk hi1_1
       have HC1_1 := Aside0.mk hl1_1
       clear hi1_1 hl1_1
       replace p1 := eq_true p1
       replace q1 := eq_true q1
       go_wp2_with (first | ((with_reducible refine gate_dst (N := 6) rfl ?_); refine box_event ?hg (N := 6) ?hd (cs := #[.bool false, .slice none 0 0]) (t := 53) ?hr ?_; (case hd => rfl); (case hg => rfl); (case hr => first | (go_simp; done) | (go_simp; rfl)); intro gb2 hg w8 hbox hb; have BK2 := Aside0.mk (hbox); have GW2 := gwS hg HB; have GE2 := gwS hg HB; replace HB := hbS HB hb; clear hb hbox hg; obtain ⟨hcz9_0, hcz9_1, hfz9_0, hfz9_1⟩ := bc2 BK2) | ((with_reducible refine gate_callee (f := 39) rfl ?_); refine goesL_ (some 16) rfl rfl Try.func39 (by kernel_rfl) rfl #[.slice A1_1 ((rd_T53 l0 x9_1).f1).length c1_1, .slice A1 l1.length c1] rfl (by (try simp only [List.map_toArray, List.map_cons, List.map_nil]); first | done | rfl | (simp only [List.length_drop, List.length_take]; rfl)) ?_; (with_reducible refine (q11z.calls k1 _ _ ((rd_T53 l0 x9_1).f1) _ _ l1 true _ ?side1 ?side2 ?side3 ?side4 A6.out).mono ?_); (case side1 => exact Kd.C_below HR1_1.out (hbW HB)); (case side2 => exact HC1_1.out); (case side3 => exact Kd.C_below HR1.out (hbW HB)); (case side4 => exact HC1.out); rintro e w10 ⟨rfl, hb⟩; refine ⟨_, rfl, ?_⟩; replace BK2 := Aside0.mk (blk_below (g := gb2) (o := .cells #[.bool ((rd_T53 l0 x9_1).f0), .slice A1_1 ((rd_T53 l0 x9_1).f1).length c1_1] 53 (0, 0)) (bp2 BK2) hb); replace HB := hbS HB hb; (try clear hb); obtain ⟨hcz11_0, hcz11_1, hfz11_0, hfz11_1⟩ := bc2 BK2))
       go_ret
       exact ⟨by first | rfl | (simp [errW_none, errW_some] <;> rfl) | (simp [*, errW_none, errW_some] <;> rfl), hbW HB⟩
      ·
       replace c7 := Bool.eq_false_iff.mpr c7
       subst c7
       have H1 : (q12z.l0 k1 l1 l0 (l0.length : Int) (wrap64 (x9_1 + 1))) = some r := by rw [if_neg (show ¬ (false = true) by decide)] at H; exact H
       clear H
       have H := H1
       clear H1
       have H' := Aside0.mk H
       clear H
       have p1 : 0 ≤ (x9_1 : Int) := of_decide_eq_true (by first | (with_reducible assumption) | assumption)
       have q1 : x9_1 < (l0.length : Int) := of_decide_eq_true (by first | (with_reducible assumption) | assumption)
       obtain ⟨ad1, A1_1, c1_1, e1, hx1_0, hx1_1, hl1_1, hi1_1⟩ := at_T53 HR0.out x9_1 p1 q1
       cases e1
       replace hx1_0 := (HB.out.cell (World.block_lt_of_cell? w _ hx1_0)).trans hx1_0
       replace hx1_1 := (HB.out.cell (World.block_lt_of_cell? w _ hx1_1)).trans hx1_1
       have HR1_1 := Aside0.mk hi1_1
       have HC1_1 := Aside0.mk hl1_1
       clear hi1_1 hl1_1
       replace p1 := eq_true p1
       replace q1 := eq_true q1
       go_wp2_with (first | ((with_reducible refine gate_dst (N := 6) rfl ?_); refine box_event ?hg (N := 6) ?hd (cs := #[.bool false, .slice none 0 0]) (t := 53) ?hr ?_; (case hd => rfl); (case hg => rfl); (case hr => first | (go_simp; done) | (go_simp; rfl)); intro gb2 hg w12 hbox hb; have BK2 := Aside0.mk (hbox); have GW2 := gwS hg HB; have GE2 := gwS hg HB; replace HB := hbS HB hb; clear hb hbox hg; obtain ⟨hcz13_0, hcz13_1, hfz13_0, hfz13_1⟩ := bc2 BK2) | ((with_reducible refine gate_callee (f := 39) rfl ?_); refine goesL_ (some 16) rfl rfl Try.func39 (by kernel_rfl) rfl #[.slice A1_1 ((rd_T53 l0 x9_1).f1).length c1_1, .slice A1 l1.length c1] rfl (by (try simp only [List.map_toArray, List.map_cons, List.map_nil]); first | done | rfl | (simp only [List.length_drop, List.length_take]; rfl)) ?_; (with_reducible refine (q11z.calls k1 _ _ ((rd_T53 l0 x9_1).f1) _ _ l1 false _ ?side1 ?side2 ?side3 ?side4 A6.out).mono ?_); (case side1 => exact Kd.C_below HR1_1.out (hbW HB)); (case side2 => exact HC1_1.out); (case side3 => exact Kd.C_below HR1.out (hbW HB)); (case side4 => exact HC1.out); rintro e w14 ⟨rfl, hb⟩; refine ⟨_, rfl, ?_⟩; replace BK2 := Aside0.mk (blk_below (g := gb2) (o := .cells #[.bool ((rd_T53 l0 x9_1).f0), .slice A1_1 ((rd_T53 l0 x9_1).f1).length c1_1] 53 (0, 0)) (bp2 BK2) hb); replace HB := hbS HB hb; (try clear hb)))
       go_roundg k1
       case measure => have := HK1.out; omega
       case rel => exact ⟨(wrap64 (x9_1 + 1)), (by first | rfl | (simp; done) | (simp [*]; done)), H', ⟨by have := HK1.out; omega⟩, ⟨hbW HB⟩⟩
     ·
      rw [if_neg c5] at H
      exact absurd H (by simp)
    ·
     rw [if_neg c4] at H
     exact absurd H (by simp)
   ·
    rw [if_neg c3] at H
    have c3b0 : decide (x9_1 < (l0.length : Int)) = false := decide_eq_false c3
    clear c3
    obtain rfl := Option.some.inj H
    go_wp2
    go_ret
    exact ⟨by first | rfl | (simp [errW_none, errW_some] <;> rfl) | (simp [*, errW_none, errW_some] <;> rfl), hbW HB⟩

/-! ### dragomanlaw12_alive: function 8 -/
def q13z.f (k : Nat)  : Option (Bool) := (q8z.f k 5 0 (([1, 2] : List Int)) ([] : List (S53)) 0 0 (([3] : List Int)) ([] : List Int) 0 0 0 0).bind fun bt7 => ((q8z.f k 6 0 (([5, 3] : List Int)) ([] : List (S53)) 0 0 ([] : List Int) (([4] : List Int)) 0 0 0 0).bind fun bt26 => ((q8z.f k 8 0 ([] : List Int) (([(⟨false, (([(⟨4259840000, 4259905535⟩ : S50)] : List (S50)))⟩ : S53)] : List (S53))) 0 0 ([] : List Int) (([458759, 4259840001] : List Int)) 0 0 0 0).bind fun bt48 => ((q9z.f k bt7.2.2.1 (([1, 2, 3] : List Int))).bind fun t64 => (if t64 = true then ((q9z.f k bt26.2.2.2.1 (([3, 4, 5] : List Int))).bind fun t68 => (if t68 = true then ((q9z.f k bt48.2.2.2.1 (([458759] : List Int))).bind fun t72 => (some t72)) else (some false))) else (some false)))))
theorem q13z.mono : ∀ k, LeO (q13z.f k ) (q13z.f (k + 1) ) := by
 intro  k
 unfold q13z.f
 repeat' first
   | (with_reducible exact q8z.mono _ _ _ _ _ _ _ _ _ _ _ _ _)
   | (with_reducible exact q9z.mono _ _ _)
   | (with_reducible exact LeO.refl _)
   | (with_reducible exact LeO.none _)
   | (with_reducible refine LeO.ite ?_ ?_)
   | (with_reducible refine LeO.bind ?_ (fun _ => ?_))
   | exact q8z.mono _ _ _ _ _ _ _ _ _ _ _ _ _
   | exact q9z.mono _ _ _
   | exact LeO.none _
   | refine LeO.ite ?_ ?_
   | refine LeO.bind ?_ (fun _ => ?_)
set_option maxHeartbeats 8000000 in
set_option maxRecDepth 100000 in
theorem q13z.calls (k : Nat)  (r : Bool) (w : World) (h : q13z.f k  = some r) :
  Calls Try.prog 8 #[] w fun e w' => e = .returned (.bool r) ∧ Below w.heap.size w w' := by
 have hu26 := Try.underlying26
 have hu30 := Try.underlying30
 have hu50 := Try.underlying50
 have hu53 := Try.underlying53
 have HB := Aside0.mk (Below.refl w.heap.size w)
 have H : ((q8z.f k 5 0 (([1, 2] : List Int)) ([] : List (S53)) 0 0 (([3] : List Int)) ([] : List Int) 0 0 0 0).bind fun bt7 => ((q8z.f k 6 0 (([5, 3] : List Int)) ([] : List (S53)) 0 0 ([] : List Int) (([4] : List Int)) 0 0 0 0).bind fun bt26 => ((q8z.f k 8 0 ([] : List Int) (([(⟨false, (([(⟨4259840000, 4259905535⟩ : S50)] : List (S50)))⟩ : S53)] : List (S53))) 0 0 ([] : List Int) (([458759, 4259840001] : List Int)) 0 0 0 0).bind fun bt48 => ((q9z.f k bt7.2.2.1 (([1, 2, 3] : List Int))).bind fun t64 => (if t64 = true then ((q9z.f k bt26.2.2.2.1 (([3, 4, 5] : List Int))).bind fun t68 => (if t68 = true then ((q9z.f k bt48.2.2.2.1 (([458759] : List Int))).bind fun t72 => (some t72)) else (some false))) else (some false)))))) = some r := h
 clear h
 obtain ⟨y1, hy1⟩ : ∃ y_ : List Int, y_ = (([1, 2] : List Int)) := ⟨_, rfl⟩
 replace H : ((q8z.f k 5 0 y1 ([] : List (S53)) 0 0 (([3] : List Int)) ([] : List Int) 0 0 0 0).bind fun bt7 => ((q8z.f k 6 0 (([5, 3] : List Int)) ([] : List (S53)) 0 0 ([] : List Int) (([4] : List Int)) 0 0 0 0).bind fun bt26 => ((q8z.f k 8 0 ([] : List Int) (([(⟨false, (([(⟨4259840000, 4259905535⟩ : S50)] : List (S50)))⟩ : S53)] : List (S53))) 0 0 ([] : List Int) (([458759, 4259840001] : List Int)) 0 0 0 0).bind fun bt48 => ((q9z.f k bt7.2.2.1 (([1, 2, 3] : List Int))).bind fun t64 => (if t64 = true then ((q9z.f k bt26.2.2.2.1 (([3, 4, 5] : List Int))).bind fun t68 => (if t68 = true then ((q9z.f k bt48.2.2.2.1 (([458759] : List Int))).bind fun t72 => (some t72)) else (some false))) else (some false)))))) = some r := by first | (rw [hy1]; with_reducible exact H) | (have H2_ := (Option.bind_some _ _).symm.trans H; rw [hy1]; with_reducible exact H2_) | (have H2_ := (Option.bind_some _ _).symm.trans H; with_reducible exact H2_) | with_reducible exact H | (rw [hy1]; exact H) | exact H
 have Ny1 := Aside0.mk hy1
 clear hy1
 obtain ⟨y4, hy4⟩ : ∃ y_ : List Int, y_ = (([3] : List Int)) := ⟨_, rfl⟩
 replace H : ((q8z.f k 5 0 y1 ([] : List (S53)) 0 0 y4 ([] : List Int) 0 0 0 0).bind fun bt7 => ((q8z.f k 6 0 (([5, 3] : List Int)) ([] : List (S53)) 0 0 ([] : List Int) (([4] : List Int)) 0 0 0 0).bind fun bt26 => ((q8z.f k 8 0 ([] : List Int) (([(⟨false, (([(⟨4259840000, 4259905535⟩ : S50)] : List (S50)))⟩ : S53)] : List (S53))) 0 0 ([] : List Int) (([458759, 4259840001] : List Int)) 0 0 0 0).bind fun bt48 => ((q9z.f k bt7.2.2.1 (([1, 2, 3] : List Int))).bind fun t64 => (if t64 = true then ((q9z.f k bt26.2.2.2.1 (([3, 4, 5] : List Int))).bind fun t68 => (if t68 = true then ((q9z.f k bt48.2.2.2.1 (([458759] : List Int))).bind fun t72 => (some t72)) else (some false))) else (some false)))))) = some r := by first | (rw [hy4]; with_reducible exact H) | (have H2_ := (Option.bind_some _ _).symm.trans H; rw [hy4]; with_reducible exact H2_) | (have H2_ := (Option.bind_some _ _).symm.trans H; with_reducible exact H2_) | with_reducible exact H | (rw [hy4]; exact H) | exact H
 have Ny4 := Aside0.mk hy4
 clear hy4
 replace H := Option.bind_eq_some_iff.mp H
 obtain ⟨⟨t7, t8, t9, t12, t15, t16, t17, t18⟩, A10, H⟩ := H
 replace H : ((q8z.f k 6 0 (([5, 3] : List Int)) ([] : List (S53)) 0 0 ([] : List Int) (([4] : List Int)) 0 0 0 0).bind fun bt26 => ((q8z.f k 8 0 ([] : List Int) (([(⟨false, (([(⟨4259840000, 4259905535⟩ : S50)] : List (S50)))⟩ : S53)] : List (S53))) 0 0 ([] : List Int) (([458759, 4259840001] : List Int)) 0 0 0 0).bind fun bt48 => ((q9z.f k t9 (([1, 2, 3] : List Int))).bind fun t64 => (if t64 = true then ((q9z.f k bt26.2.2.2.1 (([3, 4, 5] : List Int))).bind fun t68 => (if t68 = true then ((q9z.f k bt48.2.2.2.1 (([458759] : List Int))).bind fun t72 => (some t72)) else (some false))) else (some false))))) = some r := H
 have A1 := Aside0.mk A10
 clear A10
 obtain ⟨y20, hy20⟩ : ∃ y_ : List Int, y_ = (([5, 3] : List Int)) := ⟨_, rfl⟩
 replace H : ((q8z.f k 6 0 y20 ([] : List (S53)) 0 0 ([] : List Int) (([4] : List Int)) 0 0 0 0).bind fun bt26 => ((q8z.f k 8 0 ([] : List Int) (([(⟨false, (([(⟨4259840000, 4259905535⟩ : S50)] : List (S50)))⟩ : S53)] : List (S53))) 0 0 ([] : List Int) (([458759, 4259840001] : List Int)) 0 0 0 0).bind fun bt48 => ((q9z.f k t9 (([1, 2, 3] : List Int))).bind fun t64 => (if t64 = true then ((q9z.f k bt26.2.2.2.1 (([3, 4, 5] : List Int))).bind fun t68 => (if t68 = true then ((q9z.f k bt48.2.2.2.1 (([458759] : List Int))).bind fun t72 => (some t72)) else (some false))) else (some false))))) = some r := by first | (rw [hy20]; with_reducible exact H) | (have H2_ := (Option.bind_some _ _).symm.trans H; rw [hy20]; with_reducible exact H2_) | (have H2_ := (Option.bind_some _ _).symm.trans H; with_reducible exact H2_) | with_reducible exact H | (rw [hy20]; exact H) | exact H
 have Ny20 := Aside0.mk hy20
 clear hy20
 obtain ⟨y23, hy23⟩ : ∃ y_ : List Int, y_ = (([4] : List Int)) := ⟨_, rfl⟩
 replace H : ((q8z.f k 6 0 y20 ([] : List (S53)) 0 0 ([] : List Int) y23 0 0 0 0).bind fun bt26 => ((q8z.f k 8 0 ([] : List Int) (([(⟨false, (([(⟨4259840000, 4259905535⟩ : S50)] : List (S50)))⟩ : S53)] : List (S53))) 0 0 ([] : List Int) (([458759, 4259840001] : List Int)) 0 0 0 0).bind fun bt48 => ((q9z.f k t9 (([1, 2, 3] : List Int))).bind fun t64 => (if t64 = true then ((q9z.f k bt26.2.2.2.1 (([3, 4, 5] : List Int))).bind fun t68 => (if t68 = true then ((q9z.f k bt48.2.2.2.1 (([458759] : List Int))).bind fun t72 => (some t72)) else (some false))) else (some false))))) = some r := by first | (rw [hy23]; with_reducible exact H) | (have H2_ := (Option.bind_some _ _).symm.trans H; rw [hy23]; with_reducible exact H2_) | (have H2_ := (Option.bind_some _ _).symm.trans H; with_reducible exact H2_) | with_reducible exact H | (rw [hy23]; exact H) | exact H
 have Ny23 := Aside0.mk hy23
 clear hy23
 replace H := Option.bind_eq_some_iff.mp H
 obtain ⟨⟨t26, t27, t28, t31, t34, t35, t36, t37⟩, A20, H⟩ := H
 replace H : ((q8z.f k 8 0 ([] : List Int) (([(⟨false, (([(⟨4259840000, 4259905535⟩ : S50)] : List (S50)))⟩ : S53)] : List (S53))) 0 0 ([] : List Int) (([458759, 4259840001] : List Int)) 0 0 0 0).bind fun bt48 => ((q9z.f k t9 (([1, 2, 3] : List Int))).bind fun t64 => (if t64 = true then ((q9z.f k t31 (([3, 4, 5] : List Int))).bind fun t68 => (if t68 = true then ((q9z.f k bt48.2.2.2.1 (([458759] : List Int))).bind fun t72 => (some t72)) else (some false))) else (some false)))) = some r := H
 have A2 := Aside0.mk A20
 clear A20
 obtain ⟨y39, hy39⟩ : ∃ y_ : List (S50), y_ = (([(⟨4259840000, 4259905535⟩ : S50)] : List (S50))) := ⟨_, rfl⟩
 replace H : ((q8z.f k 8 0 ([] : List Int) (([(⟨false, y39⟩ : S53)] : List (S53))) 0 0 ([] : List Int) (([458759, 4259840001] : List Int)) 0 0 0 0).bind fun bt48 => ((q9z.f k t9 (([1, 2, 3] : List Int))).bind fun t64 => (if t64 = true then ((q9z.f k t31 (([3, 4, 5] : List Int))).bind fun t68 => (if t68 = true then ((q9z.f k bt48.2.2.2.1 (([458759] : List Int))).bind fun t72 => (some t72)) else (some false))) else (some false)))) = some r := by first | (rw [hy39]; with_reducible exact H) | (have H2_ := (Option.bind_some _ _).symm.trans H; rw [hy39]; with_reducible exact H2_) | (have H2_ := (Option.bind_some _ _).symm.trans H; with_reducible exact H2_) | with_reducible exact H | (rw [hy39]; exact H) | exact H
 have Ny39 := Aside0.mk hy39
 clear hy39
 obtain ⟨y42, hy42⟩ : ∃ y_ : List (S53), y_ = (([(⟨false, y39⟩ : S53)] : List (S53))) := ⟨_, rfl⟩
 replace H : ((q8z.f k 8 0 ([] : List Int) y42 0 0 ([] : List Int) (([458759, 4259840001] : List Int)) 0 0 0 0).bind fun bt48 => ((q9z.f k t9 (([1, 2, 3] : List Int))).bind fun t64 => (if t64 = true then ((q9z.f k t31 (([3, 4, 5] : List Int))).bind fun t68 => (if t68 = true then ((q9z.f k bt48.2.2.2.1 (([458759] : List Int))).bind fun t72 => (some t72)) else (some false))) else (some false)))) = some r := by first | (rw [hy42]; with_reducible exact H) | (have H2_ := (Option.bind_some _ _).symm.trans H; rw [hy42]; with_reducible exact H2_) | (have H2_ := (Option.bind_some _ _).symm.trans H; with_reducible exact H2_) | with_reducible exact H | (rw [hy42]; exact H) | exact H
 have Ny42 := Aside0.mk hy42
 clear hy42
 obtain ⟨y45, hy45⟩ : ∃ y_ : List Int, y_ = (([458759, 4259840001] : List Int)) := ⟨_, rfl⟩
 replace H : ((q8z.f k 8 0 ([] : List Int) y42 0 0 ([] : List Int) y45 0 0 0 0).bind fun bt48 => ((q9z.f k t9 (([1, 2, 3] : List Int))).bind fun t64 => (if t64 = true then ((q9z.f k t31 (([3, 4, 5] : List Int))).bind fun t68 => (if t68 = true then ((q9z.f k bt48.2.2.2.1 (([458759] : List Int))).bind fun t72 => (some t72)) else (some false))) else (some false)))) = some r := by first | (rw [hy45]; with_reducible exact H) | (have H2_ := (Option.bind_some _ _).symm.trans H; rw [hy45]; with_reducible exact H2_) | (have H2_ := (Option.bind_some _ _).symm.trans H; with_reducible exact H2_) | with_reducible exact H | (rw [hy45]; exact H) | exact H
 have Ny45 := Aside0.mk hy45
 clear hy45
 replace H := Option.bind_eq_some_iff.mp H
 obtain ⟨⟨t48, t49, t50, t53, t56, t57, t58, t59⟩, A30, H⟩ := H
 replace H : ((q9z.f k t9 (([1, 2, 3] : List Int))).bind fun t64 => (if t64 = true then ((q9z.f k t31 (([3, 4, 5] : List Int))).bind fun t68 => (if t68 = true then ((q9z.f k t53 (([458759] : List Int))).bind fun t72 => (some t72)) else (some false))) else (some false))) = some r := H
 have A3 := Aside0.mk A30
 clear A30
 obtain ⟨y61, hy61⟩ : ∃ y_ : List Int, y_ = (([1, 2, 3] : List Int)) := ⟨_, rfl⟩
 replace H : ((q9z.f k t9 y61).bind fun t64 => (if t64 = true then ((q9z.f k t31 (([3, 4, 5] : List Int))).bind fun t68 => (if t68 = true then ((q9z.f k t53 (([458759] : List Int))).bind fun t72 => (some t72)) else (some false))) else (some false))) = some r := by first | (rw [hy61]; with_reducible exact H) | (have H2_ := (Option.bind_some _ _).symm.trans H; rw [hy61]; with_reducible exact H2_) | (have H2_ := (Option.bind_some _ _).symm.trans H; with_reducible exact H2_) | with_reducible exact H | (rw [hy61]; exact H) | exact H
 have Ny61 := Aside0.mk hy61
 clear hy61
 replace H := Option.bind_eq_some_iff.mp H
 obtain ⟨t64, A40, H⟩ := H
 replace H : (if t64 = true then ((q9z.f k t31 (([3, 4, 5] : List Int))).bind fun t68 => (if t68 = true then ((q9z.f k t53 (([458759] : List Int))).bind fun t72 => (some t72)) else (some false))) else (some false)) = some r := H
 have A4 := Aside0.mk A40
 clear A40
 have HH_c5 := Aside0.mk H
 clear H
 go_enter Try.func8, Try.ntmps8
 go_upto_region 4 with (first | ((with_reducible refine gate_dst (N := 4) rfl ?_); (try (refine gate_guard (by rfl) ?_; dsimp only)); refine Kd.R_lit (Kd.int .u32) _ 22 ?hg (N := 4) ?hd (xs := ([1, 2] : List Int)) (inner := [.int .u32 1, .int .u32 2]) (ok := fun _ => True) (okp := fun _ => True) ?hr ?hp (fun _ hk => hk) trivial (Below.refl _ _) (Nat.le_refl _) (by simp) ?_; (case hd => rfl); (case hg => rfl); (case hr => first | (go_simp; done) | (go_simp; rfl)); (case hp => exact (Reps.one (show Kd.M (Kd.int .u32) _ _ _ 1 [.int .u32 1] from rfl) (Reps.one (show Kd.M (Kd.int .u32) _ _ _ 2 [.int .u32 2] from rfl) (Reps.none _ _)))); intro v2 w9 ho10 hb hg_ hnew_; clear hg_ hnew_; (first | rw [← Ny1.out] at ho10 | (simp only [Int.reduceToNat] at ho10; rw [← Ny1.out] at ho10)); have HO3 := Aside0.mk (Kd.R_lower ho10 (below_size (hbW HB))); replace HB := hbS HB hb; clear hb ho10; obtain ⟨Ao11, co11, eo11⟩ := Kd.R_slice HO3.out; subst eo11) | ((with_reducible refine gate_dst (N := 6) rfl ?_); (try (refine gate_guard (by rfl) ?_; dsimp only)); refine Kd.R_lit (Kd.int .u32) _ 22 ?hg (N := 6) ?hd (xs := ([3] : List Int)) (inner := [.int .u32 3]) (ok := fun _ => True) (okp := fun _ => True) ?hr ?hp (fun _ hk => hk) trivial (Below.refl _ _) (Nat.le_refl _) (by simp) ?_; (case hd => rfl); (case hg => rfl); (case hr => first | (go_simp; done) | (go_simp; rfl)); (case hp => exact (Reps.one (show Kd.M (Kd.int .u32) _ _ _ 3 [.int .u32 3] from rfl) (Reps.none _ _))); intro v5 w12 ho13 hb hg_ hnew_; clear hg_ hnew_; (first | rw [← Ny4.out] at ho13 | (simp only [Int.reduceToNat] at ho13; rw [← Ny4.out] at ho13)); have HO6 := Aside0.mk (Kd.R_lower (Kd.R_new' ho13 (Kd.R_lt (rW HO3))) (below_size (hbW HB))); replace HO3 := Aside0.mk (Kd.R_elder' (rW HO3) (Kd.R_base ho13) hb); replace HB := hbS HB hb; clear hb ho13; obtain ⟨Ao14, co14, eo14⟩ := Kd.R_slice HO6.out; subst eo14) | ((with_reducible refine gate_callee (f := 13) rfl ?_); refine goesL_ (some 8) rfl rfl Try.func13 (by kernel_rfl) rfl #[.agg #[.int .i64 5, .int .u32 0, .slice Ao11 y1.length co11, .slice none 0 0], .agg #[.int .u32 0, .int .i64 0, .slice Ao14 y4.length co14, .slice none 0 0, .int .u32 0, .int .u32 0, .int .i64 0, .int .u32 0]] rfl (by (try simp only [List.map_toArray, List.map_cons, List.map_nil]); first | done | rfl | (simp only [List.length_drop, List.length_take]; rfl)) ?_; (refine (q8z.calls k 5 0 (fun k_ => some k_ = (.slice Ao11 y1.length co11 : Value).ownBlock) _ _ y1 _ _ ([] : List (S53)) 0 0 _ _ y4 _ _ ([] : List Int) 0 0 0 0 t7 t8 t9 t12 t15 t16 t17 t18 _ ?side1 ?side2 ?side3 ?side4 ?side5 ?side6 ?side7 A1.out).mono ?_); (case side1 => exact Kd.R_V (Kd.R_tight rfl (HO3.out))); (case side2 => exact Kd.C_nil _ _); (case side3 => exact Nat.le_refl _); (case side4 => repeat (first | exact (Kd.R_reads' HO6.out).2.2 | (with_reducible refine Kd.C_alloc ?_ _) | (with_reducible refine Kd.C_drewN ?_ _) | (with_reducible refine Kd.C_drew ?_))); (case side5 => exact (Kd.R_reads' HO6.out).2.1); (case side6 => exact Kd.C_nil _ _); (case side7 => exact Nat.le_refl _); rintro e w15 ⟨v10, v13, rfl, ho0, ho1, hb⟩; refine ⟨_, rfl, ?_⟩; have HO11 := Aside0.mk (Kd.R_lower (Kd.R_new' (Kd.R_new' (Kd.R_mono (ok' := fun k_ => some k_ ≠ (v13 : Value).ownBlock) ho0 (fun _ hk_ => hk_.2)) (Kd.R_lt (rW HO3))) (Kd.R_lt (rW HO6))) (below_size (hbW HB))); have HO14 := Aside0.mk (Kd.R_lower (Kd.R_new' (Kd.R_new' (Kd.R_mono (ok' := fun k_ => some k_ ≠ (v10 : Value).ownBlock) ho1 (fun _ hk_ => hk_.2)) (Kd.R_lt (rW HO3))) (Kd.R_lt (rW HO6))) (below_size (hbW HB))); replace HO3 := Aside0.mk (Kd.R_mono (Kd.R_told (Kd.R_told (Kd.R_old (rW HO3) hb) (Kd.R_base ho0)) (Kd.R_base ho1)) (fun _ h_ => h_.1)); replace HO6 := Aside0.mk (Kd.R_mono (Kd.R_told (Kd.R_told (Kd.R_old (rW HO6) hb) (Kd.R_base ho0)) (Kd.R_base ho1)) (fun _ h_ => h_.1)); replace HB := hbS HB hb; (try clear hb); (try clear hk); (try clear ho0); (try clear ho1)) | ((with_reducible refine gate_dst (N := 1) rfl ?_); (try (refine gate_guard (by rfl) ?_; dsimp only)); refine box_event ?hg (N := 1) ?hd (cs := #[.int .u32 0, .int .i64 0, .slice none 0 0, .slice none 0 0, .int .u32 0, .int .u32 0, .int .i64 0, .int .u32 0]) (t := 30) ?hr ?_; (case hd => rfl); (case hg => rfl); (case hr => first | (go_simp; done) | (go_simp; rfl)); intro gb19 hg w16 hbox hb; have BK19 := Aside0.mk (hbox); have GW19 := gwS hg HB; have GE19 := gwS hg HB; replace HO3 := Aside0.mk (Kd.R_below (rW HO3) hb); replace HO6 := Aside0.mk (Kd.R_below (rW HO6) hb); replace HO11 := Aside0.mk (Kd.R_below (rW HO11) hb); replace HO14 := Aside0.mk (Kd.R_below (rW HO14) hb); replace HB := hbS HB hb; clear hb hbox hg; obtain ⟨hcz17_0, hcz17_1, hcz17_2, hcz17_3, hcz17_4, hcz17_5, hcz17_6, hcz17_7, hfz17_0, hfz17_1, hfz17_2, hfz17_3, hfz17_4, hfz17_5, hfz17_6, hfz17_7⟩ := bc8 BK19; obtain ⟨Ao18, co18, eo18⟩ := Kd.R_slice HO11.out; subst eo18; obtain ⟨Ao19, co19, eo19⟩ := Kd.R_slice HO14.out; subst eo19) | ((with_reducible refine gate_dst (N := 9) rfl ?_); (try (refine gate_guard (by rfl) ?_; dsimp only)); refine Kd.R_lit (Kd.int .u32) _ 22 ?hg (N := 9) ?hd (xs := ([5, 3] : List Int)) (inner := [.int .u32 5, .int .u32 3]) (ok := fun _ => True) (okp := fun _ => True) ?hr ?hp (fun _ hk => hk) trivial (Below.refl _ _) (Nat.le_refl _) (by simp) ?_; (case hd => rfl); (case hg => rfl); (case hr => first | (go_simp; done) | (go_simp; rfl)); (case hp => exact (Reps.one (show Kd.M (Kd.int .u32) _ _ _ 5 [.int .u32 5] from rfl) (Reps.one (show Kd.M (Kd.int .u32) _ _ _ 3 [.int .u32 3] from rfl) (Reps.none _ _)))); intro v21 w20 ho21 hb hg_ hnew_; clear hg_ hnew_; (first | rw [← Ny20.out] at ho21 | (simp only [Int.reduceToNat] at ho21; rw [← Ny20.out] at ho21)); have HO22 := Aside0.mk (Kd.R_lower (Kd.R_new' (Kd.R_new' (Kd.R_new' (Kd.R_new' ho21 (Kd.R_lt (rW HO3))) (Kd.R_lt (rW HO6))) (Kd.R_lt (rW HO11))) (Kd.R_lt (rW HO14))) (below_size (hbW HB))); replace HO3 := Aside0.mk (Kd.R_elder' (rW HO3) (Kd.R_base ho21) hb); replace HO6 := Aside0.mk (Kd.R_elder' (rW HO6) (Kd.R_base ho21) hb); replace HO11 := Aside0.mk (Kd.R_elder' (rW HO11) (Kd.R_base ho21) hb); replace HO14 := Aside0.mk (Kd.R_elder' (rW HO14) (Kd.R_base ho21) hb); replace BK19 := Aside0.mk (blk_below (g := gb19) (o := .cells #[.int .u32 t7, .int .i64 t8, .slice Ao18 t9.length co18, .slice Ao19 t12.length co19, .int .u32 t15, .int .u32 t16, .int .i64 t17, .int .u32 t18] 30 (0, 0)) (bp8 BK19) hb); replace HB := hbS HB hb; clear hb ho21; obtain ⟨Ao22, co22, eo22⟩ := Kd.R_slice HO22.out; subst eo22) | ((with_reducible refine gate_dst (N := 11) rfl ?_); (try (refine gate_guard (by rfl) ?_; dsimp only)); refine Kd.R_lit (Kd.int .u32) _ 22 ?hg (N := 11) ?hd (xs := ([4] : List Int)) (inner := [.int .u32 4]) (ok := fun _ => True) (okp := fun _ => True) ?hr ?hp (fun _ hk => hk) trivial (Below.refl _ _) (Nat.le_refl _) (by simp) ?_; (case hd => rfl); (case hg => rfl); (case hr => first | (go_simp; done) | (go_simp; rfl)); (case hp => exact (Reps.one (show Kd.M (Kd.int .u32) _ _ _ 4 [.int .u32 4] from rfl) (Reps.none _ _))); intro v24 w23 ho24 hb hg_ hnew_; clear hg_ hnew_; (first | rw [← Ny23.out] at ho24 | (simp only [Int.reduceToNat] at ho24; rw [← Ny23.out] at ho24)); have HO25 := Aside0.mk (Kd.R_lower (Kd.R_new' (Kd.R_new' (Kd.R_new' (Kd.R_new' (Kd.R_new' ho24 (Kd.R_lt (rW HO3))) (Kd.R_lt (rW HO6))) (Kd.R_lt (rW HO11))) (Kd.R_lt (rW HO14))) (Kd.R_lt (rW HO22))) (below_size (hbW HB))); replace HO3 := Aside0.mk (Kd.R_elder' (rW HO3) (Kd.R_base ho24) hb); replace HO6 := Aside0.mk (Kd.R_elder' (rW HO6) (Kd.R_base ho24) hb); replace HO11 := Aside0.mk (Kd.R_elder' (rW HO11) (Kd.R_base ho24) hb); replace HO14 := Aside0.mk (Kd.R_elder' (rW HO14) (Kd.R_base ho24) hb); replace HO22 := Aside0.mk (Kd.R_elder' (rW HO22) (Kd.R_base ho24) hb); replace BK19 := bkB BK19 hb; replace HB := hbS HB hb; clear hb ho24; obtain ⟨Ao25, co25, eo25⟩ := Kd.R_slice HO25.out; subst eo25) | ((with_reducible refine gate_callee (f := 13) rfl ?_); refine goesL_ (some 13) rfl rfl Try.func13 (by kernel_rfl) rfl #[.agg #[.int .i64 6, .int .u32 0, .slice Ao22 y20.length co22, .slice none 0 0], .agg #[.int .u32 0, .int .i64 0, .slice none 0 0, .slice Ao25 y23.length co25, .int .u32 0, .int .u32 0, .int .i64 0, .int .u32 0]] rfl (by (try simp only [List.map_toArray, List.map_cons, List.map_nil]); first | done | rfl | (simp only [List.length_drop, List.length_take]; rfl)) ?_; (refine (q8z.calls k 6 0 (fun k_ => some k_ = (.slice Ao22 y20.length co22 : Value).ownBlock) _ _ y20 _ _ ([] : List (S53)) 0 0 _ _ ([] : List Int) _ _ y23 0 0 0 0 t26 t27 t28 t31 t34 t35 t36 t37 _ ?side1 ?side2 ?side3 ?side4 ?side5 ?side6 ?side7 A2.out).mono ?_); (case side1 => exact Kd.R_V (Kd.R_tight rfl (Kd.R_types (HO22.out) BK19.out (by decide)))); (case side2 => exact Kd.C_nil _ _); (case side3 => exact Nat.le_refl _); (case side4 => exact Kd.C_nil _ _); (case side5 => exact Nat.le_refl _); (case side6 => repeat (first | exact (Kd.R_reads' HO25.out).2.2 | (with_reducible refine Kd.C_alloc ?_ _) | (with_reducible refine Kd.C_drewN ?_ _) | (with_reducible refine Kd.C_drew ?_))); (case side7 => exact (Kd.R_reads' HO25.out).2.1); rintro e w26 ⟨v29, v32, rfl, ho0, ho1, hb⟩; refine ⟨_, rfl, ?_⟩; have HO30 := Aside0.mk (Kd.R_lower (Kd.R_new' (Kd.R_new' (Kd.R_new' (Kd.R_new' (Kd.R_new' (Kd.R_new' (Kd.R_mono (ok' := fun k_ => some k_ ≠ (v32 : Value).ownBlock) ho0 (fun _ hk_ => hk_.2)) (Kd.R_lt (rW HO3))) (Kd.R_lt (rW HO6))) (Kd.R_lt (rW HO11))) (Kd.R_lt (rW HO14))) (Kd.R_lt (rW HO22))) (Kd.R_lt (rW HO25))) (below_size (hbW HB))); have HO33 := Aside0.mk (Kd.R_lower (Kd.R_new' (Kd.R_new' (Kd.R_new' (Kd.R_new' (Kd.R_new' (Kd.R_new' (Kd.R_mono (ok' := fun k_ => some k_ ≠ (v29 : Value).ownBlock) ho1 (fun _ hk_ => hk_.2)) (Kd.R_lt (rW HO3))) (Kd.R_lt (rW HO6))) (Kd.R_lt (rW HO11))) (Kd.R_lt (rW HO14))) (Kd.R_lt (rW HO22))) (Kd.R_lt (rW HO25))) (below_size (hbW HB))); replace HO3 := Aside0.mk (Kd.R_mono (Kd.R_told (Kd.R_told (Kd.R_old (rW HO3) hb) (Kd.R_base ho0)) (Kd.R_base ho1)) (fun _ h_ => h_.1)); replace HO6 := Aside0.mk (Kd.R_mono (Kd.R_told (Kd.R_told (Kd.R_old (rW HO6) hb) (Kd.R_base ho0)) (Kd.R_base ho1)) (fun _ h_ => h_.1)); replace HO11 := Aside0.mk (Kd.R_mono (Kd.R_told (Kd.R_told (Kd.R_old (rW HO11) hb) (Kd.R_base ho0)) (Kd.R_base ho1)) (fun _ h_ => h_.1)); replace HO14 := Aside0.mk (Kd.R_mono (Kd.R_told (Kd.R_told (Kd.R_old (rW HO14) hb) (Kd.R_base ho0)) (Kd.R_base ho1)) (fun _ h_ => h_.1)); replace HO22 := Aside0.mk (Kd.R_mono (Kd.R_told (Kd.R_told (Kd.R_old (rW HO22) hb) (Kd.R_base ho0)) (Kd.R_base ho1)) (fun _ h_ => h_.1)); replace HO25 := Aside0.mk (Kd.R_mono (Kd.R_told (Kd.R_told (Kd.R_old (rW HO25) hb) (Kd.R_base ho0)) (Kd.R_base ho1)) (fun _ h_ => h_.1)); replace BK19 := bkB BK19 hb; replace HB := hbS HB hb; (try clear hb); (try clear hk); (try clear ho0); (try clear ho1)) | ((with_reducible refine gate_dst (N := 2) rfl ?_); (try (refine gate_guard (by rfl) ?_; dsimp only)); refine box_event ?hg (N := 2) ?hd (cs := #[.int .u32 0, .int .i64 0, .slice none 0 0, .slice none 0 0, .int .u32 0, .int .u32 0, .int .i64 0, .int .u32 0]) (t := 30) ?hr ?_; (case hd => rfl); (case hg => rfl); (case hr => first | (go_simp; done) | (go_simp; rfl)); intro gb38 hg w27 hbox hb; have BK38 := Aside0.mk (hbox); have GW38 := gwS hg HB; have GE38 := gwS hg HB; have NB19_38 := nbL hg BK19; have NB38_19 := nbG hg BK19; replace HO3 := Aside0.mk (Kd.R_below (rW HO3) hb); replace HO6 := Aside0.mk (Kd.R_below (rW HO6) hb); replace HO11 := Aside0.mk (Kd.R_below (rW HO11) hb); replace HO14 := Aside0.mk (Kd.R_below (rW HO14) hb); replace HO22 := Aside0.mk (Kd.R_below (rW HO22) hb); replace HO25 := Aside0.mk (Kd.R_below (rW HO25) hb); replace HO30 := Aside0.mk (Kd.R_below (rW HO30) hb); replace HO33 := Aside0.mk (Kd.R_below (rW HO33) hb); replace BK19 := bkB BK19 hb; replace HB := hbS HB hb; clear hb hbox hg; have hnb28 := NB38_19.out; have hnc28 := NB19_38.out; obtain ⟨hcz29_0, hcz29_1, hcz29_2, hcz29_3, hcz29_4, hcz29_5, hcz29_6, hcz29_7, hfz29_0, hfz29_1, hfz29_2, hfz29_3, hfz29_4, hfz29_5, hfz29_6, hfz29_7⟩ := bc8 BK38; obtain ⟨Ao30, co30, eo30⟩ := Kd.R_slice HO30.out; subst eo30; obtain ⟨Ao31, co31, eo31⟩ := Kd.R_slice HO33.out; subst eo31) | ((with_reducible refine gate_dst (N := 15) rfl ?_); (try (refine gate_guard (by rfl) ?_; dsimp only)); refine Kd.R_lit k50 _ 50 ?hg (N := 15) ?hd (xs := ([(⟨4259840000, 4259905535⟩ : S50)] : List (S50))) (inner := [.int .u32 4259840000, .int .u32 4259905535]) (ok := fun _ => True) (okp := fun _ => True) ?hr ?hp (fun _ hk => hk) trivial (Below.refl _ _) (Nat.le_refl _) (by simp) ?_; (case hd => rfl); (case hg => rfl); (case hr => first | (go_simp; done) | (go_simp; rfl)); (case hp => exact (Reps.c2 (show Kd.M k50 _ _ _ (⟨4259840000, 4259905535⟩ : S50) [.int .u32 4259840000, .int .u32 4259905535] from (k50_mkM _ _ _ (⟨4259840000, 4259905535⟩ : S50) )) (Reps.none _ _))); intro v40 w32 ho33 hb hg_ hnew_; clear hg_ hnew_; (first | rw [← Ny39.out] at ho33 | (simp only [Int.reduceToNat] at ho33; rw [← Ny39.out] at ho33)); have HO41 := Aside0.mk (Kd.R_lower ho33 (below_size (hbW HB))); replace HO3 := Aside0.mk (Kd.R_below (rW HO3) hb); replace HO6 := Aside0.mk (Kd.R_below (rW HO6) hb); replace HO11 := Aside0.mk (Kd.R_below (rW HO11) hb); replace HO14 := Aside0.mk (Kd.R_below (rW HO14) hb); replace HO22 := Aside0.mk (Kd.R_below (rW HO22) hb); replace HO25 := Aside0.mk (Kd.R_below (rW HO25) hb); replace HO30 := Aside0.mk (Kd.R_below (rW HO30) hb); replace HO33 := Aside0.mk (Kd.R_below (rW HO33) hb); replace BK19 := bvB BK19 hb; replace BK38 := Aside0.mk (blk_below (g := gb38) (o := .cells #[.int .u32 t26, .int .i64 t27, .slice Ao30 t28.length co30, .slice Ao31 t31.length co31, .int .u32 t34, .int .u32 t35, .int .i64 t36, .int .u32 t37] 30 (0, 0)) (bp8 BK38) hb); replace HB := hbS HB hb; clear hb ho33; obtain ⟨Ao34, co34, eo34⟩ := Kd.R_slice HO41.out; subst eo34) | ((with_reducible refine gate_dst (N := 17) rfl ?_); (try (refine gate_guard (by rfl) ?_; dsimp only)); refine Kd.N_lit k53 _ 53 ?hg (N' := 17) ?hd (xs := ([(⟨false, y39⟩ : S53)] : List (S53))) (inner := [.bool false, .slice Ao34 y39.length co34]) (ok := (fun k_ => some k_ ≠ (.slice Ao11 y1.length co11 : Value).ownBlock ∧ some k_ ≠ (.slice Ao14 y4.length co14 : Value).ownBlock ∧ some k_ ≠ (.slice Ao18 t9.length co18 : Value).ownBlock ∧ some k_ ≠ (.slice Ao19 t12.length co19 : Value).ownBlock ∧ some k_ ≠ (.slice Ao22 y20.length co22 : Value).ownBlock ∧ some k_ ≠ (.slice Ao25 y23.length co25 : Value).ownBlock ∧ some k_ ≠ (.slice Ao30 t28.length co30 : Value).ownBlock ∧ some k_ ≠ (.slice Ao31 t31.length co31 : Value).ownBlock ∧ k_ ≠ gb19 ∧ k_ ≠ gb38)) (okp := (fun k_ => some k_ ≠ (.slice Ao11 y1.length co11 : Value).ownBlock ∧ some k_ ≠ (.slice Ao14 y4.length co14 : Value).ownBlock ∧ some k_ ≠ (.slice Ao18 t9.length co18 : Value).ownBlock ∧ some k_ ≠ (.slice Ao19 t12.length co19 : Value).ownBlock ∧ some k_ ≠ (.slice Ao22 y20.length co22 : Value).ownBlock ∧ some k_ ≠ (.slice Ao25 y23.length co25 : Value).ownBlock ∧ some k_ ≠ (.slice Ao30 t28.length co30 : Value).ownBlock ∧ some k_ ≠ (.slice Ao31 t31.length co31 : Value).ownBlock ∧ k_ ≠ gb19 ∧ k_ ≠ gb38)) ?hr ?hp (fun _ hk => hk) ((show ∀ k_, w32.heap.size ≤ k_ → (fun k_ => some k_ ≠ (.slice Ao11 y1.length co11 : Value).ownBlock ∧ some k_ ≠ (.slice Ao14 y4.length co14 : Value).ownBlock ∧ some k_ ≠ (.slice Ao18 t9.length co18 : Value).ownBlock ∧ some k_ ≠ (.slice Ao19 t12.length co19 : Value).ownBlock ∧ some k_ ≠ (.slice Ao22 y20.length co22 : Value).ownBlock ∧ some k_ ≠ (.slice Ao25 y23.length co25 : Value).ownBlock ∧ some k_ ≠ (.slice Ao30 t28.length co30 : Value).ownBlock ∧ some k_ ≠ (.slice Ao31 t31.length co31 : Value).ownBlock ∧ k_ ≠ gb19 ∧ k_ ≠ gb38) k_ from fun k_ hk => ⟨Kd.fresh' (Kd.R_lt (rW HO3)) k_ hk, Kd.fresh' (Kd.R_lt (rW HO6)) k_ hk, Kd.fresh' (Kd.R_lt (rW HO11)) k_ hk, Kd.fresh' (Kd.R_lt (rW HO14)) k_ hk, Kd.fresh' (Kd.R_lt (rW HO22)) k_ hk, Kd.fresh' (Kd.R_lt (rW HO25)) k_ hk, Kd.fresh' (Kd.R_lt (rW HO30)) k_ hk, Kd.fresh' (Kd.R_lt (rW HO33)) k_ hk, Kd.freshB (g := gb19) (o := .cells #[.int .u32 t7, .int .i64 t8, .slice Ao18 t9.length co18, .slice Ao19 t12.length co19, .int .u32 t15, .int .u32 t16, .int .i64 t17, .int .u32 t18] 30 (0, 0)) (bkW BK19) k_ hk, Kd.freshB (g := gb38) (o := .cells #[.int .u32 t26, .int .i64 t27, .slice Ao30 t28.length co30, .slice Ao31 t31.length co31, .int .u32 t34, .int .u32 t35, .int .i64 t36, .int .u32 t37] 30 (0, 0)) (bkW BK38) k_ hk⟩) _ (Nat.le_refl _)) (Below.refl _ _) (Nat.le_refl _) (by simp) ?_; (case hd => rfl); (case hg => rfl); (case hr => first | (go_simp; done) | (go_simp; rfl)); (case hp => exact (Reps.c2 (show Kd.FK k53 _ _ (⟨false, y39⟩ : S53) [.bool false, .slice Ao34 y39.length co34] from (k53_mkF _ _ (⟨false, y39⟩ : S53) (Kd.R_reads' (Kd.R_mono (ok' := (fun k_ => some k_ ≠ (.slice Ao11 y1.length co11 : Value).ownBlock ∧ some k_ ≠ (.slice Ao14 y4.length co14 : Value).ownBlock ∧ some k_ ≠ (.slice Ao18 t9.length co18 : Value).ownBlock ∧ some k_ ≠ (.slice Ao19 t12.length co19 : Value).ownBlock ∧ some k_ ≠ (.slice Ao22 y20.length co22 : Value).ownBlock ∧ some k_ ≠ (.slice Ao25 y23.length co25 : Value).ownBlock ∧ some k_ ≠ (.slice Ao30 t28.length co30 : Value).ownBlock ∧ some k_ ≠ (.slice Ao31 t31.length co31 : Value).ownBlock ∧ k_ ≠ gb19 ∧ k_ ≠ gb38)) (Kd.R_types (Kd.R_types (Kd.R_apart' (Kd.R_apart' (Kd.R_apart' (Kd.R_apart' (Kd.R_apart' (Kd.R_apart' (Kd.R_apart' (Kd.R_apart' (HO41.out) (Kd.R_typed HO3.out) (by decide)) (Kd.R_typed HO6.out) (by decide)) (Kd.R_typed HO11.out) (by decide)) (Kd.R_typed HO14.out) (by decide)) (Kd.R_typed HO22.out) (by decide)) (Kd.R_typed HO25.out) (by decide)) (Kd.R_typed HO30.out) (by decide)) (Kd.R_typed HO33.out) (by decide)) BK19.out (by decide)) BK38.out (by decide)) (fun k_ hk => ⟨hk.1.1.1.1.1.1.1.1.1.2, ⟨hk.1.1.1.1.1.1.1.1.2, ⟨hk.1.1.1.1.1.1.1.2, ⟨hk.1.1.1.1.1.1.2, ⟨hk.1.1.1.1.1.2, ⟨hk.1.1.1.1.2, ⟨hk.1.1.1.2, ⟨hk.1.1.2, ⟨hk.1.2, hk.2⟩⟩⟩⟩⟩⟩⟩⟩⟩))).2.1 (Kd.R_F (Kd.R_mono (ok' := (fun k_ => some k_ ≠ (.slice Ao11 y1.length co11 : Value).ownBlock ∧ some k_ ≠ (.slice Ao14 y4.length co14 : Value).ownBlock ∧ some k_ ≠ (.slice Ao18 t9.length co18 : Value).ownBlock ∧ some k_ ≠ (.slice Ao19 t12.length co19 : Value).ownBlock ∧ some k_ ≠ (.slice Ao22 y20.length co22 : Value).ownBlock ∧ some k_ ≠ (.slice Ao25 y23.length co25 : Value).ownBlock ∧ some k_ ≠ (.slice Ao30 t28.length co30 : Value).ownBlock ∧ some k_ ≠ (.slice Ao31 t31.length co31 : Value).ownBlock ∧ k_ ≠ gb19 ∧ k_ ≠ gb38)) (Kd.R_types (Kd.R_types (Kd.R_apart' (Kd.R_apart' (Kd.R_apart' (Kd.R_apart' (Kd.R_apart' (Kd.R_apart' (Kd.R_apart' (Kd.R_apart' (HO41.out) (Kd.R_typed HO3.out) (by decide)) (Kd.R_typed HO6.out) (by decide)) (Kd.R_typed HO11.out) (by decide)) (Kd.R_typed HO14.out) (by decide)) (Kd.R_typed HO22.out) (by decide)) (Kd.R_typed HO25.out) (by decide)) (Kd.R_typed HO30.out) (by decide)) (Kd.R_typed HO33.out) (by decide)) BK19.out (by decide)) BK38.out (by decide)) (fun k_ hk => ⟨hk.1.1.1.1.1.1.1.1.1.2, ⟨hk.1.1.1.1.1.1.1.1.2, ⟨hk.1.1.1.1.1.1.1.2, ⟨hk.1.1.1.1.1.1.2, ⟨hk.1.1.1.1.1.2, ⟨hk.1.1.1.1.2, ⟨hk.1.1.1.2, ⟨hk.1.1.2, ⟨hk.1.2, hk.2⟩⟩⟩⟩⟩⟩⟩⟩⟩))))) (Reps.none _ _))); intro v43 w35 ho36 hb hg_ hnew_; clear hg_ hnew_; (first | rw [← Ny42.out] at ho36 | (simp only [Int.reduceToNat] at ho36; rw [← Ny42.out] at ho36)); have n0_ := Aside0.mk (Kd.R_below (rW HO3) hb); have n1_ := Aside0.mk (Kd.R_below (rW HO6) hb); have n2_ := Aside0.mk (Kd.R_below (rW HO11) hb); have n3_ := Aside0.mk (Kd.R_below (rW HO14) hb); have n4_ := Aside0.mk (Kd.R_below (rW HO22) hb); have n5_ := Aside0.mk (Kd.R_below (rW HO25) hb); have n6_ := Aside0.mk (Kd.R_below (rW HO30) hb); have n7_ := Aside0.mk (Kd.R_below (rW HO33) hb); have n8_ := Aside0.mk (Kd.N_lower ho36 (below_size (hbW HB))); have n9_ := bkB BK19 hb; have n10_ := bkB BK38 hb; have n11_ := hbS HB hb; clear HO3; clear HO6; clear HO11; clear HO14; clear HO22; clear HO25; clear HO30; clear HO33; clear BK19; clear BK38; clear HB; clear HO41; have HO3 := n0_; have HO6 := n1_; have HO11 := n2_; have HO14 := n3_; have HO22 := n4_; have HO25 := n5_; have HO30 := n6_; have HO33 := n7_; have HO44 := n8_; have BK19 := n9_; have BK38 := n10_; have HB := n11_; clear n0_ n1_ n2_ n3_ n4_ n5_ n6_ n7_ n8_ n9_ n10_ n11_; clear hb ho36; obtain ⟨Ao37, co37, eo37⟩ := Kd.N_slice HO44.out; subst eo37) | ((with_reducible refine gate_dst (N := 19) rfl ?_); (try (refine gate_guard (by rfl) ?_; dsimp only)); refine Kd.R_lit (Kd.int .u32) _ 22 ?hg (N := 19) ?hd (xs := ([458759, 4259840001] : List Int)) (inner := [.int .u32 458759, .int .u32 4259840001]) (ok := fun _ => True) (okp := fun _ => True) ?hr ?hp (fun _ hk => hk) trivial (Below.refl _ _) (Nat.le_refl _) (by simp) ?_; (case hd => rfl); (case hg => rfl); (case hr => first | (go_simp; done) | (go_simp; rfl)); (case hp => exact (Reps.one (show Kd.M (Kd.int .u32) _ _ _ 458759 [.int .u32 458759] from rfl) (Reps.one (show Kd.M (Kd.int .u32) _ _ _ 4259840001 [.int .u32 4259840001] from rfl) (Reps.none _ _)))); intro v46 w38 ho39 hb hg_ hnew_; clear hg_ hnew_; (first | rw [← Ny45.out] at ho39 | (simp only [Int.reduceToNat] at ho39; rw [← Ny45.out] at ho39)); have HO47 := Aside0.mk (Kd.R_lower (Kd.R_new' (Kd.R_new' (Kd.R_new' (Kd.R_new' (Kd.R_new' (Kd.R_new' (Kd.R_new' (Kd.R_new' ho39 (Kd.R_lt (rW HO3))) (Kd.R_lt (rW HO6))) (Kd.R_lt (rW HO11))) (Kd.R_lt (rW HO14))) (Kd.R_lt (rW HO22))) (Kd.R_lt (rW HO25))) (Kd.R_lt (rW HO30))) (Kd.R_lt (rW HO33))) (below_size (hbW HB))); replace HO3 := Aside0.mk (Kd.R_elder' (rW HO3) (Kd.R_base ho39) hb); replace HO6 := Aside0.mk (Kd.R_elder' (rW HO6) (Kd.R_base ho39) hb); replace HO11 := Aside0.mk (Kd.R_elder' (rW HO11) (Kd.R_base ho39) hb); replace HO14 := Aside0.mk (Kd.R_elder' (rW HO14) (Kd.R_base ho39) hb); replace HO22 := Aside0.mk (Kd.R_elder' (rW HO22) (Kd.R_base ho39) hb); replace HO25 := Aside0.mk (Kd.R_elder' (rW HO25) (Kd.R_base ho39) hb); replace HO30 := Aside0.mk (Kd.R_elder' (rW HO30) (Kd.R_base ho39) hb); replace HO33 := Aside0.mk (Kd.R_elder' (rW HO33) (Kd.R_base ho39) hb); replace HO44 := Aside0.mk (Kd.N_elder' (by (with_reducible repeat (first | apply Kd.N_alloc | apply Kd.N_drewN | apply Kd.N_drew)); exact HO44.out) (Kd.R_base ho39) hb); replace BK19 := bkB BK19 hb; replace BK38 := bkB BK38 hb; replace HB := hbS HB hb; clear hb ho39; obtain ⟨Ao40, co40, eo40⟩ := Kd.R_slice HO47.out; subst eo40) | ((with_reducible refine gate_callee (f := 13) rfl ?_); refine goesL_ (some 21) rfl rfl Try.func13 (by kernel_rfl) rfl #[.agg #[.int .i64 8, .int .u32 0, .slice none 0 0, .slice Ao37 y42.length co37], .agg #[.int .u32 0, .int .i64 0, .slice none 0 0, .slice Ao40 y45.length co40, .int .u32 0, .int .u32 0, .int .i64 0, .int .u32 0]] rfl (by (try simp only [List.map_toArray, List.map_cons, List.map_nil]); first | done | rfl | (simp only [List.length_drop, List.length_take]; rfl)) ?_; (refine (q8z.calls k 8 0 (fun k_ => False) _ _ ([] : List Int) _ _ y42 0 0 _ _ ([] : List Int) _ _ y45 0 0 0 0 t48 t49 t50 t53 t56 t57 t58 t59 _ ?side1 ?side2 ?side3 ?side4 ?side5 ?side6 ?side7 A3.out).mono ?_); (case side1 => exact Kd.V_nil _ _ _ _ _); (case side2 => repeat (first | exact (Kd.N_reads' HO44.out).2.2 | (with_reducible refine Kd.C_alloc ?_ _) | (with_reducible refine Kd.C_drewN ?_ _) | (with_reducible refine Kd.C_drew ?_))); (case side3 => exact (Kd.N_reads' HO44.out).2.1); (case side4 => exact Kd.C_nil _ _); (case side5 => exact Nat.le_refl _); (case side6 => repeat (first | exact (Kd.R_reads' HO47.out).2.2 | (with_reducible refine Kd.C_alloc ?_ _) | (with_reducible refine Kd.C_drewN ?_ _) | (with_reducible refine Kd.C_drew ?_))); (case side7 => exact (Kd.R_reads' HO47.out).2.1); rintro e w41 ⟨v51, v54, rfl, ho0, ho1, hb⟩; refine ⟨_, rfl, ?_⟩; have HO52 := Aside0.mk (Kd.R_lower (Kd.R_new' (Kd.R_new' (Kd.R_new' (Kd.R_new' (Kd.R_new' (Kd.R_new' (Kd.R_new' (Kd.R_new' (Kd.R_new' (Kd.R_mono (ok' := fun k_ => some k_ ≠ (v54 : Value).ownBlock) ho0 (fun _ hk_ => hk_.2)) (Kd.R_lt (rW HO3))) (Kd.R_lt (rW HO6))) (Kd.R_lt (rW HO11))) (Kd.R_lt (rW HO14))) (Kd.R_lt (rW HO22))) (Kd.R_lt (rW HO25))) (Kd.R_lt (rW HO30))) (Kd.R_lt (rW HO33))) (Kd.R_lt (rW HO47))) (below_size (hbW HB))); have HO55 := Aside0.mk (Kd.R_lower (Kd.R_new' (Kd.R_new' (Kd.R_new' (Kd.R_new' (Kd.R_new' (Kd.R_new' (Kd.R_new' (Kd.R_new' (Kd.R_new' (Kd.R_mono (ok' := fun k_ => some k_ ≠ (v51 : Value).ownBlock) ho1 (fun _ hk_ => hk_.2)) (Kd.R_lt (rW HO3))) (Kd.R_lt (rW HO6))) (Kd.R_lt (rW HO11))) (Kd.R_lt (rW HO14))) (Kd.R_lt (rW HO22))) (Kd.R_lt (rW HO25))) (Kd.R_lt (rW HO30))) (Kd.R_lt (rW HO33))) (Kd.R_lt (rW HO47))) (below_size (hbW HB))); replace HO3 := Aside0.mk (Kd.R_mono (Kd.R_told (Kd.R_told (Kd.R_old (rW HO3) hb) (Kd.R_base ho0)) (Kd.R_base ho1)) (fun _ h_ => h_.1)); replace HO6 := Aside0.mk (Kd.R_mono (Kd.R_told (Kd.R_told (Kd.R_old (rW HO6) hb) (Kd.R_base ho0)) (Kd.R_base ho1)) (fun _ h_ => h_.1)); replace HO11 := Aside0.mk (Kd.R_mono (Kd.R_told (Kd.R_told (Kd.R_old (rW HO11) hb) (Kd.R_base ho0)) (Kd.R_base ho1)) (fun _ h_ => h_.1)); replace HO14 := Aside0.mk (Kd.R_mono (Kd.R_told (Kd.R_told (Kd.R_old (rW HO14) hb) (Kd.R_base ho0)) (Kd.R_base ho1)) (fun _ h_ => h_.1)); replace HO22 := Aside0.mk (Kd.R_mono (Kd.R_told (Kd.R_told (Kd.R_old (rW HO22) hb) (Kd.R_base ho0)) (Kd.R_base ho1)) (fun _ h_ => h_.1)); replace HO25 := Aside0.mk (Kd.R_mono (Kd.R_told (Kd.R_told (Kd.R_old (rW HO25) hb) (Kd.R_base ho0)) (Kd.R_base ho1)) (fun _ h_ => h_.1)); replace HO30 := Aside0.mk (Kd.R_mono (Kd.R_told (Kd.R_told (Kd.R_old (rW HO30) hb) (Kd.R_base ho0)) (Kd.R_base ho1)) (fun _ h_ => h_.1)); replace HO33 := Aside0.mk (Kd.R_mono (Kd.R_told (Kd.R_told (Kd.R_old (rW HO33) hb) (Kd.R_base ho0)) (Kd.R_base ho1)) (fun _ h_ => h_.1)); replace HO44 := Aside0.mk (Kd.N_mono (Kd.N_told (Kd.N_told (Kd.N_old (by (with_reducible repeat (first | apply Kd.N_alloc | apply Kd.N_drewN | apply Kd.N_drew)); exact HO44.out) hb) (Kd.R_base ho0)) (Kd.R_base ho1)) (fun _ h_ => h_.1)); replace HO47 := Aside0.mk (Kd.R_mono (Kd.R_told (Kd.R_told (Kd.R_old (rW HO47) hb) (Kd.R_base ho0)) (Kd.R_base ho1)) (fun _ h_ => h_.1)); replace BK19 := bkB BK19 hb; replace BK38 := bkB BK38 hb; replace HB := hbS HB hb; (try clear hb); (try clear hk); (try clear ho0); (try clear ho1)) | ((with_reducible refine gate_dst (N := 3) rfl ?_); (try (refine gate_guard (by rfl) ?_; dsimp only)); refine box_event ?hg (N := 3) ?hd (cs := #[.int .u32 0, .int .i64 0, .slice none 0 0, .slice none 0 0, .int .u32 0, .int .u32 0, .int .i64 0, .int .u32 0]) (t := 30) ?hr ?_; (case hd => rfl); (case hg => rfl); (case hr => first | (go_simp; done) | (go_simp; rfl)); intro gb60 hg w42 hbox hb; have BK60 := Aside0.mk (hbox); have GW60 := gwS hg HB; have GE60 := gwS hg HB; have NB19_60 := nbL hg BK19; have NB60_19 := nbG hg BK19; have NB38_60 := nbL hg BK38; have NB60_38 := nbG hg BK38; replace HO3 := Aside0.mk (Kd.R_below (rW HO3) hb); replace HO6 := Aside0.mk (Kd.R_below (rW HO6) hb); replace HO11 := Aside0.mk (Kd.R_below (rW HO11) hb); replace HO14 := Aside0.mk (Kd.R_below (rW HO14) hb); replace HO22 := Aside0.mk (Kd.R_below (rW HO22) hb); replace HO25 := Aside0.mk (Kd.R_below (rW HO25) hb); replace HO30 := Aside0.mk (Kd.R_below (rW HO30) hb); replace HO33 := Aside0.mk (Kd.R_below (rW HO33) hb); replace HO44 := Aside0.mk (Kd.N_below (Kd.N_elderB (by (with_reducible repeat (first | apply Kd.N_alloc | apply Kd.N_drewN | apply Kd.N_drew)); exact HO44.out) gb60 (Nat.le_of_eq hg.symm)) hb); replace HO47 := Aside0.mk (Kd.R_below (rW HO47) hb); replace HO52 := Aside0.mk (Kd.R_below (rW HO52) hb); replace HO55 := Aside0.mk (Kd.R_below (rW HO55) hb); replace BK19 := bkB BK19 hb; replace BK38 := bkB BK38 hb; replace HB := hbS HB hb; clear hb hbox hg; have hnb43 := NB60_19.out; have hnc43 := NB19_60.out; have hnb44 := NB60_38.out; have hnc44 := NB38_60.out; obtain ⟨hcz45_0, hcz45_1, hcz45_2, hcz45_3, hcz45_4, hcz45_5, hcz45_6, hcz45_7, hfz45_0, hfz45_1, hfz45_2, hfz45_3, hfz45_4, hfz45_5, hfz45_6, hfz45_7⟩ := bc8 BK60; obtain ⟨Ao46, co46, eo46⟩ := Kd.R_slice HO52.out; subst eo46; obtain ⟨Ao47, co47, eo47⟩ := Kd.R_slice HO55.out; subst eo47; obtain ⟨hcz146_0, hcz146_1, hcz146_2, hcz146_3, hcz146_4, hcz146_5, hcz146_6, hcz146_7, hfz146_0, hfz146_1, hfz146_2, hfz146_3, hfz146_4, hfz146_5, hfz146_6, hfz146_7⟩ := bc8 BK19))
 have H := HH_c5.out
 clear HH_c5
 by_cases c5 : t64 = true
 ·
  subst c5
  have H1 : ((q9z.f k t31 (([3, 4, 5] : List Int))).bind fun t68 => (if t68 = true then ((q9z.f k t53 (([458759] : List Int))).bind fun t72 => (some t72)) else (some false))) = some r := by rw [if_pos rfl] at H; exact H
  clear H
  have H := H1
  clear H1
  obtain ⟨y65, hy65⟩ : ∃ y_ : List Int, y_ = (([3, 4, 5] : List Int)) := ⟨_, rfl⟩
  replace H : ((q9z.f k t31 y65).bind fun t68 => (if t68 = true then ((q9z.f k t53 (([458759] : List Int))).bind fun t72 => (some t72)) else (some false))) = some r := by first | (rw [hy65]; with_reducible exact H) | (have H2_ := (Option.bind_some _ _).symm.trans H; rw [hy65]; with_reducible exact H2_) | (have H2_ := (Option.bind_some _ _).symm.trans H; with_reducible exact H2_) | with_reducible exact H | (rw [hy65]; exact H) | exact H
  have Ny65 := Aside0.mk hy65
  clear hy65
  replace H := Option.bind_eq_some_iff.mp H
  obtain ⟨t68, A60, H⟩ := H
  replace H : (if t68 = true then ((q9z.f k t53 (([458759] : List Int))).bind fun t72 => (some t72)) else (some false)) = some r := H
  have A6 := Aside0.mk A60
  clear A60
  by_cases c7 : t68 = true
  ·
   subst c7
   have H1 : ((q9z.f k t53 (([458759] : List Int))).bind fun t72 => (some t72)) = some r := by rw [if_pos rfl] at H; exact H
   clear H
   have H := H1
   clear H1
   obtain ⟨y69, hy69⟩ : ∃ y_ : List Int, y_ = (([458759] : List Int)) := ⟨_, rfl⟩
   replace H : ((q9z.f k t53 y69).bind fun t72 => (some t72)) = some r := by first | (rw [hy69]; with_reducible exact H) | (have H2_ := (Option.bind_some _ _).symm.trans H; rw [hy69]; with_reducible exact H2_) | (have H2_ := (Option.bind_some _ _).symm.trans H; with_reducible exact H2_) | with_reducible exact H | (rw [hy69]; exact H) | exact H
   have Ny69 := Aside0.mk hy69
   clear hy69
   replace H := Option.bind_eq_some_iff.mp H
   obtain ⟨t72, A80, H⟩ := H
   replace H : (some t72) = some r := H
   have A8 := Aside0.mk A80
   clear A80
   obtain rfl := Option.some.inj H
   go_wp2_with (first | ((with_reducible refine gate_dst (N := 24) rfl ?_); (try (refine gate_guard (by rfl) ?_; dsimp only)); refine Kd.R_lit (Kd.int .u32) _ 22 ?hg (N := 24) ?hd (xs := ([1, 2, 3] : List Int)) (inner := [.int .u32 1, .int .u32 2, .int .u32 3]) (ok := fun _ => True) (okp := fun _ => True) ?hr ?hp (fun _ hk => hk) trivial (Below.refl _ _) (Nat.le_refl _) (by simp) ?_; (case hd => rfl); (case hg => rfl); (case hr => first | (go_simp; done) | (go_simp; rfl)); (case hp => exact (Reps.one (show Kd.M (Kd.int .u32) _ _ _ 1 [.int .u32 1] from rfl) (Reps.one (show Kd.M (Kd.int .u32) _ _ _ 2 [.int .u32 2] from rfl) (Reps.one (show Kd.M (Kd.int .u32) _ _ _ 3 [.int .u32 3] from rfl) (Reps.none _ _))))); intro v62 w49 ho50 hb hg_ hnew_; clear hg_ hnew_; (first | rw [← Ny61.out] at ho50 | (simp only [Int.reduceToNat] at ho50; rw [← Ny61.out] at ho50)); have HO63 := Aside0.mk (Kd.R_lower (Kd.R_new' (Kd.R_new' (Kd.R_new' (Kd.R_new' (Kd.R_new' (Kd.R_new' (Kd.R_new' (Kd.R_new' (Kd.R_new' (Kd.R_new' (Kd.R_new' ho50 (Kd.R_lt (rW HO3))) (Kd.R_lt (rW HO6))) (Kd.R_lt (rW HO11))) (Kd.R_lt (rW HO14))) (Kd.R_lt (rW HO22))) (Kd.R_lt (rW HO25))) (Kd.R_lt (rW HO30))) (Kd.R_lt (rW HO33))) (Kd.R_lt (rW HO47))) (Kd.R_lt (rW HO52))) (Kd.R_lt (rW HO55))) (below_size (hbW HB))); replace HO3 := Aside0.mk (Kd.R_elder' (rW HO3) (Kd.R_base ho50) hb); replace HO6 := Aside0.mk (Kd.R_elder' (rW HO6) (Kd.R_base ho50) hb); replace HO11 := Aside0.mk (Kd.R_elder' (rW HO11) (Kd.R_base ho50) hb); replace HO14 := Aside0.mk (Kd.R_elder' (rW HO14) (Kd.R_base ho50) hb); replace HO22 := Aside0.mk (Kd.R_elder' (rW HO22) (Kd.R_base ho50) hb); replace HO25 := Aside0.mk (Kd.R_elder' (rW HO25) (Kd.R_base ho50) hb); replace HO30 := Aside0.mk (Kd.R_elder' (rW HO30) (Kd.R_base ho50) hb); replace HO33 := Aside0.mk (Kd.R_elder' (rW HO33) (Kd.R_base ho50) hb); replace HO44 := Aside0.mk (Kd.N_elder' (by (with_reducible repeat (first | apply Kd.N_alloc | apply Kd.N_drewN | apply Kd.N_drew)); exact (Kd.N_mono (Kd.N_far (p := ⟨gb60, 7, none⟩) (Kd.N_far (p := ⟨gb60, 6, none⟩) (Kd.N_far (p := ⟨gb60, 5, none⟩) (Kd.N_far (p := ⟨gb60, 4, none⟩) (Kd.N_far (p := ⟨gb60, 3, none⟩) (Kd.N_far (p := ⟨gb60, 2, none⟩) (Kd.N_far (p := ⟨gb60, 1, none⟩) (Kd.N_far (p := ⟨gb60, 0, none⟩) (Kd.N_mono HO44.out (fun k_ hk => (⟨hk, hk.2⟩ : _ ∧ k_ ≠ gb60))) (fun _ hk => hk.2) (.int .u32 t48)) (fun _ hk => hk.2) (.int .i64 t49)) (fun _ hk => hk.2) (.slice Ao46 t50.length co46)) (fun _ hk => hk.2) (.slice Ao47 t53.length co47)) (fun _ hk => hk.2) (.int .u32 t56)) (fun _ hk => hk.2) (.int .u32 t57)) (fun _ hk => hk.2) (.int .i64 t58)) (fun _ hk => hk.2) (.int .u32 t59)) (fun _ h_ => h_.1))) (Kd.R_base ho50) hb); replace HO47 := Aside0.mk (Kd.R_elder' (rW HO47) (Kd.R_base ho50) hb); replace HO52 := Aside0.mk (Kd.R_elder' (rW HO52) (Kd.R_base ho50) hb); replace HO55 := Aside0.mk (Kd.R_elder' (rW HO55) (Kd.R_base ho50) hb); replace BK19 := bvB BK19 hb; replace BK38 := bvB BK38 hb; replace BK60 := Aside0.mk (blk_below (g := gb60) (o := .cells #[.int .u32 t48, .int .i64 t49, .slice Ao46 t50.length co46, .slice Ao47 t53.length co47, .int .u32 t56, .int .u32 t57, .int .i64 t58, .int .u32 t59] 30 (0, 0)) (bp8 BK60) hb); replace HB := hbS HB hb; clear hb ho50; obtain ⟨Ao51, co51, eo51⟩ := Kd.R_slice HO63.out; subst eo51) | ((with_reducible refine gate_callee (f := 20) rfl ?_); refine goesL_ (some 25) rfl rfl Try.func20 (by kernel_rfl) rfl #[.slice Ao18 t9.length co18, .slice Ao51 y61.length co51] rfl (by (try simp only [List.map_toArray, List.map_cons, List.map_nil]); first | done | rfl | (simp only [List.length_drop, List.length_take]; rfl)) ?_; (with_reducible refine (q9z.calls k _ _ t9 _ _ y61 true _ ?side1 ?side2 ?side3 ?side4 A4.out).mono ?_); (case side1 => repeat (first | exact (Kd.R_reads' HO11.out).2.2 | (with_reducible refine Kd.C_alloc ?_ _) | (with_reducible refine Kd.C_drewN ?_ _) | (with_reducible refine Kd.C_drew ?_))); (case side2 => exact (Kd.R_reads' HO11.out).2.1); (case side3 => repeat (first | exact (Kd.R_reads' HO63.out).2.2 | (with_reducible refine Kd.C_alloc ?_ _) | (with_reducible refine Kd.C_drewN ?_ _) | (with_reducible refine Kd.C_drew ?_))); (case side4 => exact (Kd.R_reads' HO63.out).2.1); rintro e w' ⟨rfl, ⟨nd, rfl⟩⟩; refine ⟨_, rfl, ?_⟩; obtain ⟨hcz52_0, hcz52_1, hcz52_2, hcz52_3, hcz52_4, hcz52_5, hcz52_6, hcz52_7, hfz52_0, hfz52_1, hfz52_2, hfz52_3, hfz52_4, hfz52_5, hfz52_6, hfz52_7⟩ := bc8 BK38) | ((with_reducible refine gate_dst (N := 29) rfl ?_); (try (refine gate_guard (by rfl) ?_; dsimp only)); refine Kd.R_lit (Kd.int .u32) _ 22 ?hg (N := 29) ?hd (xs := ([3, 4, 5] : List Int)) (inner := [.int .u32 3, .int .u32 4, .int .u32 5]) (ok := fun _ => True) (okp := fun _ => True) ?hr ?hp (fun _ hk => hk) trivial (Below.refl _ _) (Nat.le_refl _) (by simp) ?_; (case hd => rfl); (case hg => rfl); (case hr => first | (go_simp; done) | (go_simp; rfl)); (case hp => exact (Reps.one (show Kd.M (Kd.int .u32) _ _ _ 3 [.int .u32 3] from rfl) (Reps.one (show Kd.M (Kd.int .u32) _ _ _ 4 [.int .u32 4] from rfl) (Reps.one (show Kd.M (Kd.int .u32) _ _ _ 5 [.int .u32 5] from rfl) (Reps.none _ _))))); intro v66 w53 ho54 hb hg_ hnew_; clear hg_ hnew_; (first | rw [← Ny65.out] at ho54 | (simp only [Int.reduceToNat] at ho54; rw [← Ny65.out] at ho54)); have HO67 := Aside0.mk (Kd.R_lower (Kd.R_new' (Kd.R_new' (Kd.R_new' (Kd.R_new' (Kd.R_new' (Kd.R_new' (Kd.R_new' (Kd.R_new' (Kd.R_new' (Kd.R_new' (Kd.R_new' (Kd.R_new' ho54 (Kd.R_lt (rW HO3))) (Kd.R_lt (rW HO6))) (Kd.R_lt (rW HO11))) (Kd.R_lt (rW HO14))) (Kd.R_lt (rW HO22))) (Kd.R_lt (rW HO25))) (Kd.R_lt (rW HO30))) (Kd.R_lt (rW HO33))) (Kd.R_lt (rW HO47))) (Kd.R_lt (rW HO52))) (Kd.R_lt (rW HO55))) (Kd.R_lt (rW HO63))) (below_size (hbW HB))); replace HO3 := Aside0.mk (Kd.R_elder' (rW HO3) (Kd.R_base ho54) hb); replace HO6 := Aside0.mk (Kd.R_elder' (rW HO6) (Kd.R_base ho54) hb); replace HO11 := Aside0.mk (Kd.R_elder' (rW HO11) (Kd.R_base ho54) hb); replace HO14 := Aside0.mk (Kd.R_elder' (rW HO14) (Kd.R_base ho54) hb); replace HO22 := Aside0.mk (Kd.R_elder' (rW HO22) (Kd.R_base ho54) hb); replace HO25 := Aside0.mk (Kd.R_elder' (rW HO25) (Kd.R_base ho54) hb); replace HO30 := Aside0.mk (Kd.R_elder' (rW HO30) (Kd.R_base ho54) hb); replace HO33 := Aside0.mk (Kd.R_elder' (rW HO33) (Kd.R_base ho54) hb); replace HO44 := Aside0.mk (Kd.N_elder' (by (with_reducible repeat (first | apply Kd.N_alloc | apply Kd.N_drewN | apply Kd.N_drew)); exact HO44.out) (Kd.R_base ho54) hb); replace HO47 := Aside0.mk (Kd.R_elder' (rW HO47) (Kd.R_base ho54) hb); replace HO52 := Aside0.mk (Kd.R_elder' (rW HO52) (Kd.R_base ho54) hb); replace HO55 := Aside0.mk (Kd.R_elder' (rW HO55) (Kd.R_base ho54) hb); replace HO63 := Aside0.mk (Kd.R_elder' (rW HO63) (Kd.R_base ho54) hb); replace BK19 := bkB BK19 hb; replace BK38 := bkB BK38 hb; replace BK60 := bkB BK60 hb; replace HB := hbS HB hb; clear hb ho54; obtain ⟨Ao55, co55, eo55⟩ := Kd.R_slice HO67.out; subst eo55) | (go_at_call 20; (with_reducible refine (q9z.calls k _ _ t31 _ _ y65 true _ ?side1 ?side2 ?side3 ?side4 A6.out).mono ?_); (case side1 => repeat (first | exact (Kd.R_reads' HO33.out).2.2 | (with_reducible refine Kd.C_alloc ?_ _) | (with_reducible refine Kd.C_drewN ?_ _) | (with_reducible refine Kd.C_drew ?_))); (case side2 => exact (Kd.R_reads' HO33.out).2.1); (case side3 => repeat (first | exact (Kd.R_reads' HO67.out).2.2 | (with_reducible refine Kd.C_alloc ?_ _) | (with_reducible refine Kd.C_drewN ?_ _) | (with_reducible refine Kd.C_drew ?_))); (case side4 => exact (Kd.R_reads' HO67.out).2.1); rintro e w' ⟨rfl, ⟨nd, rfl⟩⟩; obtain ⟨hcz56_0, hcz56_1, hcz56_2, hcz56_3, hcz56_4, hcz56_5, hcz56_6, hcz56_7, hfz56_0, hfz56_1, hfz56_2, hfz56_3, hfz56_4, hfz56_5, hfz56_6, hfz56_7⟩ := bc8 BK60) | ((with_reducible refine gate_dst (N := 35) rfl ?_); (try (refine gate_guard (by rfl) ?_; dsimp only)); refine Kd.R_lit (Kd.int .u32) _ 22 ?hg (N := 35) ?hd (xs := ([458759] : List Int)) (inner := [.int .u32 458759]) (ok := fun _ => True) (okp := fun _ => True) ?hr ?hp (fun _ hk => hk) trivial (Below.refl _ _) (Nat.le_refl _) (by simp) ?_; (case hd => rfl); (case hg => rfl); (case hr => first | (go_simp; done) | (go_simp; rfl)); (case hp => exact (Reps.one (show Kd.M (Kd.int .u32) _ _ _ 458759 [.int .u32 458759] from rfl) (Reps.none _ _))); intro v70 w57 ho58 hb hg_ hnew_; clear hg_ hnew_; (first | rw [← Ny69.out] at ho58 | (simp only [Int.reduceToNat] at ho58; rw [← Ny69.out] at ho58)); have HO71 := Aside0.mk (Kd.R_lower (Kd.R_new' (Kd.R_new' (Kd.R_new' (Kd.R_new' (Kd.R_new' (Kd.R_new' (Kd.R_new' (Kd.R_new' (Kd.R_new' (Kd.R_new' (Kd.R_new' (Kd.R_new' (Kd.R_new' ho58 (Kd.R_lt (rW HO3))) (Kd.R_lt (rW HO6))) (Kd.R_lt (rW HO11))) (Kd.R_lt (rW HO14))) (Kd.R_lt (rW HO22))) (Kd.R_lt (rW HO25))) (Kd.R_lt (rW HO30))) (Kd.R_lt (rW HO33))) (Kd.R_lt (rW HO47))) (Kd.R_lt (rW HO52))) (Kd.R_lt (rW HO55))) (Kd.R_lt (rW HO63))) (Kd.R_lt (rW HO67))) (below_size (hbW HB))); replace HO3 := Aside0.mk (Kd.R_elder' (rW HO3) (Kd.R_base ho58) hb); replace HO6 := Aside0.mk (Kd.R_elder' (rW HO6) (Kd.R_base ho58) hb); replace HO11 := Aside0.mk (Kd.R_elder' (rW HO11) (Kd.R_base ho58) hb); replace HO14 := Aside0.mk (Kd.R_elder' (rW HO14) (Kd.R_base ho58) hb); replace HO22 := Aside0.mk (Kd.R_elder' (rW HO22) (Kd.R_base ho58) hb); replace HO25 := Aside0.mk (Kd.R_elder' (rW HO25) (Kd.R_base ho58) hb); replace HO30 := Aside0.mk (Kd.R_elder' (rW HO30) (Kd.R_base ho58) hb); replace HO33 := Aside0.mk (Kd.R_elder' (rW HO33) (Kd.R_base ho58) hb); replace HO44 := Aside0.mk (Kd.N_elder' (by (with_reducible repeat (first | apply Kd.N_alloc | apply Kd.N_drewN | apply Kd.N_drew)); exact HO44.out) (Kd.R_base ho58) hb); replace HO47 := Aside0.mk (Kd.R_elder' (rW HO47) (Kd.R_base ho58) hb); replace HO52 := Aside0.mk (Kd.R_elder' (rW HO52) (Kd.R_base ho58) hb); replace HO55 := Aside0.mk (Kd.R_elder' (rW HO55) (Kd.R_base ho58) hb); replace HO63 := Aside0.mk (Kd.R_elder' (rW HO63) (Kd.R_base ho58) hb); replace HO67 := Aside0.mk (Kd.R_elder' (rW HO67) (Kd.R_base ho58) hb); replace BK19 := bkB BK19 hb; replace BK38 := bkB BK38 hb; replace BK60 := bkB BK60 hb; replace HB := hbS HB hb; clear hb ho58; obtain ⟨Ao59, co59, eo59⟩ := Kd.R_slice HO71.out; subst eo59) | (go_at_call 20; (with_reducible refine (q9z.calls k _ _ t53 _ _ y69 t72 _ ?side1 ?side2 ?side3 ?side4 A8.out).mono ?_); (case side1 => repeat (first | exact (Kd.R_reads' HO55.out).2.2 | (with_reducible refine Kd.C_alloc ?_ _) | (with_reducible refine Kd.C_drewN ?_ _) | (with_reducible refine Kd.C_drew ?_))); (case side2 => exact (Kd.R_reads' HO55.out).2.1); (case side3 => repeat (first | exact (Kd.R_reads' HO71.out).2.2 | (with_reducible refine Kd.C_alloc ?_ _) | (with_reducible refine Kd.C_drewN ?_ _) | (with_reducible refine Kd.C_drew ?_))); (case side4 => exact (Kd.R_reads' HO71.out).2.1); rintro e w' ⟨rfl, ⟨nd, rfl⟩⟩))
   go_ret
   exact ⟨by first | rfl | (simp [errW_none, errW_some] <;> rfl) | (simp [*, errW_none, errW_some] <;> rfl), hbW HB⟩
  ·
   replace c7 := Bool.eq_false_iff.mpr c7
   subst c7
   have H1 : (some false) = some r := by rw [if_neg (show ¬ (false = true) by decide)] at H; exact H
   clear H
   have H := H1
   clear H1
   obtain rfl := Option.some.inj H
   go_wp2_with (first | ((with_reducible refine gate_dst (N := 24) rfl ?_); (try (refine gate_guard (by rfl) ?_; dsimp only)); refine Kd.R_lit (Kd.int .u32) _ 22 ?hg (N := 24) ?hd (xs := ([1, 2, 3] : List Int)) (inner := [.int .u32 1, .int .u32 2, .int .u32 3]) (ok := fun _ => True) (okp := fun _ => True) ?hr ?hp (fun _ hk => hk) trivial (Below.refl _ _) (Nat.le_refl _) (by simp) ?_; (case hd => rfl); (case hg => rfl); (case hr => first | (go_simp; done) | (go_simp; rfl)); (case hp => exact (Reps.one (show Kd.M (Kd.int .u32) _ _ _ 1 [.int .u32 1] from rfl) (Reps.one (show Kd.M (Kd.int .u32) _ _ _ 2 [.int .u32 2] from rfl) (Reps.one (show Kd.M (Kd.int .u32) _ _ _ 3 [.int .u32 3] from rfl) (Reps.none _ _))))); intro v62 w100 ho101 hb hg_ hnew_; clear hg_ hnew_; (first | rw [← Ny61.out] at ho101 | (simp only [Int.reduceToNat] at ho101; rw [← Ny61.out] at ho101)); have HO63 := Aside0.mk (Kd.R_lower (Kd.R_new' (Kd.R_new' (Kd.R_new' (Kd.R_new' (Kd.R_new' (Kd.R_new' (Kd.R_new' (Kd.R_new' (Kd.R_new' (Kd.R_new' (Kd.R_new' ho101 (Kd.R_lt (rW HO3))) (Kd.R_lt (rW HO6))) (Kd.R_lt (rW HO11))) (Kd.R_lt (rW HO14))) (Kd.R_lt (rW HO22))) (Kd.R_lt (rW HO25))) (Kd.R_lt (rW HO30))) (Kd.R_lt (rW HO33))) (Kd.R_lt (rW HO47))) (Kd.R_lt (rW HO52))) (Kd.R_lt (rW HO55))) (below_size (hbW HB))); replace HO3 := Aside0.mk (Kd.R_elder' (rW HO3) (Kd.R_base ho101) hb); replace HO6 := Aside0.mk (Kd.R_elder' (rW HO6) (Kd.R_base ho101) hb); replace HO11 := Aside0.mk (Kd.R_elder' (rW HO11) (Kd.R_base ho101) hb); replace HO14 := Aside0.mk (Kd.R_elder' (rW HO14) (Kd.R_base ho101) hb); replace HO22 := Aside0.mk (Kd.R_elder' (rW HO22) (Kd.R_base ho101) hb); replace HO25 := Aside0.mk (Kd.R_elder' (rW HO25) (Kd.R_base ho101) hb); replace HO30 := Aside0.mk (Kd.R_elder' (rW HO30) (Kd.R_base ho101) hb); replace HO33 := Aside0.mk (Kd.R_elder' (rW HO33) (Kd.R_base ho101) hb); replace HO44 := Aside0.mk (Kd.N_elder' (by (with_reducible repeat (first | apply Kd.N_alloc | apply Kd.N_drewN | apply Kd.N_drew)); exact (Kd.N_mono (Kd.N_far (p := ⟨gb60, 7, none⟩) (Kd.N_far (p := ⟨gb60, 6, none⟩) (Kd.N_far (p := ⟨gb60, 5, none⟩) (Kd.N_far (p := ⟨gb60, 4, none⟩) (Kd.N_far (p := ⟨gb60, 3, none⟩) (Kd.N_far (p := ⟨gb60, 2, none⟩) (Kd.N_far (p := ⟨gb60, 1, none⟩) (Kd.N_far (p := ⟨gb60, 0, none⟩) (Kd.N_mono HO44.out (fun k_ hk => (⟨hk, hk.2⟩ : _ ∧ k_ ≠ gb60))) (fun _ hk => hk.2) (.int .u32 t48)) (fun _ hk => hk.2) (.int .i64 t49)) (fun _ hk => hk.2) (.slice Ao46 t50.length co46)) (fun _ hk => hk.2) (.slice Ao47 t53.length co47)) (fun _ hk => hk.2) (.int .u32 t56)) (fun _ hk => hk.2) (.int .u32 t57)) (fun _ hk => hk.2) (.int .i64 t58)) (fun _ hk => hk.2) (.int .u32 t59)) (fun _ h_ => h_.1))) (Kd.R_base ho101) hb); replace HO47 := Aside0.mk (Kd.R_elder' (rW HO47) (Kd.R_base ho101) hb); replace HO52 := Aside0.mk (Kd.R_elder' (rW HO52) (Kd.R_base ho101) hb); replace HO55 := Aside0.mk (Kd.R_elder' (rW HO55) (Kd.R_base ho101) hb); replace BK19 := bvB BK19 hb; replace BK38 := bvB BK38 hb; replace BK60 := Aside0.mk (blk_below (g := gb60) (o := .cells #[.int .u32 t48, .int .i64 t49, .slice Ao46 t50.length co46, .slice Ao47 t53.length co47, .int .u32 t56, .int .u32 t57, .int .i64 t58, .int .u32 t59] 30 (0, 0)) (bp8 BK60) hb); replace HB := hbS HB hb; clear hb ho101; obtain ⟨Ao102, co102, eo102⟩ := Kd.R_slice HO63.out; subst eo102) | ((with_reducible refine gate_callee (f := 20) rfl ?_); refine goesL_ (some 25) rfl rfl Try.func20 (by kernel_rfl) rfl #[.slice Ao18 t9.length co18, .slice Ao102 y61.length co102] rfl (by (try simp only [List.map_toArray, List.map_cons, List.map_nil]); first | done | rfl | (simp only [List.length_drop, List.length_take]; rfl)) ?_; (with_reducible refine (q9z.calls k _ _ t9 _ _ y61 true _ ?side1 ?side2 ?side3 ?side4 A4.out).mono ?_); (case side1 => repeat (first | exact (Kd.R_reads' HO11.out).2.2 | (with_reducible refine Kd.C_alloc ?_ _) | (with_reducible refine Kd.C_drewN ?_ _) | (with_reducible refine Kd.C_drew ?_))); (case side2 => exact (Kd.R_reads' HO11.out).2.1); (case side3 => repeat (first | exact (Kd.R_reads' HO63.out).2.2 | (with_reducible refine Kd.C_alloc ?_ _) | (with_reducible refine Kd.C_drewN ?_ _) | (with_reducible refine Kd.C_drew ?_))); (case side4 => exact (Kd.R_reads' HO63.out).2.1); rintro e w' ⟨rfl, ⟨nd, rfl⟩⟩; refine ⟨_, rfl, ?_⟩; obtain ⟨hcz103_0, hcz103_1, hcz103_2, hcz103_3, hcz103_4, hcz103_5, hcz103_6, hcz103_7, hfz103_0, hfz103_1, hfz103_2, hfz103_3, hfz103_4, hfz103_5, hfz103_6, hfz103_7⟩ := bc8 BK38) | ((with_reducible refine gate_dst (N := 29) rfl ?_); (try (refine gate_guard (by rfl) ?_; dsimp only)); refine Kd.R_lit (Kd.int .u32) _ 22 ?hg (N := 29) ?hd (xs := ([3, 4, 5] : List Int)) (inner := [.int .u32 3, .int .u32 4, .int .u32 5]) (ok := fun _ => True) (okp := fun _ => True) ?hr ?hp (fun _ hk => hk) trivial (Below.refl _ _) (Nat.le_refl _) (by simp) ?_; (case hd => rfl); (case hg => rfl); (case hr => first | (go_simp; done) | (go_simp; rfl)); (case hp => exact (Reps.one (show Kd.M (Kd.int .u32) _ _ _ 3 [.int .u32 3] from rfl) (Reps.one (show Kd.M (Kd.int .u32) _ _ _ 4 [.int .u32 4] from rfl) (Reps.one (show Kd.M (Kd.int .u32) _ _ _ 5 [.int .u32 5] from rfl) (Reps.none _ _))))); intro v66 w104 ho105 hb hg_ hnew_; clear hg_ hnew_; (first | rw [← Ny65.out] at ho105 | (simp only [Int.reduceToNat] at ho105; rw [← Ny65.out] at ho105)); have HO67 := Aside0.mk (Kd.R_lower (Kd.R_new' (Kd.R_new' (Kd.R_new' (Kd.R_new' (Kd.R_new' (Kd.R_new' (Kd.R_new' (Kd.R_new' (Kd.R_new' (Kd.R_new' (Kd.R_new' (Kd.R_new' ho105 (Kd.R_lt (rW HO3))) (Kd.R_lt (rW HO6))) (Kd.R_lt (rW HO11))) (Kd.R_lt (rW HO14))) (Kd.R_lt (rW HO22))) (Kd.R_lt (rW HO25))) (Kd.R_lt (rW HO30))) (Kd.R_lt (rW HO33))) (Kd.R_lt (rW HO47))) (Kd.R_lt (rW HO52))) (Kd.R_lt (rW HO55))) (Kd.R_lt (rW HO63))) (below_size (hbW HB))); replace HO3 := Aside0.mk (Kd.R_elder' (rW HO3) (Kd.R_base ho105) hb); replace HO6 := Aside0.mk (Kd.R_elder' (rW HO6) (Kd.R_base ho105) hb); replace HO11 := Aside0.mk (Kd.R_elder' (rW HO11) (Kd.R_base ho105) hb); replace HO14 := Aside0.mk (Kd.R_elder' (rW HO14) (Kd.R_base ho105) hb); replace HO22 := Aside0.mk (Kd.R_elder' (rW HO22) (Kd.R_base ho105) hb); replace HO25 := Aside0.mk (Kd.R_elder' (rW HO25) (Kd.R_base ho105) hb); replace HO30 := Aside0.mk (Kd.R_elder' (rW HO30) (Kd.R_base ho105) hb); replace HO33 := Aside0.mk (Kd.R_elder' (rW HO33) (Kd.R_base ho105) hb); replace HO44 := Aside0.mk (Kd.N_elder' (by (with_reducible repeat (first | apply Kd.N_alloc | apply Kd.N_drewN | apply Kd.N_drew)); exact HO44.out) (Kd.R_base ho105) hb); replace HO47 := Aside0.mk (Kd.R_elder' (rW HO47) (Kd.R_base ho105) hb); replace HO52 := Aside0.mk (Kd.R_elder' (rW HO52) (Kd.R_base ho105) hb); replace HO55 := Aside0.mk (Kd.R_elder' (rW HO55) (Kd.R_base ho105) hb); replace HO63 := Aside0.mk (Kd.R_elder' (rW HO63) (Kd.R_base ho105) hb); replace BK19 := bkB BK19 hb; replace BK38 := bkB BK38 hb; replace BK60 := bkB BK60 hb; replace HB := hbS HB hb; clear hb ho105; obtain ⟨Ao106, co106, eo106⟩ := Kd.R_slice HO67.out; subst eo106) | (go_at_call 20; (with_reducible refine (q9z.calls k _ _ t31 _ _ y65 false _ ?side1 ?side2 ?side3 ?side4 A6.out).mono ?_); (case side1 => repeat (first | exact (Kd.R_reads' HO33.out).2.2 | (with_reducible refine Kd.C_alloc ?_ _) | (with_reducible refine Kd.C_drewN ?_ _) | (with_reducible refine Kd.C_drew ?_))); (case side2 => exact (Kd.R_reads' HO33.out).2.1); (case side3 => repeat (first | exact (Kd.R_reads' HO67.out).2.2 | (with_reducible refine Kd.C_alloc ?_ _) | (with_reducible refine Kd.C_drewN ?_ _) | (with_reducible refine Kd.C_drew ?_))); (case side4 => exact (Kd.R_reads' HO67.out).2.1); rintro e w' ⟨rfl, ⟨nd, rfl⟩⟩))
   go_ret
   exact ⟨by first | rfl | (simp [errW_none, errW_some] <;> rfl) | (simp [*, errW_none, errW_some] <;> rfl), hbW HB⟩
 ·
  replace c5 := Bool.eq_false_iff.mpr c5
  subst c5
  have H1 : (some false) = some r := by rw [if_neg (show ¬ (false = true) by decide)] at H; exact H
  clear H
  have H := H1
  clear H1
  obtain rfl := Option.some.inj H
  go_wp2_with (first | ((with_reducible refine gate_dst (N := 24) rfl ?_); (try (refine gate_guard (by rfl) ?_; dsimp only)); refine Kd.R_lit (Kd.int .u32) _ 22 ?hg (N := 24) ?hd (xs := ([1, 2, 3] : List Int)) (inner := [.int .u32 1, .int .u32 2, .int .u32 3]) (ok := fun _ => True) (okp := fun _ => True) ?hr ?hp (fun _ hk => hk) trivial (Below.refl _ _) (Nat.le_refl _) (by simp) ?_; (case hd => rfl); (case hg => rfl); (case hr => first | (go_simp; done) | (go_simp; rfl)); (case hp => exact (Reps.one (show Kd.M (Kd.int .u32) _ _ _ 1 [.int .u32 1] from rfl) (Reps.one (show Kd.M (Kd.int .u32) _ _ _ 2 [.int .u32 2] from rfl) (Reps.one (show Kd.M (Kd.int .u32) _ _ _ 3 [.int .u32 3] from rfl) (Reps.none _ _))))); intro v62 w147 ho148 hb hg_ hnew_; clear hg_ hnew_; (first | rw [← Ny61.out] at ho148 | (simp only [Int.reduceToNat] at ho148; rw [← Ny61.out] at ho148)); have HO63 := Aside0.mk (Kd.R_lower (Kd.R_new' (Kd.R_new' (Kd.R_new' (Kd.R_new' (Kd.R_new' (Kd.R_new' (Kd.R_new' (Kd.R_new' (Kd.R_new' (Kd.R_new' (Kd.R_new' ho148 (Kd.R_lt (rW HO3))) (Kd.R_lt (rW HO6))) (Kd.R_lt (rW HO11))) (Kd.R_lt (rW HO14))) (Kd.R_lt (rW HO22))) (Kd.R_lt (rW HO25))) (Kd.R_lt (rW HO30))) (Kd.R_lt (rW HO33))) (Kd.R_lt (rW HO47))) (Kd.R_lt (rW HO52))) (Kd.R_lt (rW HO55))) (below_size (hbW HB))); replace HO3 := Aside0.mk (Kd.R_elder' (rW HO3) (Kd.R_base ho148) hb); replace HO6 := Aside0.mk (Kd.R_elder' (rW HO6) (Kd.R_base ho148) hb); replace HO11 := Aside0.mk (Kd.R_elder' (rW HO11) (Kd.R_base ho148) hb); replace HO14 := Aside0.mk (Kd.R_elder' (rW HO14) (Kd.R_base ho148) hb); replace HO22 := Aside0.mk (Kd.R_elder' (rW HO22) (Kd.R_base ho148) hb); replace HO25 := Aside0.mk (Kd.R_elder' (rW HO25) (Kd.R_base ho148) hb); replace HO30 := Aside0.mk (Kd.R_elder' (rW HO30) (Kd.R_base ho148) hb); replace HO33 := Aside0.mk (Kd.R_elder' (rW HO33) (Kd.R_base ho148) hb); replace HO44 := Aside0.mk (Kd.N_elder' (by (with_reducible repeat (first | apply Kd.N_alloc | apply Kd.N_drewN | apply Kd.N_drew)); exact (Kd.N_mono (Kd.N_far (p := ⟨gb60, 7, none⟩) (Kd.N_far (p := ⟨gb60, 6, none⟩) (Kd.N_far (p := ⟨gb60, 5, none⟩) (Kd.N_far (p := ⟨gb60, 4, none⟩) (Kd.N_far (p := ⟨gb60, 3, none⟩) (Kd.N_far (p := ⟨gb60, 2, none⟩) (Kd.N_far (p := ⟨gb60, 1, none⟩) (Kd.N_far (p := ⟨gb60, 0, none⟩) (Kd.N_mono HO44.out (fun k_ hk => (⟨hk, hk.2⟩ : _ ∧ k_ ≠ gb60))) (fun _ hk => hk.2) (.int .u32 t48)) (fun _ hk => hk.2) (.int .i64 t49)) (fun _ hk => hk.2) (.slice Ao46 t50.length co46)) (fun _ hk => hk.2) (.slice Ao47 t53.length co47)) (fun _ hk => hk.2) (.int .u32 t56)) (fun _ hk => hk.2) (.int .u32 t57)) (fun _ hk => hk.2) (.int .i64 t58)) (fun _ hk => hk.2) (.int .u32 t59)) (fun _ h_ => h_.1))) (Kd.R_base ho148) hb); replace HO47 := Aside0.mk (Kd.R_elder' (rW HO47) (Kd.R_base ho148) hb); replace HO52 := Aside0.mk (Kd.R_elder' (rW HO52) (Kd.R_base ho148) hb); replace HO55 := Aside0.mk (Kd.R_elder' (rW HO55) (Kd.R_base ho148) hb); replace BK19 := bvB BK19 hb; replace BK38 := bvB BK38 hb; replace BK60 := Aside0.mk (blk_below (g := gb60) (o := .cells #[.int .u32 t48, .int .i64 t49, .slice Ao46 t50.length co46, .slice Ao47 t53.length co47, .int .u32 t56, .int .u32 t57, .int .i64 t58, .int .u32 t59] 30 (0, 0)) (bp8 BK60) hb); replace HB := hbS HB hb; clear hb ho148; obtain ⟨Ao149, co149, eo149⟩ := Kd.R_slice HO63.out; subst eo149) | ((with_reducible refine gate_callee (f := 20) rfl ?_); refine goesL_ (some 25) rfl rfl Try.func20 (by kernel_rfl) rfl #[.slice Ao18 t9.length co18, .slice Ao149 y61.length co149] rfl (by (try simp only [List.map_toArray, List.map_cons, List.map_nil]); first | done | rfl | (simp only [List.length_drop, List.length_take]; rfl)) ?_; (with_reducible refine (q9z.calls k _ _ t9 _ _ y61 false _ ?side1 ?side2 ?side3 ?side4 A4.out).mono ?_); (case side1 => repeat (first | exact (Kd.R_reads' HO11.out).2.2 | (with_reducible refine Kd.C_alloc ?_ _) | (with_reducible refine Kd.C_drewN ?_ _) | (with_reducible refine Kd.C_drew ?_))); (case side2 => exact (Kd.R_reads' HO11.out).2.1); (case side3 => repeat (first | exact (Kd.R_reads' HO63.out).2.2 | (with_reducible refine Kd.C_alloc ?_ _) | (with_reducible refine Kd.C_drewN ?_ _) | (with_reducible refine Kd.C_drew ?_))); (case side4 => exact (Kd.R_reads' HO63.out).2.1); rintro e w' ⟨rfl, ⟨nd, rfl⟩⟩; refine ⟨_, rfl, ?_⟩))
  go_ret
  exact ⟨by first | rfl | (simp [errW_none, errW_some] <;> rfl) | (simp [*, errW_none, errW_some] <;> rfl), hbW HB⟩

/-! ### dragomanref05_Size: function 40 -/
mutual
def q14z.l0 : Nat → Int → Int → List (S74) → Int → Int → Option (Int × Int)
 | 0, _, _, _, _, _ => none
 | k + 1, x4, x5, x11, x12, x13 => if x13 < x12 then (if 0 ≤ x13 then (if x13 < (x11.length : Int) then ((q14z.f k ((rd_T74 x11 x13).f0) ((rd_T74 x11 x13).f1) ((rd_T74 x11 x13).f2)).bind fun bt4 => (q14z.l0 k (mn (wrap64 (x4 + bt4.1)) 1000000) (mx x5 bt4.2) x11 x12 (wrap64 (x13 + 1)))) else (none)) else (none)) else (some (x4, wrap64 (x5 + 1)))
def q14z.f : Nat → Int → List (S152) → List (S74) → Option (Int × Int)
 | 0, _, _, _ => none
 | k + 1, a0_0, l0_1, l0_2 => q14z.l0 k 1 0 l0_2 (l0_2.length : Int) 0
end
theorem q14z.mono_l : ∀ k, (∀ y0 y1 y2, LeO (q14z.f k y0 y1 y2) (q14z.f (k + 1) y0 y1 y2)) ∧ (∀ y0 y1 y2 y3 y4, LeO (q14z.l0 k y0 y1 y2 y3 y4) (q14z.l0 (k + 1) y0 y1 y2 y3 y4))
 | 0 => ⟨fun _ _ _ r h => by simp [q14z.f] at h, fun _ _ _ _ _ r h => by simp [q14z.l0] at h⟩
 | k + 1 => by
  obtain ⟨ih0, ih1⟩ := q14z.mono_l k
  refine ⟨?_, ?_⟩
  ·
   intro y0 y1 y2
   unfold q14z.f
   repeat' first
   | (with_reducible exact ih0 _ _ _)
   | (with_reducible exact ih1 _ _ _ _ _)
   | (with_reducible exact LeO.refl _)
   | (with_reducible exact LeO.none _)
   | (with_reducible refine LeO.ite ?_ ?_)
   | (with_reducible refine LeO.bind ?_ (fun _ => ?_))
   | exact ih0 _ _ _
   | exact ih1 _ _ _ _ _
   | exact LeO.none _
   | refine LeO.ite ?_ ?_
   | refine LeO.bind ?_ (fun _ => ?_)
  ·
   intro y0 y1 y2 y3 y4
   unfold q14z.l0
   repeat' first
   | (with_reducible exact ih0 _ _ _)
   | (with_reducible exact ih1 _ _ _ _ _)
   | (with_reducible exact LeO.refl _)
   | (with_reducible exact LeO.none _)
   | (with_reducible refine LeO.ite ?_ ?_)
   | (with_reducible refine LeO.bind ?_ (fun _ => ?_))
   | exact ih0 _ _ _
   | exact ih1 _ _ _ _ _
   | exact LeO.none _
   | refine LeO.ite ?_ ?_
   | refine LeO.bind ?_ (fun _ => ?_)
theorem q14z.mono : ∀ a0 a1 a2 k, LeO (q14z.f k a0 a1 a2) (q14z.f (k + 1) a0 a1 a2) := by
 intro a0 a1 a2 k
 obtain ⟨ih0, ih1⟩ := q14z.mono_l k
 exact ih0 a0 a1 a2
set_option maxHeartbeats 8000000 in
set_option maxRecDepth 100000 in
theorem q14z.calls (k : Nat) : ∀ (a0_0 : Int) (A0_1 : Option Addr) (c0_1 : Nat) (l0_1 : List (S152)) (A0_2 : Option Addr) (c0_2 : Nat) (l0_2 : List (S74)) (r1 : Int) (r2 : Int) (w : World) (hr0_1 : Kd.C k152 w A0_1 l0_1.length l0_1) (hc0_1 : l0_1.length ≤ c0_1) (hr0_2 : Kd.C k74 w A0_2 l0_2.length l0_2) (hc0_2 : l0_2.length ≤ c0_2) (h : q14z.f k a0_0 l0_1 l0_2 = some (r1, r2)),
  Calls Try.prog 40 #[.agg #[.int .i64 a0_0, .slice A0_1 l0_1.length c0_1, .slice A0_2 l0_2.length c0_2]] w fun e w' => e = .returned (.tuple #[.int .i64 r1, .int .i64 r2]) ∧ Below w.heap.size w w' := by
 induction k using Nat.strongRecOn with
 | _ k ih =>
 intro a0_0 A0_1 c0_1 l0_1 A0_2 c0_2 l0_2 r1 r2 w hr0_1 hc0_1 hr0_2 hc0_2 h
 cases k with
 | zero => exact absurd h (by simp [q14z.f])
 | succ k =>
 simp only [q14z.f] at h
 have hu74 := Try.underlying74
 have HR0_1 := Aside0.mk hr0_1
 have HC0_1 := Aside0.mk hc0_1
 clear hr0_1 hc0_1
 have HR0_2 := Aside0.mk hr0_2
 have HC0_2 := Aside0.mk hc0_2
 clear hr0_2 hc0_2
 have HB := Aside0.mk (Below.refl w.heap.size w)
 have H : (q14z.l0 k 1 0 l0_2 (l0_2.length : Int) 0) = some (r1, r2) := h
 clear h
 have H' := Aside0.mk H
 clear H
 go_enter Try.func40, Try.ntmps40
 go_wp2_with (first | ((with_reducible refine gate_dst (N := 1) rfl ?_); refine box_event ?hg (N := 1) ?hd (cs := #[.int .i64 a0_0, .slice A0_1 l0_1.length c0_1, .slice A0_2 l0_2.length c0_2]) (t := 74) ?hr ?_; (case hd => rfl); (case hg => rfl); (case hr => first | (go_simp; done) | (go_simp; rfl)); intro gb1 hg w2 hbox hb; have BK1 := Aside0.mk (hbox); have GW1 := gwS hg HB; have GE1 := gwS hg HB; replace HB := hbS HB hb; clear hb hbox hg; obtain ⟨hcz3_0, hcz3_1, hcz3_2, hfz3_0, hfz3_1, hfz3_2⟩ := bc3 BK1))
 go_loopg [4, 5, 13] k (fun kq v4 v5 v13 w' => ∃ (x4_1 : Int) (x5_1 : Int) (x13_1 : Int), v4 = .int .i64 x4_1 ∧ v5 = .int .i64 x5_1 ∧ v13 = .int .i64 x13_1 ∧ Aside0 (q14z.l0 kq x4_1 x5_1 l0_2 (l0_2.length : Int) x13_1 = some (r1, r2)) ∧ Aside0 (kq ≤ k) ∧ Aside0 (w'.heap[gb1]? = some (.cells #[.int .i64 a0_0, (.slice A0_1 l0_1.length c0_1), (.slice A0_2 l0_2.length c0_2)] 74 (0, 0))) ∧ Aside0 (Below w.heap.size w w'))
 case atStart => exact ⟨(1), (0), (0), (by first | rfl | (simp; done) | (simp [*]; done)), (by first | rfl | (simp; done) | (simp [*]; done)), (by first | rfl | (simp; done) | (simp [*]; done)), H', ⟨Nat.le_refl _⟩, ⟨by (with_reducible repeat (first | refine blk_drewN ?_ _ | refine blk_drew ?_ | refine blk_alloc ?_ _)); exact BK1.out⟩, ⟨hbW HB⟩⟩
 case round =>
  clear H'
  try clear p2
  try clear hcz3_0 hcz3_1 hcz3_2
  try clear hfz3_0 hfz3_1 hfz3_2
  obtain ⟨x4_1, x5_1, x13_1, rfl, rfl, rfl, HA, HK1, BK1, HB⟩ := hrel
  cases gk with
  | zero => exact absurd HA.out (by simp [q14z.l0])
  | succ k1 =>
   have H := HA.out
   clear HA
   simp only [q14z.l0] at H
   by_cases c4 : x13_1 < (l0_2.length : Int)
   ·
    rw [if_pos c4] at H
    have c4b0 : decide (x13_1 < (l0_2.length : Int)) = true := decide_eq_true c4
    clear c4
    by_cases c5 : 0 ≤ x13_1
    ·
     rw [if_pos c5] at H
     have c5b0 : decide (0 ≤ x13_1) = true := decide_eq_true c5
     clear c5
     by_cases c6 : x13_1 < (l0_2.length : Int)
     ·
      rw [if_pos c6] at H
      have c6b0 : decide (x13_1 < (l0_2.length : Int)) = true := decide_eq_true c6
      clear c6
      replace H := Option.bind_eq_some_iff.mp H
      obtain ⟨⟨t4, t5⟩, A70, H⟩ := H
      replace H : (q14z.l0 k1 (mn (wrap64 (x4_1 + t4)) 1000000) (mx x5_1 t5) l0_2 (l0_2.length : Int) (wrap64 (x13_1 + 1))) = some (r1, r2) := H
      have A7 := Aside0.mk A70
      clear A70
      obtain ⟨ji8, hji8⟩ : ∃ j_ : Int, (mn (wrap64 (x4_1 + t4)) 1000000) = j_ := ⟨_, rfl⟩
      replace H : (q14z.l0 k1 ji8 (mx x5_1 t5) l0_2 (l0_2.length : Int) (wrap64 (x13_1 + 1))) = some (r1, r2) := by first | (rw [hji8] at H; exact H) | (simp only [hji8] at H ⊢; exact H)
      (try rw [hji8] at A7)
      have hji8_ : (if 1000000 < (wrap64 (x4_1 + t4)) then 1000000 else (wrap64 (x4_1 + t4))) = ji8 := hji8
      obtain ⟨ji9, hji9⟩ : ∃ j_ : Int, (mx x5_1 t5) = j_ := ⟨_, rfl⟩
      replace H : (q14z.l0 k1 ji8 ji9 l0_2 (l0_2.length : Int) (wrap64 (x13_1 + 1))) = some (r1, r2) := by first | (rw [hji9] at H; exact H) | (simp only [hji9] at H ⊢; exact H)
      (try rw [hji9] at A7)
      have hji9_ : (if x5_1 < t5 then t5 else x5_1) = ji9 := hji9
      have H' := Aside0.mk H
      clear H
      have p2 : 0 ≤ (x13_1 : Int) := of_decide_eq_true (by first | (with_reducible assumption) | assumption)
      have q2 : x13_1 < (l0_2.length : Int) := of_decide_eq_true (by first | (with_reducible assumption) | assumption)
      obtain ⟨ad2, A2_1, c2_1, A2_2, c2_2, e2, hx2_0, hx2_1, hx2_2, hl2_1, hi2_1, hl2_2, hi2_2⟩ := at_T74 HR0_2.out x13_1 p2 q2
      cases e2
      replace hx2_0 := (HB.out.cell (World.block_lt_of_cell? w _ hx2_0)).trans hx2_0
      replace hx2_1 := (HB.out.cell (World.block_lt_of_cell? w _ hx2_1)).trans hx2_1
      replace hx2_2 := (HB.out.cell (World.block_lt_of_cell? w _ hx2_2)).trans hx2_2
      have HR2_1 := Aside0.mk hi2_1
      have HC2_1 := Aside0.mk hl2_1
      clear hi2_1 hl2_1
      have HR2_2 := Aside0.mk hi2_2
      have HC2_2 := Aside0.mk hl2_2
      clear hi2_2 hl2_2
      replace p2 := eq_true p2
      replace q2 := eq_true q2
      go_wp2_with (first | ((with_reducible refine gate_dst (N := 7) rfl ?_); refine box_event ?hg (N := 7) ?hd (cs := #[.int .i64 0, .slice none 0 0, .slice none 0 0]) (t := 74) ?hr ?_; (case hd => rfl); (case hg => rfl); (case hr => first | (go_simp; done) | (go_simp; rfl)); intro gb3 hg w10 hbox hb; have BK3 := Aside0.mk (hbox); have GW3 := gwS hg HB; have GE3 := gwS hg HB; have NB1_3 := nbL hg BK1; have NB3_1 := nbG hg BK1; replace BK1 := bkB BK1 hb; replace HB := hbS HB hb; clear hb hbox hg; have hnb11 := NB3_1.out; have hnc11 := NB1_3.out; obtain ⟨hcz12_0, hcz12_1, hcz12_2, hfz12_0, hfz12_1, hfz12_2⟩ := bc3 BK3) | ((with_reducible refine gate_callee (f := 40) rfl ?_); refine goesL_ (some 19) rfl rfl Try.func40 (by kernel_rfl) rfl #[.agg #[.int .i64 ((rd_T74 l0_2 x13_1).f0), .slice A2_1 ((rd_T74 l0_2 x13_1).f1).length c2_1, .slice A2_2 ((rd_T74 l0_2 x13_1).f2).length c2_2]] rfl (by (try simp only [List.map_toArray, List.map_cons, List.map_nil]); first | done | rfl | (simp only [List.length_drop, List.length_take]; rfl)) ?_; (with_reducible refine (ih k1 (by have := HK1.out; omega) ((rd_T74 l0_2 x13_1).f0) _ _ ((rd_T74 l0_2 x13_1).f1) _ _ ((rd_T74 l0_2 x13_1).f2) t4 t5 _ ?side1 ?side2 ?side3 ?side4 A7.out).mono ?_); (case side1 => exact Kd.C_below HR2_1.out (hbW HB)); (case side2 => exact HC2_1.out); (case side3 => exact Kd.C_below HR2_2.out (hbW HB)); (case side4 => exact HC2_2.out); rintro e w13 ⟨rfl, hb⟩; refine ⟨_, rfl, ?_⟩; replace BK1 := bvB BK1 hb; replace BK3 := Aside0.mk (blk_below (g := gb3) (o := .cells #[.int .i64 ((rd_T74 l0_2 x13_1).f0), .slice A2_1 ((rd_T74 l0_2 x13_1).f1).length c2_1, .slice A2_2 ((rd_T74 l0_2 x13_1).f2).length c2_2] 74 (0, 0)) (bp3 BK3) hb); replace HB := hbS HB hb; (try clear hb)))
      go_roundg k1
      case measure => have := HK1.out; omega
      case rel => exact ⟨(ji8), (ji9), (wrap64 (x13_1 + 1)), (by first | rfl | (simp; done) | (simp only [← hji8] <;> (first | rfl | simp)) | (simp [*]; done)), (by first | rfl | (simp; done) | (simp only [← hji9] <;> (first | rfl | simp)) | (simp [*]; done)), (by first | rfl | (simp; done) | (simp [*]; done)), H', ⟨by have := HK1.out; omega⟩, ⟨by (with_reducible repeat (first | refine blk_drewN ?_ _ | refine blk_drew ?_ | refine blk_alloc ?_ _)); exact BK1.out⟩, ⟨hbW HB⟩⟩
     ·
      rw [if_neg c6] at H
      exact absurd H (by simp)
    ·
     rw [if_neg c5] at H
     exact absurd H (by simp)
   ·
    rw [if_neg c4] at H
    have c4b0 : decide (x13_1 < (l0_2.length : Int)) = false := decide_eq_false c4
    clear c4
    simp only [Option.some.injEq, Prod.mk.injEq] at H
    obtain ⟨rfl, rfl⟩ := H
    go_wp2
    go_ret2
    exact ⟨by first | rfl | (simp [errW_none, errW_some] <;> rfl) | (simp [*, errW_none, errW_some] <;> rfl), hbW HB⟩

/-! ### dragomanref11_Great: function 24 -/
mutual
def q15z.l0 : Nat → Int → List (S76) → Int → Int → Int → List (S92) → List (S76) → List (S53) → Int → Int → Option (Bool)
 | 0, _, _, _, _, _, _, _, _, _, _ => none
 | k + 1, x3, x11, x12, x13, x2000, x2001, x2002, x2003, x2004, x2005 => if x13 < x12 then (if 0 ≤ x13 then (if x13 < (x11.length : Int) then ((q14z.f k ((rd_T76 x11 x13).f1.f0) ((rd_T76 x11 x13).f1.f1) ((rd_T76 x11 x13).f1.f2)).bind fun bt4 => (if x13 > 100 then (some true) else (if (wrap64 (x3 + bt4.1)) > 3000 then (some true) else (q15z.l0 k (wrap64 (x3 + bt4.1)) x11 x12 (wrap64 (x13 + 1)) x2000 x2001 x2002 x2003 x2004 x2005)))) else (none)) else (none)) else (q15z.l1 k 0 x2003 (x2003.length : Int) 0 x2000 x2001 x2002 x2003 x2004 x2005)
def q15z.l1 : Nat → Int → List (S53) → Int → Int → Int → List (S92) → List (S76) → List (S53) → Int → Int → Option (Bool)
 | 0, _, _, _, _, _, _, _, _, _, _ => none
 | k + 1, x3, x35, x36, x37, x2000, x2001, x2002, x2003, x2004, x2005 => if x37 < x36 then (if 0 ≤ x37 then (if x37 < (x35.length : Int) then (if x37 > 100 then (some true) else (if (wrap64 (x3 + (mn (((rd_T53 x35 x37).f1).length : Int) 10000))) > 3000 then (some true) else (q15z.l1 k (wrap64 (x3 + (mn (((rd_T53 x35 x37).f1).length : Int) 10000))) x35 x36 (wrap64 (x37 + 1)) x2000 x2001 x2002 x2003 x2004 x2005))) else (none)) else (none)) else (some (decide ((x2001.length : Int) > 3000)))
end
def q15z.f (k : Nat) (a0_0 : Int) (l0_1 : List (S92)) (l0_2 : List (S76)) (l0_3 : List (S53)) (a0_4 : Int) (a0_5 : Int) : Option (Bool) := q15z.l0 k 0 l0_2 (l0_2.length : Int) 0 a0_0 l0_1 l0_2 l0_3 a0_4 a0_5
theorem q15z.mono_l : ∀ k, (∀ y0 y1 y2 y3 y4 y5 y6 y7 y8 y9, LeO (q15z.l0 k y0 y1 y2 y3 y4 y5 y6 y7 y8 y9) (q15z.l0 (k + 1) y0 y1 y2 y3 y4 y5 y6 y7 y8 y9)) ∧ (∀ y0 y1 y2 y3 y4 y5 y6 y7 y8 y9, LeO (q15z.l1 k y0 y1 y2 y3 y4 y5 y6 y7 y8 y9) (q15z.l1 (k + 1) y0 y1 y2 y3 y4 y5 y6 y7 y8 y9))
 | 0 => ⟨fun _ _ _ _ _ _ _ _ _ _ r h => by simp [q15z.l0] at h, fun _ _ _ _ _ _ _ _ _ _ r h => by simp [q15z.l1] at h⟩
 | k + 1 => by
  obtain ⟨ih0, ih1⟩ := q15z.mono_l k
  refine ⟨?_, ?_⟩
  ·
   intro y0 y1 y2 y3 y4 y5 y6 y7 y8 y9
   unfold q15z.l0
   repeat' first
   | (with_reducible exact ih0 _ _ _ _ _ _ _ _ _ _)
   | (with_reducible exact ih1 _ _ _ _ _ _ _ _ _ _)
   | (with_reducible exact q14z.mono _ _ _ _)
   | (with_reducible exact LeO.refl _)
   | (with_reducible exact LeO.none _)
   | (with_reducible refine LeO.ite ?_ ?_)
   | (with_reducible refine LeO.bind ?_ (fun _ => ?_))
   | exact ih0 _ _ _ _ _ _ _ _ _ _
   | exact ih1 _ _ _ _ _ _ _ _ _ _
   | exact q14z.mono _ _ _ _
   | exact LeO.none _
   | refine LeO.ite ?_ ?_
   | refine LeO.bind ?_ (fun _ => ?_)
  ·
   intro y0 y1 y2 y3 y4 y5 y6 y7 y8 y9
   unfold q15z.l1
   repeat' first
   | (with_reducible exact ih0 _ _ _ _ _ _ _ _ _ _)
   | (with_reducible exact ih1 _ _ _ _ _ _ _ _ _ _)
   | (with_reducible exact q14z.mono _ _ _ _)
   | (with_reducible exact LeO.refl _)
   | (with_reducible exact LeO.none _)
   | (with_reducible refine LeO.ite ?_ ?_)
   | (with_reducible refine LeO.bind ?_ (fun _ => ?_))
   | exact ih0 _ _ _ _ _ _ _ _ _ _
   | exact ih1 _ _ _ _ _ _ _ _ _ _
   | exact q14z.mono _ _ _ _
   | exact LeO.none _
   | refine LeO.ite ?_ ?_
   | refine LeO.bind ?_ (fun _ => ?_)
theorem q15z.mono : ∀ a0 a1 a2 a3 a4 a5 k, LeO (q15z.f k a0 a1 a2 a3 a4 a5) (q15z.f (k + 1) a0 a1 a2 a3 a4 a5) := by
 intro a0 a1 a2 a3 a4 a5 k
 obtain ⟨ih0, ih1⟩ := q15z.mono_l k
 unfold q15z.f
 repeat' first
   | (with_reducible exact ih0 _ _ _ _ _ _ _ _ _ _)
   | (with_reducible exact ih1 _ _ _ _ _ _ _ _ _ _)
   | (with_reducible exact q14z.mono _ _ _ _)
   | (with_reducible exact LeO.refl _)
   | (with_reducible exact LeO.none _)
   | (with_reducible refine LeO.ite ?_ ?_)
   | (with_reducible refine LeO.bind ?_ (fun _ => ?_))
   | exact ih0 _ _ _ _ _ _ _ _ _ _
   | exact ih1 _ _ _ _ _ _ _ _ _ _
   | exact q14z.mono _ _ _ _
   | exact LeO.none _
   | refine LeO.ite ?_ ?_
   | refine LeO.bind ?_ (fun _ => ?_)
set_option maxHeartbeats 8000000 in
set_option maxRecDepth 100000 in
theorem q15z.calls (k : Nat) (a0_0 : Int) (A0_1 : Option Addr) (c0_1 : Nat) (l0_1 : List (S92)) (A0_2 : Option Addr) (c0_2 : Nat) (l0_2 : List (S76)) (A0_3 : Option Addr) (c0_3 : Nat) (l0_3 : List (S53)) (a0_4 : Int) (a0_5 : Int) (r : Bool) (w : World) (hr0_1 : Kd.C k92 w A0_1 l0_1.length l0_1) (hc0_1 : l0_1.length ≤ c0_1) (hr0_2 : Kd.C k76 w A0_2 l0_2.length l0_2) (hc0_2 : l0_2.length ≤ c0_2) (hr0_3 : Kd.C k53 w A0_3 l0_3.length l0_3) (hc0_3 : l0_3.length ≤ c0_3) (h : q15z.f k a0_0 l0_1 l0_2 l0_3 a0_4 a0_5 = some r) :
  Calls Try.prog 24 #[.agg #[.int .i64 a0_0, .slice A0_1 l0_1.length c0_1, .slice A0_2 l0_2.length c0_2, .slice A0_3 l0_3.length c0_3, .int .u32 a0_4, .int .u32 a0_5]] w fun e w' => e = .returned (.bool r) ∧ Below w.heap.size w w' := by
 have hu58 := Try.underlying58
 have hu76 := Try.underlying76
 have hu74 := Try.underlying74
 have hu53 := Try.underlying53
 have HR0_1 := Aside0.mk hr0_1
 have HC0_1 := Aside0.mk hc0_1
 clear hr0_1 hc0_1
 have HR0_2 := Aside0.mk hr0_2
 have HC0_2 := Aside0.mk hc0_2
 clear hr0_2 hc0_2
 have HR0_3 := Aside0.mk hr0_3
 have HC0_3 := Aside0.mk hc0_3
 clear hr0_3 hc0_3
 have HB := Aside0.mk (Below.refl w.heap.size w)
 have H : (q15z.l0 k 0 l0_2 (l0_2.length : Int) 0 a0_0 l0_1 l0_2 l0_3 a0_4 a0_5) = some r := h
 clear h
 have H' := Aside0.mk H
 clear H
 go_enter Try.func24, Try.ntmps24
 go_wp2_with (first | ((with_reducible refine gate_dst (N := 1) rfl ?_); refine box_event ?hg (N := 1) ?hd (cs := #[.int .i64 a0_0, .slice A0_1 l0_1.length c0_1, .slice A0_2 l0_2.length c0_2, .slice A0_3 l0_3.length c0_3, .int .u32 a0_4, .int .u32 a0_5]) (t := 58) ?hr ?_; (case hd => rfl); (case hg => rfl); (case hr => first | (go_simp; done) | (go_simp; rfl)); intro gb1 hg w2 hbox hb; have BK1 := Aside0.mk (hbox); have GW1 := gwS hg HB; have GE1 := gwS hg HB; replace HB := hbS HB hb; clear hb hbox hg; obtain ⟨hcz3_0, hcz3_1, hcz3_2, hcz3_3, hcz3_4, hcz3_5, hfz3_0, hfz3_1, hfz3_2, hfz3_3, hfz3_4, hfz3_5⟩ := bc6 BK1))
 go_loopg [3, 13] k (fun kq v3 v13 w' => ∃ (x3_1 : Int) (x13_1 : Int), v3 = .int .i64 x3_1 ∧ v13 = .int .i64 x13_1 ∧ Aside0 (q15z.l0 kq x3_1 l0_2 (l0_2.length : Int) x13_1 a0_0 l0_1 l0_2 l0_3 a0_4 a0_5 = some r) ∧ Aside0 (kq ≤ k) ∧ Aside0 (w'.heap[gb1]? = some (.cells #[.int .i64 a0_0, (.slice A0_1 l0_1.length c0_1), (.slice A0_2 l0_2.length c0_2), (.slice A0_3 l0_3.length c0_3), .int .u32 a0_4, .int .u32 a0_5] 58 (0, 0))) ∧ Aside0 (Below w.heap.size w w'))
 case atStart => exact ⟨(0), (0), (by first | rfl | (simp; done) | (simp [*]; done)), (by first | rfl | (simp; done) | (simp [*]; done)), H', ⟨Nat.le_refl _⟩, ⟨by (with_reducible repeat (first | refine blk_drewN ?_ _ | refine blk_drew ?_ | refine blk_alloc ?_ _)); exact BK1.out⟩, ⟨hbW HB⟩⟩
 case round =>
  clear H'
  try clear c2
  try clear p2
  try clear hcz3_0 hcz3_1 hcz3_2 hcz3_3 hcz3_4 hcz3_5
  try clear hfz3_0 hfz3_1 hfz3_2 hfz3_3 hfz3_4 hfz3_5
  obtain ⟨x3_1, x13_1, rfl, rfl, HA, HK1, BK1, HB⟩ := hrel
  cases gk with
  | zero => exact absurd HA.out (by simp [q15z.l0])
  | succ k1 =>
   have H := HA.out
   clear HA
   simp only [q15z.l0] at H
   by_cases c4 : x13_1 < (l0_2.length : Int)
   ·
    rw [if_pos c4] at H
    have c4b0 : decide (x13_1 < (l0_2.length : Int)) = true := decide_eq_true c4
    clear c4
    by_cases c5 : 0 ≤ x13_1
    ·
     rw [if_pos c5] at H
     have c5b0 : decide (0 ≤ x13_1) = true := decide_eq_true c5
     clear c5
     by_cases c6 : x13_1 < (l0_2.length : Int)
     ·
      rw [if_pos c6] at H
      have c6b0 : decide (x13_1 < (l0_2.length : Int)) = true := decide_eq_true c6
      clear c6
      replace H := Option.bind_eq_some_iff.mp H
      obtain ⟨⟨t4, t5⟩, A70, H⟩ := H
      replace H : (if x13_1 > 100 then (some true) else (if (wrap64 (x3_1 + t4)) > 3000 then (some true) else (q15z.l0 k1 (wrap64 (x3_1 + t4)) l0_2 (l0_2.length : Int) (wrap64 (x13_1 + 1)) a0_0 l0_1 l0_2 l0_3 a0_4 a0_5))) = some r := H
      have A7 := Aside0.mk A70
      clear A70
      by_cases c8 : x13_1 > 100
      ·
       rw [if_pos c8] at H
       have c8b0 : decide (100 < x13_1) = true := decide_eq_true c8
       clear c8
       obtain rfl := Option.some.inj H
       have p2 : 0 ≤ (x13_1 : Int) := of_decide_eq_true (by first | (with_reducible assumption) | assumption)
       have q2 : x13_1 < (l0_2.length : Int) := of_decide_eq_true (by first | (with_reducible assumption) | assumption)
       obtain ⟨ad2, A2_2, c2_2, A2_3, c2_3, e2, hx2_0, hx2_1, hx2_2, hx2_3, hl2_2, hi2_2, hl2_3, hi2_3⟩ := at_T76 HR0_2.out x13_1 p2 q2
       cases e2
       replace hx2_0 := (HB.out.cell (World.block_lt_of_cell? w _ hx2_0)).trans hx2_0
       replace hx2_1 := (HB.out.cell (World.block_lt_of_cell? w _ hx2_1)).trans hx2_1
       replace hx2_2 := (HB.out.cell (World.block_lt_of_cell? w _ hx2_2)).trans hx2_2
       replace hx2_3 := (HB.out.cell (World.block_lt_of_cell? w _ hx2_3)).trans hx2_3
       have HR2_2 := Aside0.mk hi2_2
       have HC2_2 := Aside0.mk hl2_2
       clear hi2_2 hl2_2
       have HR2_3 := Aside0.mk hi2_3
       have HC2_3 := Aside0.mk hl2_3
       clear hi2_3 hl2_3
       replace p2 := eq_true p2
       replace q2 := eq_true q2
       go_wp2_with (first | ((with_reducible refine gate_dst (N := 5) rfl ?_); refine box_event ?hg (N := 5) ?hd (cs := #[.bool false, .int .i64 0, .slice none 0 0, .slice none 0 0]) (t := 76) ?hr ?_; (case hd => rfl); (case hg => rfl); (case hr => first | (go_simp; done) | (go_simp; rfl)); intro gb3 hg w9 hbox hb; have BK3 := Aside0.mk (hbox); have GW3 := gwS hg HB; have GE3 := gwS hg HB; have NB1_3 := nbL hg BK1; have NB3_1 := nbG hg BK1; replace BK1 := bkB BK1 hb; replace HB := hbS HB hb; clear hb hbox hg; have hnb10 := NB3_1.out; have hnc10 := NB1_3.out; obtain ⟨hcz11_0, hcz11_1, hcz11_2, hcz11_3, hfz11_0, hfz11_1, hfz11_2, hfz11_3⟩ := bc4 BK3) | ((with_reducible refine gate_callee (f := 40) rfl ?_); refine goesL_ (some 21) rfl rfl Try.func40 (by kernel_rfl) rfl #[.agg #[.int .i64 ((rd_T76 l0_2 x13_1).f1.f0), .slice A2_2 ((rd_T76 l0_2 x13_1).f1.f1).length c2_2, .slice A2_3 ((rd_T76 l0_2 x13_1).f1.f2).length c2_3]] rfl (by (try simp only [List.map_toArray, List.map_cons, List.map_nil]); first | done | rfl | (simp only [List.length_drop, List.length_take]; rfl)) ?_; (with_reducible refine (q14z.calls k1 ((rd_T76 l0_2 x13_1).f1.f0) _ _ ((rd_T76 l0_2 x13_1).f1.f1) _ _ ((rd_T76 l0_2 x13_1).f1.f2) t4 t5 _ ?side1 ?side2 ?side3 ?side4 A7.out).mono ?_); (case side1 => exact Kd.C_below HR2_2.out (hbW HB)); (case side2 => exact HC2_2.out); (case side3 => exact Kd.C_below HR2_3.out (hbW HB)); (case side4 => exact HC2_3.out); rintro e w12 ⟨rfl, hb⟩; refine ⟨_, rfl, ?_⟩; replace BK1 := bvB BK1 hb; replace BK3 := Aside0.mk (blk_below (g := gb3) (o := .cells #[.bool ((rd_T76 l0_2 x13_1).f0), .int .i64 ((rd_T76 l0_2 x13_1).f1.f0), .slice A2_2 ((rd_T76 l0_2 x13_1).f1.f1).length c2_2, .slice A2_3 ((rd_T76 l0_2 x13_1).f1.f2).length c2_3] 76 (0, 0)) (bp4 BK3) hb); replace HB := hbS HB hb; (try clear hb)))
       go_ret
       exact ⟨by first | rfl | (simp [errW_none, errW_some] <;> rfl) | (simp [*, errW_none, errW_some] <;> rfl), hbW HB⟩
      ·
       rw [if_neg c8] at H
       have c8b0 : decide (100 < x13_1) = false := decide_eq_false c8
       clear c8
       by_cases c13 : (wrap64 (x3_1 + t4)) > 3000
       ·
        rw [if_pos c13] at H
        have c13b0 : decide (3000 < (wrap64 (x3_1 + t4))) = true := decide_eq_true c13
        clear c13
        obtain rfl := Option.some.inj H
        have p2 : 0 ≤ (x13_1 : Int) := of_decide_eq_true (by first | (with_reducible assumption) | assumption)
        have q2 : x13_1 < (l0_2.length : Int) := of_decide_eq_true (by first | (with_reducible assumption) | assumption)
        obtain ⟨ad2, A2_2, c2_2, A2_3, c2_3, e2, hx2_0, hx2_1, hx2_2, hx2_3, hl2_2, hi2_2, hl2_3, hi2_3⟩ := at_T76 HR0_2.out x13_1 p2 q2
        cases e2
        replace hx2_0 := (HB.out.cell (World.block_lt_of_cell? w _ hx2_0)).trans hx2_0
        replace hx2_1 := (HB.out.cell (World.block_lt_of_cell? w _ hx2_1)).trans hx2_1
        replace hx2_2 := (HB.out.cell (World.block_lt_of_cell? w _ hx2_2)).trans hx2_2
        replace hx2_3 := (HB.out.cell (World.block_lt_of_cell? w _ hx2_3)).trans hx2_3
        have HR2_2 := Aside0.mk hi2_2
        have HC2_2 := Aside0.mk hl2_2
        clear hi2_2 hl2_2
        have HR2_3 := Aside0.mk hi2_3
        have HC2_3 := Aside0.mk hl2_3
        clear hi2_3 hl2_3
        replace p2 := eq_true p2
        replace q2 := eq_true q2
        go_wp2_with (first | ((with_reducible refine gate_dst (N := 5) rfl ?_); refine box_event ?hg (N := 5) ?hd (cs := #[.bool false, .int .i64 0, .slice none 0 0, .slice none 0 0]) (t := 76) ?hr ?_; (case hd => rfl); (case hg => rfl); (case hr => first | (go_simp; done) | (go_simp; rfl)); intro gb3 hg w14 hbox hb; have BK3 := Aside0.mk (hbox); have GW3 := gwS hg HB; have GE3 := gwS hg HB; have NB1_3 := nbL hg BK1; have NB3_1 := nbG hg BK1; replace BK1 := bkB BK1 hb; replace HB := hbS HB hb; clear hb hbox hg; have hnb15 := NB3_1.out; have hnc15 := NB1_3.out; obtain ⟨hcz16_0, hcz16_1, hcz16_2, hcz16_3, hfz16_0, hfz16_1, hfz16_2, hfz16_3⟩ := bc4 BK3) | ((with_reducible refine gate_callee (f := 40) rfl ?_); refine goesL_ (some 21) rfl rfl Try.func40 (by kernel_rfl) rfl #[.agg #[.int .i64 ((rd_T76 l0_2 x13_1).f1.f0), .slice A2_2 ((rd_T76 l0_2 x13_1).f1.f1).length c2_2, .slice A2_3 ((rd_T76 l0_2 x13_1).f1.f2).length c2_3]] rfl (by (try simp only [List.map_toArray, List.map_cons, List.map_nil]); first | done | rfl | (simp only [List.length_drop, List.length_take]; rfl)) ?_; (with_reducible refine (q14z.calls k1 ((rd_T76 l0_2 x13_1).f1.f0) _ _ ((rd_T76 l0_2 x13_1).f1.f1) _ _ ((rd_T76 l0_2 x13_1).f1.f2) t4 t5 _ ?side1 ?side2 ?side3 ?side4 A7.out).mono ?_); (case side1 => exact Kd.C_below HR2_2.out (hbW HB)); (case side2 => exact HC2_2.out); (case side3 => exact Kd.C_below HR2_3.out (hbW HB)); (case side4 => exact HC2_3.out); rintro e w17 ⟨rfl, hb⟩; refine ⟨_, rfl, ?_⟩; replace BK1 := bvB BK1 hb; replace BK3 := Aside0.mk (blk_below (g := gb3) (o := .cells #[.bool ((rd_T76 l0_2 x13_1).f0), .int .i64 ((rd_T76 l0_2 x13_1).f1.f0), .slice A2_2 ((rd_T76 l0_2 x13_1).f1.f1).length c2_2, .slice A2_3 ((rd_T76 l0_2 x13_1).f1.f2).length c2_3] 76 (0, 0)) (bp4 BK3) hb); replace HB := hbS HB hb; (try clear hb)))
        go_ret
        exact ⟨by first | rfl | (simp [errW_none, errW_some] <;> rfl) | (simp [*, errW_none, errW_some] <;> rfl), hbW HB⟩
       ·
        rw [if_neg c13] at H
        have c13b0 : decide (3000 < (wrap64 (x3_1 + t4))) = false := decide_eq_false c13
        clear c13
        have H' := Aside0.mk H
        clear H
        have p2 : 0 ≤ (x13_1 : Int) := of_decide_eq_true (by first | (with_reducible assumption) | assumption)
        have q2 : x13_1 < (l0_2.length : Int) := of_decide_eq_true (by first | (with_reducible assumption) | assumption)
        obtain ⟨ad2, A2_2, c2_2, A2_3, c2_3, e2, hx2_0, hx2_1, hx2_2, hx2_3, hl2_2, hi2_2, hl2_3, hi2_3⟩ := at_T76 HR0_2.out x13_1 p2 q2
        cases e2
        replace hx2_0 := (HB.out.cell (World.block_lt_of_cell? w _ hx2_0)).trans hx2_0
        replace hx2_1 := (HB.out.cell (World.block_lt_of_cell? w _ hx2_1)).trans hx2_1
        replace hx2_2 := (HB.out.cell (World.block_lt_of_cell? w _ hx2_2)).trans hx2_2
        replace hx2_3 := (HB.out.cell (World.block_lt_of_cell? w _ hx2_3)).trans hx2_3
        have HR2_2 := Aside0.mk hi2_2
        have HC2_2 := Aside0.mk hl2_2
        clear hi2_2 hl2_2
        have HR2_3 := Aside0.mk hi2_3
        have HC2_3 := Aside0.mk hl2_3
        clear hi2_3 hl2_3
        replace p2 := eq_true p2
        replace q2 := eq_true q2
        go_wp2_with (first | ((with_reducible refine gate_dst (N := 5) rfl ?_); refine box_event ?hg (N := 5) ?hd (cs := #[.bool false, .int .i64 0, .slice none 0 0, .slice none 0 0]) (t := 76) ?hr ?_; (case hd => rfl); (case hg => rfl); (case hr => first | (go_simp; done) | (go_simp; rfl)); intro gb3 hg w18 hbox hb; have BK3 := Aside0.mk (hbox); have GW3 := gwS hg HB; have GE3 := gwS hg HB; have NB1_3 := nbL hg BK1; have NB3_1 := nbG hg BK1; replace BK1 := bkB BK1 hb; replace HB := hbS HB hb; clear hb hbox hg; have hnb19 := NB3_1.out; have hnc19 := NB1_3.out; obtain ⟨hcz20_0, hcz20_1, hcz20_2, hcz20_3, hfz20_0, hfz20_1, hfz20_2, hfz20_3⟩ := bc4 BK3) | ((with_reducible refine gate_callee (f := 40) rfl ?_); refine goesL_ (some 21) rfl rfl Try.func40 (by kernel_rfl) rfl #[.agg #[.int .i64 ((rd_T76 l0_2 x13_1).f1.f0), .slice A2_2 ((rd_T76 l0_2 x13_1).f1.f1).length c2_2, .slice A2_3 ((rd_T76 l0_2 x13_1).f1.f2).length c2_3]] rfl (by (try simp only [List.map_toArray, List.map_cons, List.map_nil]); first | done | rfl | (simp only [List.length_drop, List.length_take]; rfl)) ?_; (with_reducible refine (q14z.calls k1 ((rd_T76 l0_2 x13_1).f1.f0) _ _ ((rd_T76 l0_2 x13_1).f1.f1) _ _ ((rd_T76 l0_2 x13_1).f1.f2) t4 t5 _ ?side1 ?side2 ?side3 ?side4 A7.out).mono ?_); (case side1 => exact Kd.C_below HR2_2.out (hbW HB)); (case side2 => exact HC2_2.out); (case side3 => exact Kd.C_below HR2_3.out (hbW HB)); (case side4 => exact HC2_3.out); rintro e w21 ⟨rfl, hb⟩; refine ⟨_, rfl, ?_⟩; replace BK1 := bvB BK1 hb; replace BK3 := Aside0.mk (blk_below (g := gb3) (o := .cells #[.bool ((rd_T76 l0_2 x13_1).f0), .int .i64 ((rd_T76 l0_2 x13_1).f1.f0), .slice A2_2 ((rd_T76 l0_2 x13_1).f1.f1).length c2_2, .slice A2_3 ((rd_T76 l0_2 x13_1).f1.f2).length c2_3] 76 (0, 0)) (bp4 BK3) hb); replace HB := hbS HB hb; (try clear hb)))
        go_roundg k1
        case measure => have := HK1.out; omega
        case rel => exact ⟨(wrap64 (x3_1 + t4)), (wrap64 (x13_1 + 1)), (by first | rfl | (simp; done) | (simp [*]; done)), (by first | rfl | (simp; done) | (simp [*]; done)), H', ⟨by have := HK1.out; omega⟩, ⟨by (with_reducible repeat (first | refine blk_drewN ?_ _ | refine blk_drew ?_ | refine blk_alloc ?_ _)); exact BK1.out⟩, ⟨hbW HB⟩⟩
     ·
      rw [if_neg c6] at H
      exact absurd H (by simp)
    ·
     rw [if_neg c5] at H
     exact absurd H (by simp)
   ·
    rw [if_neg c4] at H
    have c4b0 : decide (x13_1 < (l0_2.length : Int)) = false := decide_eq_false c4
    clear c4
    have H' := Aside0.mk H
    clear H
    obtain ⟨hcz22_0, hcz22_1, hcz22_2, hcz22_3, hcz22_4, hcz22_5, hfz22_0, hfz22_1, hfz22_2, hfz22_3, hfz22_4, hfz22_5⟩ := bc6 BK1
    go_wp2
    go_loopg [3, 37] k1 (fun kq v3 v37 w' => ∃ (x3_2 : Int) (x37_2 : Int), v3 = .int .i64 x3_2 ∧ v37 = .int .i64 x37_2 ∧ Aside0 (q15z.l1 kq x3_2 l0_3 (l0_3.length : Int) x37_2 a0_0 l0_1 l0_2 l0_3 a0_4 a0_5 = some r) ∧ Aside0 (kq ≤ k1) ∧ Aside0 (w'.heap[gb1]? = some (.cells #[.int .i64 a0_0, (.slice A0_1 l0_1.length c0_1), (.slice A0_2 l0_2.length c0_2), (.slice A0_3 l0_3.length c0_3), .int .u32 a0_4, .int .u32 a0_5] 58 (0, 0))) ∧ Aside0 (Below w.heap.size w w'))
    case atStart => exact ⟨(0), (0), (by first | rfl | (simp; done) | (simp [*]; done)), (by first | rfl | (simp; done) | (simp [*]; done)), H', ⟨Nat.le_refl _⟩, ⟨by (with_reducible repeat (first | refine blk_drewN ?_ _ | refine blk_drew ?_ | refine blk_alloc ?_ _)); exact BK1.out⟩, ⟨hbW HB⟩⟩
    case round =>
     clear H'
     try clear c1
     try clear c2
     try clear p2
     try clear q2
     try clear hx2
     try clear c4
     try clear c4b0
     try clear c5
     try clear c5b0
     try clear c6
     try clear c6b0
     try clear p6
     try clear c8
     try clear c8b0
     try clear c10
     try clear c13
     try clear c13b0
     try clear c15
     try clear c19
     try clear hcz11_0 hcz11_1 hcz11_2 hcz11_3
     try clear hcz16_0 hcz16_1 hcz16_2 hcz16_3
     try clear hcz20_0 hcz20_1 hcz20_2 hcz20_3
     try clear hcz22_0 hcz22_1 hcz22_2 hcz22_3 hcz22_4 hcz22_5
     try clear hcz3_0 hcz3_1 hcz3_2 hcz3_3 hcz3_4 hcz3_5
     try clear hfz11_0 hfz11_1 hfz11_2 hfz11_3
     try clear hfz16_0 hfz16_1 hfz16_2 hfz16_3
     try clear hfz20_0 hfz20_1 hfz20_2 hfz20_3
     try clear hfz22_0 hfz22_1 hfz22_2 hfz22_3 hfz22_4 hfz22_5
     try clear hfz3_0 hfz3_1 hfz3_2 hfz3_3 hfz3_4 hfz3_5
     try clear hx2_0
     try clear hx2_1
     try clear hx2_2
     try clear hx2_3
     try clear p2
     try clear q2
     obtain ⟨x3_2, x37_2, rfl, rfl, HA, HK2, BK1, HB⟩ := hrel
     cases gk with
     | zero => exact absurd HA.out (by simp [q15z.l1])
     | succ k2 =>
      have H := HA.out
      clear HA
      simp only [q15z.l1] at H
      by_cases c23 : x37_2 < (l0_3.length : Int)
      ·
       rw [if_pos c23] at H
       have c23b0 : decide (x37_2 < (l0_3.length : Int)) = true := decide_eq_true c23
       clear c23
       by_cases c24 : 0 ≤ x37_2
       ·
        rw [if_pos c24] at H
        have c24b0 : decide (0 ≤ x37_2) = true := decide_eq_true c24
        clear c24
        by_cases c25 : x37_2 < (l0_3.length : Int)
        ·
         rw [if_pos c25] at H
         have c25b0 : decide (x37_2 < (l0_3.length : Int)) = true := decide_eq_true c25
         clear c25
         obtain ⟨ji26, hji26⟩ : ∃ j_ : Int, (mn (((rd_T53 l0_3 x37_2).f1).length : Int) 10000) = j_ := ⟨_, rfl⟩
         replace H : (if x37_2 > 100 then (some true) else (if (wrap64 (x3_2 + (ji26))) > 3000 then (some true) else (q15z.l1 k2 (wrap64 (x3_2 + (ji26))) l0_3 (l0_3.length : Int) (wrap64 (x37_2 + 1)) a0_0 l0_1 l0_2 l0_3 a0_4 a0_5))) = some r := by first | (rw [hji26] at H; exact H) | (simp only [hji26] at H ⊢; exact H)
         have hji26_ : (if 10000 < (((rd_T53 l0_3 x37_2).f1).length : Int) then 10000 else (((rd_T53 l0_3 x37_2).f1).length : Int)) = ji26 := hji26
         by_cases c27 : x37_2 > 100
         ·
          rw [if_pos c27] at H
          have c27b0 : decide (100 < x37_2) = true := decide_eq_true c27
          clear c27
          obtain rfl := Option.some.inj H
          have p6 : 0 ≤ (x37_2 : Int) := of_decide_eq_true (by first | (with_reducible assumption) | assumption)
          have q6 : x37_2 < (l0_3.length : Int) := of_decide_eq_true (by first | (with_reducible assumption) | assumption)
          obtain ⟨ad6, A6_1, c6_1, e6, hx6_0, hx6_1, hl6_1, hi6_1⟩ := at_T53 HR0_3.out x37_2 p6 q6
          cases e6
          replace hx6_0 := (HB.out.cell (World.block_lt_of_cell? w _ hx6_0)).trans hx6_0
          replace hx6_1 := (HB.out.cell (World.block_lt_of_cell? w _ hx6_1)).trans hx6_1
          have HR6_1 := Aside0.mk hi6_1
          have HC6_1 := Aside0.mk hl6_1
          clear hi6_1 hl6_1
          replace p6 := eq_true p6
          replace q6 := eq_true q6
          go_wp2_with (first | ((with_reducible refine gate_dst (N := 9) rfl ?_); refine box_event ?hg (N := 9) ?hd (cs := #[.bool false, .slice none 0 0]) (t := 53) ?hr ?_; (case hd => rfl); (case hg => rfl); (case hr => first | (go_simp; done) | (go_simp; rfl)); intro gb7 hg w28 hbox hb; have BK7 := Aside0.mk (hbox); have GW7 := gwS hg HB; have GE7 := gwS hg HB; have NB1_7 := nbL hg BK1; have NB7_1 := nbG hg BK1; replace BK1 := bkB BK1 hb; replace HB := hbS HB hb; clear hb hbox hg; have hnb29 := NB7_1.out; have hnc29 := NB1_7.out; obtain ⟨hcz30_0, hcz30_1, hfz30_0, hfz30_1⟩ := bc2 BK7))
          go_ret
          exact ⟨by first | rfl | (simp [errW_none, errW_some] <;> rfl) | (simp only [← hji26]; first | rfl | (simp [errW_none, errW_some] <;> rfl)) | (simp [*, errW_none, errW_some] <;> rfl), hbW HB⟩
         ·
          rw [if_neg c27] at H
          have c27b0 : decide (100 < x37_2) = false := decide_eq_false c27
          clear c27
          by_cases c31 : (wrap64 (x3_2 + (ji26))) > 3000
          ·
           rw [if_pos c31] at H
           have c31b0 : decide (3000 < (wrap64 (x3_2 + (ji26)))) = true := decide_eq_true c31
           clear c31
           obtain rfl := Option.some.inj H
           have p6 : 0 ≤ (x37_2 : Int) := of_decide_eq_true (by first | (with_reducible assumption) | assumption)
           have q6 : x37_2 < (l0_3.length : Int) := of_decide_eq_true (by first | (with_reducible assumption) | assumption)
           obtain ⟨ad6, A6_1, c6_1, e6, hx6_0, hx6_1, hl6_1, hi6_1⟩ := at_T53 HR0_3.out x37_2 p6 q6
           cases e6
           replace hx6_0 := (HB.out.cell (World.block_lt_of_cell? w _ hx6_0)).trans hx6_0
           replace hx6_1 := (HB.out.cell (World.block_lt_of_cell? w _ hx6_1)).trans hx6_1
           have HR6_1 := Aside0.mk hi6_1
           have HC6_1 := Aside0.mk hl6_1
           clear hi6_1 hl6_1
           replace p6 := eq_true p6
           replace q6 := eq_true q6
           go_wp2_with (first | ((with_reducible refine gate_dst (N := 9) rfl ?_); refine box_event ?hg (N := 9) ?hd (cs := #[.bool false, .slice none 0 0]) (t := 53) ?hr ?_; (case hd => rfl); (case hg => rfl); (case hr => first | (go_simp; done) | (go_simp; rfl)); intro gb7 hg w32 hbox hb; have BK7 := Aside0.mk (hbox); have GW7 := gwS hg HB; have GE7 := gwS hg HB; have NB1_7 := nbL hg BK1; have NB7_1 := nbG hg BK1; replace BK1 := bkB BK1 hb; replace HB := hbS HB hb; clear hb hbox hg; have hnb33 := NB7_1.out; have hnc33 := NB1_7.out; obtain ⟨hcz34_0, hcz34_1, hfz34_0, hfz34_1⟩ := bc2 BK7))
           go_ret
           exact ⟨by first | rfl | (simp [errW_none, errW_some] <;> rfl) | (simp only [← hji26]; first | rfl | (simp [errW_none, errW_some] <;> rfl)) | (simp [*, errW_none, errW_some] <;> rfl), hbW HB⟩
          ·
           rw [if_neg c31] at H
           have c31b0 : decide (3000 < (wrap64 (x3_2 + (ji26)))) = false := decide_eq_false c31
           clear c31
           have H' := Aside0.mk H
           clear H
           have p6 : 0 ≤ (x37_2 : Int) := of_decide_eq_true (by first | (with_reducible assumption) | assumption)
           have q6 : x37_2 < (l0_3.length : Int) := of_decide_eq_true (by first | (with_reducible assumption) | assumption)
           obtain ⟨ad6, A6_1, c6_1, e6, hx6_0, hx6_1, hl6_1, hi6_1⟩ := at_T53 HR0_3.out x37_2 p6 q6
           cases e6
           replace hx6_0 := (HB.out.cell (World.block_lt_of_cell? w _ hx6_0)).trans hx6_0
           replace hx6_1 := (HB.out.cell (World.block_lt_of_cell? w _ hx6_1)).trans hx6_1
           have HR6_1 := Aside0.mk hi6_1
           have HC6_1 := Aside0.mk hl6_1
           clear hi6_1 hl6_1
           replace p6 := eq_true p6
           replace q6 := eq_true q6
           go_wp2_with (first | ((with_reducible refine gate_dst (N := 9) rfl ?_); refine box_event ?hg (N := 9) ?hd (cs := #[.bool false, .slice none 0 0]) (t := 53) ?hr ?_; (case hd => rfl); (case hg => rfl); (case hr => first | (go_simp; done) | (go_simp; rfl)); intro gb7 hg w35 hbox hb; have BK7 := Aside0.mk (hbox); have GW7 := gwS hg HB; have GE7 := gwS hg HB; have NB1_7 := nbL hg BK1; have NB7_1 := nbG hg BK1; replace BK1 := bkB BK1 hb; replace HB := hbS HB hb; clear hb hbox hg; have hnb36 := NB7_1.out; have hnc36 := NB1_7.out; obtain ⟨hcz37_0, hcz37_1, hfz37_0, hfz37_1⟩ := bc2 BK7))
           go_roundg k2
           case measure => have := HK1.out; have := HK2.out; omega
           case rel => exact ⟨(wrap64 (x3_2 + (ji26))), (wrap64 (x37_2 + 1)), (by first | rfl | (simp; done) | (simp only [← hji26] <;> (first | rfl | simp)) | (simp [*]; done)), (by first | rfl | (simp; done) | (simp [*]; done)), H', ⟨by have := HK1.out; have := HK2.out; omega⟩, ⟨by (with_reducible repeat (first | refine blk_drewN ?_ _ | refine blk_drew ?_ | refine blk_alloc ?_ _)); refine blk_far ?_ NB1_7.out _; (with_reducible repeat (first | refine blk_drewN ?_ _ | refine blk_drew ?_ | refine blk_alloc ?_ _)); refine blk_far ?_ NB1_7.out _; (with_reducible repeat (first | refine blk_drewN ?_ _ | refine blk_drew ?_ | refine blk_alloc ?_ _)); exact BK1.out⟩, ⟨hbW HB⟩⟩
        ·
         rw [if_neg c25] at H
         exact absurd H (by simp)
       ·
        rw [if_neg c24] at H
        exact absurd H (by simp)
      ·
       rw [if_neg c23] at H
       have c23b0 : decide (x37_2 < (l0_3.length : Int)) = false := decide_eq_false c23
       clear c23
       obtain rfl := Option.some.inj H
       obtain ⟨hcz38_0, hcz38_1, hcz38_2, hcz38_3, hcz38_4, hcz38_5, hfz38_0, hfz38_1, hfz38_2, hfz38_3, hfz38_4, hfz38_5⟩ := bc6 BK1
       go_wp2
       go_ret
       exact ⟨by first | rfl | (simp [errW_none, errW_some] <;> rfl) | (simp [*, errW_none, errW_some] <;> rfl), hbW HB⟩

/-! ### dragomanref12_Great: function 9 -/
def q16z.f (k : Nat) (a0_0 : Int) (a0_1 : Int) (l0_2 : List Int) (l0_3 : List (S53)) : Option (Bool) := if (l0_2.length : Int) > 3000 then (some true) else ((q15z.f k 0 ([] : List (S92)) ([] : List (S76)) l0_3 0 0).bind fun t2 => (some t2))
theorem q16z.mono : ∀ a0 a1 a2 a3 k, LeO (q16z.f k a0 a1 a2 a3) (q16z.f (k + 1) a0 a1 a2 a3) := by
 intro a0 a1 a2 a3 k
 unfold q16z.f
 repeat' first
   | (with_reducible exact q15z.mono _ _ _ _ _ _ _)
   | (with_reducible exact LeO.refl _)
   | (with_reducible exact LeO.none _)
   | (with_reducible refine LeO.ite ?_ ?_)
   | (with_reducible refine LeO.bind ?_ (fun _ => ?_))
   | exact q15z.mono _ _ _ _ _ _ _
   | exact LeO.none _
   | refine LeO.ite ?_ ?_
   | refine LeO.bind ?_ (fun _ => ?_)
set_option maxHeartbeats 8000000 in
set_option maxRecDepth 100000 in
theorem q16z.calls (k : Nat) (a0_0 : Int) (a0_1 : Int) (A0_2 : Option Addr) (c0_2 : Nat) (l0_2 : List Int) (A0_3 : Option Addr) (c0_3 : Nat) (l0_3 : List (S53)) (r : Bool) (w : World) (hr0_2 : Kd.C (Kd.int .u32) w A0_2 l0_2.length l0_2) (hc0_2 : l0_2.length ≤ c0_2) (hr0_3 : Kd.C k53 w A0_3 l0_3.length l0_3) (hc0_3 : l0_3.length ≤ c0_3) (h : q16z.f k a0_0 a0_1 l0_2 l0_3 = some r) :
  Calls Try.prog 9 #[.agg #[.int .i64 a0_0, .int .u32 a0_1, .slice A0_2 l0_2.length c0_2, .slice A0_3 l0_3.length c0_3]] w fun e w' => e = .returned (.bool r) ∧ Below w.heap.size w w' := by
 have hu26 := Try.underlying26
 have hu58 := Try.underlying58
 have HR0_2 := Aside0.mk hr0_2
 have HC0_2 := Aside0.mk hc0_2
 clear hr0_2 hc0_2
 have HR0_3 := Aside0.mk hr0_3
 have HC0_3 := Aside0.mk hc0_3
 clear hr0_3 hc0_3
 have HB := Aside0.mk (Below.refl w.heap.size w)
 have H : (if (l0_2.length : Int) > 3000 then (some true) else ((q15z.f k 0 ([] : List (S92)) ([] : List (S76)) l0_3 0 0).bind fun t2 => (some t2))) = some r := h
 clear h
 by_cases c2 : (l0_2.length : Int) > 3000
 ·
  rw [if_pos c2] at H
  have c2b0 : decide (3000 < (l0_2.length : Int)) = true := decide_eq_true c2
  have c2b1 : decide (3000 < l0_2.length) = true := decide_eq_true (by omega)
  clear c2
  obtain rfl := Option.some.inj H
  go_enter Try.func9, Try.ntmps9
  go_wp2_with (first | ((with_reducible refine gate_dst (N := 1) rfl ?_); refine box_event ?hg (N := 1) ?hd (cs := #[.int .i64 a0_0, .int .u32 a0_1, .slice A0_2 l0_2.length c0_2, .slice A0_3 l0_3.length c0_3]) (t := 26) ?hr ?_; (case hd => rfl); (case hg => rfl); (case hr => first | (go_simp; done) | (go_simp; rfl)); intro gb1 hg w3 hbox hb; have BK1 := Aside0.mk (hbox); have GW1 := gwS hg HB; have GE1 := gwS hg HB; replace HB := hbS HB hb; clear hb hbox hg; obtain ⟨hcz4_0, hcz4_1, hcz4_2, hcz4_3, hfz4_0, hfz4_1, hfz4_2, hfz4_3⟩ := bc4 BK1))
  go_ret
  exact ⟨by first | rfl | (simp [errW_none, errW_some] <;> rfl) | (simp [*, errW_none, errW_some] <;> rfl), hbW HB⟩
 ·
  rw [if_neg c2] at H
  have c2b0 : decide (3000 < (l0_2.length : Int)) = false := decide_eq_false c2
  have c2b1 : decide (3000 < l0_2.length) = false := decide_eq_false (by omega)
  clear c2
  replace H := Option.bind_eq_some_iff.mp H
  obtain ⟨t2, A50, H⟩ := H
  replace H : (some t2) = some r := H
  have A5 := Aside0.mk A50
  clear A50
  obtain rfl := Option.some.inj H
  go_enter Try.func9, Try.ntmps9
  go_wp2_with (first | ((with_reducible refine gate_dst (N := 1) rfl ?_); refine box_event ?hg (N := 1) ?hd (cs := #[.int .i64 a0_0, .int .u32 a0_1, .slice A0_2 l0_2.length c0_2, .slice A0_3 l0_3.length c0_3]) (t := 26) ?hr ?_; (case hd => rfl); (case hg => rfl); (case hr => first | (go_simp; done) | (go_simp; rfl)); intro gb1 hg w6 hbox hb; have BK1 := Aside0.mk (hbox); have GW1 := gwS hg HB; have GE1 := gwS hg HB; replace HB := hbS HB hb; clear hb hbox hg; obtain ⟨hcz7_0, hcz7_1, hcz7_2, hcz7_3, hfz7_0, hfz7_1, hfz7_2, hfz7_3⟩ := bc4 BK1) | (go_at_call 24; (refine (q15z.calls k 0 _ _ ([] : List (S92)) _ _ ([] : List (S76)) _ _ l0_3 0 0 t2 _ ?side1 ?side2 ?side3 ?side4 ?side5 ?side6 A5.out).mono ?_); (case side1 => exact Kd.C_nil _ _); (case side2 => exact Nat.le_refl _); (case side3 => exact Kd.C_nil _ _); (case side4 => exact Nat.le_refl _); (case side5 => repeat (first | exact (Kd.C_below HR0_3.out HB.out) | (with_reducible refine Kd.C_alloc ?_ _) | (with_reducible refine Kd.C_drewN ?_ _) | (with_reducible refine Kd.C_drew ?_))); (case side6 => exact HC0_3.out); rintro e w8 ⟨rfl, hb⟩; replace BK1 := bkB BK1 hb; replace HB := hbS HB hb; (try clear hb)))
  go_ret
  exact ⟨by first | rfl | (simp [errW_none, errW_some] <;> rfl) | (simp [*, errW_none, errW_some] <;> rfl), hbW HB⟩

end Go.Proofs.Ytgelpccjdndfoaa.P
