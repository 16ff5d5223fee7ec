/- Part of the proof of the law PlaneCells: the functions that it reaches, by contract. -/
import Derived.Sort.Walk13a
import Derived.Sort.LotD4
import Derived.Sort.LotB
import Derived.Deep.Cut
import Derived.Sort.AssemblyPlain
import Derived.Lib.BitFns
import Derived.Lib.Hide
import Derived.Sort.WalkA14
import GoSem.Core.Float
import Derived.WalkLawsBesides
import Derived.Test.YtdkbfcogmlghfaaCPlaneCells0
namespace Go.Proofs.Ytdkbfcogmlghfaa.P
open Go.RowKit Go.Sort Go.Shelf Go.Lib
set_option linter.unusedVariables false
set_option linter.unusedSimpArgs false
/-! Go's own sort at uint32: its loop and its recursion (after the kit's walk of the same code at int). -/
theorem hintZ_eq (h : Hint) : hintZ h = hintCode h := by cases h <;> rfl
theorem hintC_two {h : Hint} (e : hintCode h = 2) : h = .decreasing := by cases h <;> simp [hintCode] at e ⊢
theorem eighthU {x y p q : Nat} (h1 : q ≤ p) (h2 : y ≤ x) : decide (((x : Int) - (y : Int)) / 8 ≤ (p : Int) - (q : Int)) = decide (p - q ≥ (x - y) / 8) :=
  decide_eq_decide.2 ⟨fun h => by omega, fun h => by omega⟩
set_option maxHeartbeats 6400000 in
set_option maxRecDepth 1000000 in
theorem pdq_u32 (blk off cap : Nat) (d0 : Array Int) (w0 : World) (R : Row1 (.int .u32) w0 blk off d0) (hsz : d0.size < 4611686018427387904) : ∀ (N a b limit : Nat) (d : Array Int) (w : World), b - a < N → SW (.int .u32) w0 blk off d w → d.size = d0.size → a ≤ b → b ≤ d0.size → limit < 4611686018427387904 → Go.Sort.Below ltInt a b d →
    Calls Try.prog 30 #[.slice (some ⟨blk, off, none⟩) d0.size cap, .int .i64 a, .int .i64 b, .int .i64 limit] w fun e w' => e = .returned (.tuple #[]) ∧ SW (.int .u32) w0 blk off (pdq ltInt d a b limit true true) w' := by
  intro N
  induction N with
  | zero => intro _ _ _ _ _ h; exact absurd h (Nat.not_lt_zero _)
  | succ N ih =>
    intro a b limit d w hN hS0 hdd hab hb hlimit hBel0
    go_enter Try.func30, Try.ntmps30
    go_wp2
    go_loopg [1, 2, 3, 8, 9] (b - a) (fun k s1 s2 s3 s8 s9 wr => ∃ (a' b' lim : Nat) (wb wp : Bool) (dk : Array Int), s1 = .int .i64 a' ∧ s2 = .int .i64 b' ∧ s3 = .int .i64 lim ∧ s8 = .bool wb ∧ s9 = .bool wp ∧
      a' ≤ b' ∧ b' ≤ d0.size ∧ b' - a' ≤ k ∧ k ≤ b - a ∧ lim ≤ limit ∧ dk.size = d0.size ∧ Go.Sort.Below ltInt a' b' dk ∧ SW (.int .u32) w0 blk off dk wr ∧ pdq ltInt dk a' b' lim wb wp = pdq ltInt d a b limit true true)
    case atStart => exact ⟨a, b, limit, true, true, d, rfl, rfl, rfl, rfl, rfl, hab, hb, Nat.le_refl _, Nat.le_refl _, Nat.le_refl _, hdd, hBel0, hS0, rfl⟩
    case round =>
      obtain ⟨a', b', lim, wb, wp, dk, rfl, rfl, rfl, rfl, rfl, hab', hb', hk, hkN, hlim, hds, hBel, hAt, heq⟩ := hrel
      have A : Aside (pdq ltInt dk a' b' lim wb wp = pdq ltInt d a b limit true true) := heq
      clear heq
      by_cases h12 : b' - a' ≤ 12
      · -- 'if length <= maxInsertion'
        have h12z : (b' : Int) - (a' : Int) ≤ 12 := by omega
        have hc := insertion_u32 blk off cap a' b' d0 dk w0 wr R hds hAt hb' hsz (by omega)
        go_wp2_with (go_at_call 34; refine hc.mono ?_; rintro e w1 ⟨rfl, hw1⟩)
        (try simp only [Exit.inBlock, Exit.then]); refine bodyPost_ret (results_none rfl _ _ _) rfl ?_
        refine ⟨rfl, ?_⟩
        rw [← A.out, pdq_small h12]
        exact hw1
      · have h12z : ¬ ((b' : Int) - (a' : Int) ≤ 12) := by omega
        by_cases hl0 : lim = 0
        · -- 'if limit == 0'
          subst hl0
          have hc := heap_u32 blk off cap a' b' d0 dk w0 wr R hds hAt (by omega) hb' hsz
          go_wp2_with (go_at_call 35; refine hc.mono ?_; rintro e w1 ⟨rfl, hw1⟩)
          (try simp only [Exit.inBlock, Exit.then]); refine bodyPost_ret (results_none rfl _ _ _) rfl ?_
          refine ⟨rfl, ?_⟩
          rw [← A.out, pdq_heap h12 rfl]
          exact hw1
        · have hl0z : ¬ ((lim : Int) = 0) := by omega
          obtain ⟨s1, B1, hc1, s2, B2, hpv, s3, B3⟩ := rd_facts (limit := lim) (wb := wb) (wp := wp) swo_ltInt partialInsertionSort_holds reverseRange_holds (show a' < b' by omega) (show b' ≤ dk.size by omega) hBel
          go_upto_if 35 with fail
          go_cut [3] from 19 (fun s3 wc => s3 = .int .i64 (rd ltInt dk a' b' lim wb wp).lim ∧ SW (.int .u32) w0 blk off (rd ltInt dk a' b' lim wb wp).d1 wc)
          case first =>
            cases wb
            · obtain ⟨L, hL⟩ : ∃ L, b' = a' + L := ⟨b' - a', by omega⟩
              have hc := break_u32 blk off cap a' L d0 dk w0 wr R hds hAt (by omega) (by omega) hsz
              rw [← hL] at hc
              clear hL
              go_wp2_with (go_at_call 36; refine hc.mono ?_; rintro e w1 ⟨rfl, hw1⟩)
              go_meet
              case rel =>
                refine ⟨?_, hw1⟩
                show Value.int .i64 ((lim : Int) - 1) = Value.int .i64 ((lim - 1 : Nat) : Int)
                congr 1
                omega
            · go_wp2_with fail
              go_meet
              case rel => exact ⟨rfl, hAt⟩
          case rest =>
            obtain ⟨rfl, hAt1⟩ := hcut
            have hc17 := pivot_u32 blk off cap a' b' d0 (rd ltInt dk a' b' lim wb wp).d1 w0 wc R (s1.trans hds) hAt1 (by omega) hb' hsz
            rw [hintZ_eq] at hc17
            rw [← rd_c] at hc17
            go_upto_if 50 with (go_at_call 37; refine hc17.mono ?_; rintro e w2 ⟨rfl, hAt2⟩)
            go_cut [11, 12] from 19 (fun s11 s12 wc => s11 = .int .i64 (rd ltInt dk a' b' lim wb wp).pivot ∧ s12 = .int .i64 (hintCode (rd ltInt dk a' b' lim wb wp).hint) ∧ SW (.int .u32) w0 blk off (rd ltInt dk a' b' lim wb wp).d2 wc)
            case first =>
              by_cases hh : (rd ltInt dk a' b' lim wb wp).c.2 = .decreasing
              · have hcode : hintCode (rd ltInt dk a' b' lim wb wp).c.2 = 2 := by rw [hh]; rfl
                obtain ⟨e2, epv, eht⟩ := rd_dec hh
                have hc18 := reverse_u32 blk off cap a' b' d0 (rd ltInt dk a' b' lim wb wp).d1 w0 w2 R (s1.trans hds) hAt2 (by omega) hb' hsz
                go_wp2_with (go_at_call 38; refine hc18.mono ?_; rintro e w3 ⟨rfl, hw3⟩)
                go_meet
                case rel =>
                  refine ⟨?_, by rw [eht]; rfl, by rw [e2]; exact hw3⟩
                  rw [epv]
                  congr 1
                  omega
              · have hcode : ¬ (hintCode (rd ltInt dk a' b' lim wb wp).c.2 = 2) := fun h => hh (hintC_two h)
                obtain ⟨e2, epv, eht⟩ := rd_not hh
                go_wp2_with fail
                go_meet
                case rel => exact ⟨by rw [epv], by rw [eht], by rw [e2]; exact hAt2⟩
            case rest =>
              obtain ⟨rfl, rfl, hAt3⟩ := hcut
              go_upto_region 15 with fail
              go_cut [12, 68] from 19 (fun s12 s68 wx => s12 = .int .i64 (hintCode (rd ltInt dk a' b' lim wb wp).hint) ∧ s68 = .bool (wb && wp && decide ((rd ltInt dk a' b' lim wb wp).hint = .increasing)) ∧ wx = wc)
              case first =>
                cases wb <;> cases wp <;> cases hh3 : (rd ltInt dk a' b' lim _ _).hint <;>
                  (have hcode3 := congrArg hintCode hh3
                   simp only [hintCode] at hcode3
                   go_wp2_with fail
                   go_meet
                   exact ⟨by simp [hh3, hintCode], by simp [hh3, hintCode], rfl⟩)
              case rest =>
                obtain ⟨rfl, rfl, rfl⟩ := hcut
                go_upto_if 68 with fail
                go_cut [] from 19 (fun wx => (rd ltInt dk a' b' lim wb wp).pi.2 = false ∧ SW (.int .u32) w0 blk off (rd ltInt dk a' b' lim wb wp).pi.1 wx)
                case first =>
                  cases h68 : (wb && wp && decide ((rd ltInt dk a' b' lim wb wp).hint = .increasing))
                  · have epi := rd_pi_no h68
                    go_wp2_with fail
                    go_meet
                    case rel => exact ⟨by rw [epi], by rw [epi]; exact hAt3⟩
                  · have epi := rd_pi_yes h68
                    have hc19 := partial_u32 blk off cap a' b' d0 (rd ltInt dk a' b' lim wb wp).d2 w0 wc R (s2.trans hds) hAt3 (by omega) hb' hsz
                    rw [← epi] at hc19
                    go_wp2_with (go_at_call 39; refine hc19.mono ?_; rintro e w4 ⟨rfl, hw4, hw4s⟩)
                    all_goals first
                      | (have hp2 : (rd ltInt dk a' b' lim wb wp).pi.2 = false := by rw [epi]; assumption
                         go_meet
                         exact ⟨hp2, hw4⟩)
                      | (have hp2 : (rd ltInt dk a' b' lim wb wp).pi.2 = true := by rw [epi]; assumption
                         (try simp only [Exit.inBlock, Exit.then]); refine bodyPost_ret (results_none rfl _ _ _) rfl ?_
                         refine ⟨rfl, ?_⟩
                         rw [← A.out, pdq_done h12 hl0 hp2]
                         exact hw4)
                case rest =>
                  obtain ⟨hp2, hAt5⟩ := hcut
                  have hcw : ∀ t, t < d0.size → wc.cell? ⟨blk, off + t, none⟩ = some (.int .u32 (rd ltInt dk a' b' lim wb wp).pi.1[t]!) := fun t ht => hAt5.c1 R (s3.trans hds) t (by omega)
                  have hfw : ∀ t, t < d0.size → wc.frozen? ⟨blk, off + t, none⟩ = false := fun t ht => hAt5.f1 R (s3.trans hds) t (by omega)
                  go_upto_region 17 with fail
                  go_cut [87] from 19 (fun s87 wx => s87 = .bool (decide (a' > 0) && !ltInt (rd ltInt dk a' b' lim wb wp).pi.1[a' - 1]! (rd ltInt dk a' b' lim wb wp).pi.1[(rd ltInt dk a' b' lim wb wp).pivot]!) ∧ SW (.int .u32) w0 blk off (rd ltInt dk a' b' lim wb wp).pi.1 wx)
                  case first =>
                    rcases Nat.eq_zero_or_pos a' with ha0 | ha0
                    · have ha0z : decide ((a' : Int) > 0) = false := decide_eq_false (by omega)
                      go_big_quiet (first | (go_at_call 40; refine Calls.quiet_of_same (less_u32 _ _ _)))
                      go_wp2_with fail
                      go_meet
                      case rel => exact ⟨by simp [ha0], hAt5.drewN nq⟩
                    · have ha0z : (a' : Int) > 0 := by omega
                      go_big_quiet (first | (go_at_call 40; refine Calls.quiet_of_same (less_u32 _ _ _)))
                      go_wp2_with fail
                      go_meet
                      case rel => exact ⟨by simp [ha0], hAt5.drewN nq⟩
                  case rest =>
                    obtain ⟨rfl, hAt6⟩ := hcut
                    clear hcw hfw
                    cases h87 : (decide (a' > 0) && !ltInt (rd ltInt dk a' b' lim wb wp).pi.1[a' - 1]! (rd ltInt dk a' b' lim wb wp).pi.1[(rd ltInt dk a' b' lim wb wp).pivot]!)
                    · -- ████ 'mid, alreadyPartitioned := partitionOrdered(..)'; THE SMALLER SIDE BY A CALL OF ITSELF, the other by the next round
                      obtain ⟨mid, ap, d4, hx⟩ : ∃ mid ap d4, Sort.partition ltInt (rd ltInt dk a' b' lim wb wp).pi.1 a' b' (rd ltInt dk a' b' lim wb wp).pivot = (mid, ap, d4) := ⟨(Sort.partition ltInt (rd ltInt dk a' b' lim wb wp).pi.1 a' b' (rd ltInt dk a' b' lim wb wp).pivot).1, (Sort.partition ltInt (rd ltInt dk a' b' lim wb wp).pi.1 a' b' (rd ltInt dk a' b' lim wb wp).pivot).2.1, (Sort.partition ltInt (rd ltInt dk a' b' lim wb wp).pi.1 a' b' (rd ltInt dk a' b' lim wb wp).pivot).2.2, rfl⟩
                      obtain ⟨r1, r2, r3, r4, r5, r6, r7⟩ := round_part swo_ltInt (partition_holds ltInt) hpv.1 hpv.2 (show b' ≤ (rd ltInt dk a' b' lim wb wp).pi.1.size by omega) B3 hx
                      have hc22 := partition_u32 blk off cap a' b' (rd ltInt dk a' b' lim wb wp).pivot d0 (rd ltInt dk a' b' lim wb wp).pi.1 w0 wc R (s3.trans hds) hAt6 hpv.1 hpv.2 hb' hsz
                      rw [hx] at hc22
                      have X : Aside (Sort.partition ltInt (rd ltInt dk a' b' lim wb wp).pi.1 a' b' (rd ltInt dk a' b' lim wb wp).pivot = (mid, ap, d4)) := hx
                      clear hx
                      go_upto_if 113 with (go_at_call 42; refine hc22.mono ?_; rintro e w7 ⟨rfl, hAt7⟩)
                      have hx := X.out
                      by_cases h4 : mid - a' < b' - mid
                      · have h4z : (mid : Int) - (a' : Int) < (b' : Int) - (mid : Int) := by omega
                        have hih := ih a' mid (rd ltInt dk a' b' lim wb wp).lim d4 w7 (by omega) hAt7 (r3.trans (s3.trans hds)) (by omega) (by omega) (Nat.lt_of_le_of_lt (Nat.le_trans rd_lim_le hlim) hlimit) r4
                        obtain ⟨pL, sL⟩ := pdq_sorts ltInt swo_ltInt d4 a' mid (rd ltInt dk a' b' lim wb wp).lim true true (by omega) (by omega) r4
                        go_wp2_with (go_at_call 30; refine hih.mono ?_; rintro e w8 ⟨rfl, hw8⟩)
                        go_roundg (b' - (mid + 1))
                        case measure => omega
                        case rel =>
                          refine ⟨mid + 1, b', (rd ltInt dk a' b' lim wb wp).lim, decide (mid - a' ≥ (b' - a') / 8), ap, pdq ltInt d4 a' mid (rd ltInt dk a' b' lim wb wp).lim true true, by simp, rfl, rfl, ?_, rfl, by omega, by omega, Nat.le_refl _, by omega, Nat.le_trans rd_lim_le hlim, by rw [pL.1, r3, s3, hds], (r6 _ pL sL).1, hw8, ?_⟩
                          · exact congrArg Value.bool (eighthU (by omega) (by omega))
                          · rw [← A.out, pdq_left h12 hl0 hp2 h87 (by rw [hx]; exact ⟨r1, r2⟩) (by rw [hx]; exact h4), hx]
                      · have h4z : ¬ ((mid : Int) - (a' : Int) < (b' : Int) - (mid : Int)) := by omega
                        have hih := ih (mid + 1) b' (rd ltInt dk a' b' lim wb wp).lim d4 w7 (by omega) hAt7 (r3.trans (s3.trans hds)) (by omega) (by omega) (Nat.lt_of_le_of_lt (Nat.le_trans rd_lim_le hlim) hlimit) r5
                        obtain ⟨pL, sL⟩ := pdq_sorts ltInt swo_ltInt d4 (mid + 1) b' (rd ltInt dk a' b' lim wb wp).lim true true (by omega) (by omega) r5
                        go_wp2_with (go_at_call 30; refine hih.mono ?_; rintro e w8 ⟨rfl, hw8⟩)
                        go_roundg (mid - a')
                        case measure => omega
                        case rel =>
                          refine ⟨a', mid, (rd ltInt dk a' b' lim wb wp).lim, decide (b' - mid ≥ (b' - a') / 8), ap, pdq ltInt d4 (mid + 1) b' (rd ltInt dk a' b' lim wb wp).lim true true, rfl, rfl, rfl, ?_, rfl, by omega, by omega, Nat.le_refl _, by omega, Nat.le_trans rd_lim_le hlim, by rw [pL.1, r3, s3, hds], (r7 _ pL sL).1, hw8, ?_⟩
                          · exact congrArg Value.bool (eighthU (by omega) (by omega))
                          · rw [← A.out, pdq_right h12 hl0 hp2 h87 (by rw [hx]; exact ⟨r1, r2⟩) (by rw [hx]; exact h4), hx]
                    · -- ████ 'mid := partitionEqualOrdered(..); a = mid; continue'
                      have h87' := h87
                      simp only [Bool.and_eq_true, decide_eq_true_eq, Bool.not_eq_true'] at h87'
                      obtain ⟨mid, d4, hx⟩ : ∃ mid d4, partitionEqual ltInt (rd ltInt dk a' b' lim wb wp).pi.1 a' b' (rd ltInt dk a' b' lim wb wp).pivot = (mid, d4) := ⟨(partitionEqual ltInt (rd ltInt dk a' b' lim wb wp).pi.1 a' b' (rd ltInt dk a' b' lim wb wp).pivot).1, (partitionEqual ltInt (rd ltInt dk a' b' lim wb wp).pi.1 a' b' (rd ltInt dk a' b' lim wb wp).pivot).2, rfl⟩
                      obtain ⟨r1, r2, r3, r4, _⟩ := round_eq swo_ltInt (partitionEqual_holds ltInt) h87'.1 hpv.1 hpv.2 (show b' ≤ (rd ltInt dk a' b' lim wb wp).pi.1.size by omega) B3 h87'.2 hx
                      have hc21 := partEq_u32 blk off cap a' b' (rd ltInt dk a' b' lim wb wp).pivot d0 (rd ltInt dk a' b' lim wb wp).pi.1 w0 wc R (s3.trans hds) hAt6 hpv.1 hpv.2 hb' hsz
                      rw [hx] at hc21
                      have X : Aside (partitionEqual ltInt (rd ltInt dk a' b' lim wb wp).pi.1 a' b' (rd ltInt dk a' b' lim wb wp).pivot = (mid, d4)) := hx
                      clear hx
                      go_wp2_with (go_at_call 41; refine hc21.mono ?_; rintro e w7 ⟨rfl, hw7⟩)
                      go_roundg (b' - mid)
                      case measure => omega
                      case rel =>
                        have hx := X.out
                        exact ⟨mid, b', (rd ltInt dk a' b' lim wb wp).lim, wb, wp, d4, rfl, rfl, rfl, rfl, rfl, r2, hb', Nat.le_refl _, by omega, Nat.le_trans rd_lim_le hlim, by rw [r3, s3, hds], r4, hw7, by rw [← A.out, pdq_eq h12 hl0 hp2 h87 (by rw [hx]; exact ⟨r1, r2⟩), hx]⟩

end Go.Proofs.Ytdkbfcogmlghfaa.P

namespace Go.Proofs.Ytdkbfcogmlghfaa.P
open Go.Sort
set_option linter.unusedVariables false
/-! A list of numbers, sorted: one by one laid where it belongs. -/
def insU (x : Int) : List Int → List Int
  | [] => [x]
  | y :: s => if x ≤ y then x :: y :: s else y :: insU x s
def sortU : List Int → List Int
  | [] => []
  | x :: s => insU x (sortU s)
theorem insU_perm (x : Int) : ∀ l, (insU x l).Perm (x :: l)
  | [] => List.Perm.refl _
  | y :: s => by
    unfold insU
    split
    · exact List.Perm.refl _
    · exact ((insU_perm x s).cons y).trans (List.Perm.swap x y s)
theorem insU_pair (x : Int) : ∀ l, l.Pairwise (fun a b : Int => a ≤ b) → (insU x l).Pairwise (fun a b : Int => a ≤ b)
  | [], _ => by simp [insU]
  | y :: s, h => by
    rw [List.pairwise_cons] at h
    obtain ⟨h1, h2⟩ := h
    unfold insU
    split
    · rename_i hxy
      rw [List.pairwise_cons]
      refine ⟨?_, List.pairwise_cons.2 ⟨h1, h2⟩⟩
      intro a ha
      rcases List.mem_cons.1 ha with rfl | ha
      · exact hxy
      · exact Int.le_trans hxy (h1 a ha)
    · rename_i hxy
      rw [List.pairwise_cons]
      refine ⟨?_, insU_pair x s h2⟩
      intro a ha
      rcases List.mem_cons.1 ((insU_perm x s).mem_iff.1 ha) with rfl | ha
      · omega
      · exact h1 a ha
theorem sortU_perm : ∀ l, (sortU l).Perm l
  | [] => List.Perm.refl _
  | x :: s => (insU_perm x (sortU s)).trans ((sortU_perm s).cons x)
theorem sortU_pair : ∀ l, (sortU l).Pairwise (fun a b : Int => a ≤ b)
  | [] => List.Pairwise.nil
  | x :: s => insU_pair x _ (sortU_pair s)
theorem sortU_len (l : List Int) : (sortU l).length = l.length := (sortU_perm l).length_eq
theorem sortU_mem (l : List Int) (x : Int) : x ∈ sortU l ↔ x ∈ l := (sortU_perm l).mem_iff
theorem pair_unique (l r : List Int) (h : l.Perm r) (h1 : l.Pairwise (fun a b : Int => a ≤ b)) (h2 : r.Pairwise (fun a b : Int => a ≤ b)) : l = r :=
  List.Perm.eq_of_pairwise (le := fun a b : Int => a ≤ b) (fun a b _ _ x y => Int.le_antisymm x y) h1 h2 h
theorem sortU_self (l : List Int) (h : l.Pairwise (fun a b : Int => a ≤ b)) : sortU l = l := pair_unique _ _ (sortU_perm l) (sortU_pair l) h
theorem sortU_merge (l : List Int) : l.mergeSort (fun x y => decide (x ≤ y)) = sortU l := by
  refine pair_unique _ _ ((List.mergeSort_perm _ _).trans (sortU_perm l).symm) ?_ (sortU_pair l)
  have h := List.pairwise_mergeSort (le := fun x y : Int => decide (x ≤ y)) (fun a b c h1 h2 => by simp only [decide_eq_true_eq] at *; omega) (fun a b => by by_cases h : a ≤ b; simp [h]; simp [h]; omega) l
  exact h.imp (fun h => by simpa using h)
theorem sort_arr (l : List Int) : Go.Sort.sort ltInt l.toArray = (sortU l).toArray := by
  have h := sortInt l
  rw [sortU_merge] at h
  rw [← h]
end Go.Proofs.Ytdkbfcogmlghfaa.P

namespace Go.Proofs.Ytdkbfcogmlghfaa.P
open Go.RowKit Go.Proofs.YtdkbfcogmlghfaaW.PrintWords Go.Proofs.YtdkbfcogmlghfaaW.PrintLast Go.Proofs.YtdkbfcogmlghfaaW.PrintMore Go.Lib Go.Shelf Go.Sort
set_option linter.unusedVariables false
set_option linter.unusedSimpArgs false
/-! Go's own sort of a slice of uint32, whatever its length. -/
def lay_bitsLen_ren : Go.Shelf.Ren := ⟨fun | 15 => 31 | 28 => 43 | 29 => 44 | n => n, fun | 39 => 57 | 3 => 3 | 53 => 22 | 55 => 72 | 4 => 4 | 5 => 5 | 9 => 9 | n => n, fun n => n⟩
theorem lay_bitsLen : SlLaysF0.n15 Try.prog lay_bitsLen_ren := {
  mixed := by kernel_rfl,
  f15 := Try.func31.trans (congrArg some (by kernel_rfl)),
  f28 := Try.func43.trans (congrArg some (by kernel_rfl)),
  f29 := Try.func44.trans (congrArg some (by kernel_rfl)),
  t3 := Try.underlying3,
  a3 := Try.isAgg3,
  z3 := Try.sizeOf3,
  v3 := Try.zeroValue3,
  t4 := Try.underlying4,
  a4 := Try.isAgg4,
  z4 := Try.sizeOf4,
  v4 := Try.zeroValue4,
  t5 := Try.underlying5,
  a5 := Try.isAgg5,
  z5 := Try.sizeOf5,
  v5 := Try.zeroValue5,
  t9 := Try.underlying9,
  a9 := Try.isAgg9,
  z9 := Try.sizeOf9,
  v9 := Try.zeroValue9,
  t39 := Try.underlying57,
  a39 := Try.isAgg57,
  z39 := Try.sizeOf57,
  v39 := Try.zeroValue57,
  t53 := Try.underlying22,
  a53 := Try.isAgg22,
  z53 := Try.sizeOf22,
  v53 := Try.zeroValue22,
  t55 := Try.underlying72,
  a55 := Try.isAgg72,
  z55 := Try.sizeOf72,
  v55 := Try.zeroValue72 }

def Sort_u32.f (k : Nat) (l0 : List Int) : Option (List Int) := if l0.length < 4611686018427387904 then some (sortU l0) else none
theorem Sort_u32.mono : ∀ a0 k, LeO (Sort_u32.f k a0) (Sort_u32.f (k + 1) a0) := fun a0 k r h => h
theorem bits_len (n : Nat) (hn : n < 4611686018427387904) (W : World) : Calls Try.prog 31 #[.int .u64 (n : Int)] W fun e w' => e = .returned (.int .i64 (bitsLen n : Nat)) ∧ w' = W := by
  have h := Any.bits_Len (SlLaysF0.n15.bits (P := Try.prog) (ρ := lay_bitsLen_ren) lay_bitsLen) (n : Int) W (by omega) (by omega)
  rwa [Int.toNat_natCast, bitLen_eq _ (by omega)] at h
theorem ins_nil (w : World) : Calls Try.prog 34 #[.slice none 0 0, .int .i64 0, .int .i64 0] w fun e w' => e = .returned (.tuple #[]) ∧ ∃ q, w' = w.drewN q := by
  go_enter Try.func34, Try.ntmps34
  go_wp2
  refine wp_loop_rounds 1 ?_
  rw [rounds_succ]
  go_wp2
  go_end0
  exact ⟨rfl, 0, rfl⟩
theorem pdq_nil (w : World) : Calls Try.prog 30 #[.slice none 0 0, .int .i64 0, .int .i64 0, .int .i64 0] w fun e w' => e = .returned (.tuple #[]) ∧ ∃ q, w' = w.drewN q := by
  go_enter Try.func30, Try.ntmps30
  go_wp2
  refine wp_loop_rounds 1 ?_
  rw [rounds_succ]
  go_wp2_with (first | (go_at_call 34; refine (ins_nil _).mono ?_; rintro e w1 ⟨rfl, q, rfl⟩))
  refine bodyPost_ret (results_none rfl _ _ _) rfl ?_
  exact ⟨rfl, q, rfl⟩
theorem sort_nil (w : World) : Calls Try.prog 22 #[.slice none 0 0] w fun e w' => e = .returned (.tuple #[]) ∧ ∃ q, w' = w.drewN q := by
  have HBL := Go.Lib.hid (bits_len 0 (by omega) w)
  go_enter Try.func22, Try.ntmps22
  go_wp2_with (first | (go_at_call 31; refine HBL.out.mono ?_; rintro e w1 ⟨rfl, rfl⟩) | (go_at_call 30; refine (pdq_nil _).mono ?_; rintro e w1 ⟨rfl, q, rfl⟩))
  go_end0
  exact ⟨rfl, q, rfl⟩
theorem sort_row (blk off cap : Nat) (l : List Int) (w : World) (hH : Holds (.int .u32) w blk off l.toArray) (hblk : blk < w.heap.size) (hsz : l.length < 4611686018427387904) :
    Calls Try.prog 22 #[.slice (some ⟨blk, off, none⟩) l.length cap] w fun e w' => e = .returned (.tuple #[]) ∧ SW (.int .u32) w blk off (sortU l).toArray w' := by
  have hlim : bitsLen l.length < 4611686018427387904 := Nat.lt_of_le_of_lt ((bitsLen_le_iff l.length 62).2 (by omega)) (by omega)
  have K := pdq_u32 blk off cap l.toArray w (row_u32 hH hblk) (by simpa using hsz) (l.length + 1) 0 l.length (bitsLen l.length) l.toArray w (by omega) (SW.start hH) rfl (Nat.zero_le _) (by simp) hlim (Or.inl rfl)
  have e : pdq ltInt l.toArray 0 l.length (bitsLen l.length) true true = (sortU l).toArray := by
    rw [← sort_arr l]
    unfold Go.Sort.sort
    simp
  rw [e] at K
  simp only [List.size_toArray] at K
  have HP := Go.Lib.hid K
  have HBL := Go.Lib.hid (bits_len l.length hsz w)
  have wrp : IntKind.u64.wrap (l.length : Int) = l.length := by simp [IntKind.wrap, IntKind.bits, IntKind.signed]; omega
  clear K e hlim hH hblk
  go_enter Try.func22, Try.ntmps22
  go_wp2_with (first | (go_at_call 31; refine HBL.out.mono ?_; rintro e w1 ⟨rfl, rfl⟩) | (go_at_call 30; refine HP.out.mono ?_; rintro e w1 ⟨rfl, h1⟩; have H1 := Go.Lib.hid h1; clear h1))
  go_end0
  exact ⟨rfl, H1.out⟩
theorem Sort_u32.calls (k : Nat) (P0_ : Nat → Prop) (u9000_ : Value) (l0 : List Int) (r : List Int) (w0 w : World) (hB : Below w0.heap.size w0 w) (ho0 : Kd.R (Kd.int .u32) 22 w w0.heap.size P0_ u9000_ l0) (h : Sort_u32.f k l0 = some r) :
    Calls Try.prog 22 #[u9000_] w fun e w' => e = .returned (.tuple #[]) ∧ Kd.R (Kd.int .u32) 22 w' w0.heap.size (fun k_ => (P0_ k_ ∨ w.heap.size ≤ k_)) u9000_ r ∧ Below w0.heap.size w0 w' ∧ Kept w w' (fun k_ => P0_ k_) := by
  unfold Sort_u32.f at h
  by_cases hl : l0.length < 4611686018427387904
  · rw [if_pos hl] at h
    have hr := Option.some.inj h
    clear h
    rcases bridge_down (d := Kd.int .u32) (enc := fun x : Int => [.int .u32 x]) (fun h => h) (fun _ => rfl) (by decide) ho0 with ⟨rfl, rfl⟩ | ⟨g, cap, cur, rfl, hbase, hb, hnc, hcm, hcs, hok, hH⟩
    · have hrn : r = [] := by rw [← hr]; rfl
      subst hrn
      refine (sort_nil w).mono ?_
      rintro e w' ⟨rfl, q, rfl⟩
      exact ⟨rfl, Kd.R_nil _ _ _ _ _, ⟨hB.os, hB.tape, hB.output, hB.size, hB.block⟩, Kept.refl _ _⟩
    · refine (sort_row g 0 cap l0 w (holds_one _ _ _ _ _ hH) (blk_lt hb) hl).mono ?_
      rintro e w' ⟨rfl, m, os, rfl⟩
      rw [hr]
      have hyl : r.length = l0.length := by rw [← hr]; exact sortU_len l0
      have hup := bridge_up (d := Kd.int .u32) (enc := fun x : Int => [.int .u32 x]) (ys := r) (fun _ _ _ _ => rfl) (fun _ => rfl) (by decide) hB hbase hb hyl hnc hcm hcs hok m os
      rw [show (Kd.int .u32).sz = 1 from rfl, ← putRow_one] at hup
      exact ⟨rfl, hup⟩
  · rw [if_neg hl] at h
    exact absurd h (by simp)
end Go.Proofs.Ytdkbfcogmlghfaa.P

namespace Go.Proofs.Ytdkbfcogmlghfaa.P
open Ieee
set_option linter.unusedVariables false
set_option linter.unusedSimpArgs false
/-! Small whole numbers as floats of 64 bits: what they read as, how they stand to each other, what a difference's sign is. -/
/-- The float of a number below 65536. -/
def F (n : Nat) : Nat := FloatKind.f64.nearest (n : Int)
theorem d1 : double.leastPlace = -1074 := by decide
theorem d2 : double.infRung = 9218868437227405312 := by decide
theorem d3 : double.binade = 4503599627370496 := by decide
theorem d4 : (double.fractionBits : Int) = 52 := rfl
theorem d5 : double.signWeight = 9223372036854775808 := by decide
theorem log2_rng (n : Nat) (h0 : 0 < n) (h : n < 65536) : 2 ^ n.log2 ≤ n ∧ n < 2 ^ (n.log2 + 1) ∧ n.log2 ≤ 15 := by
  have h1 := Nat.log2_self_le (n := n) (by omega)
  have h2 := Nat.lt_log2_self (n := n)
  refine ⟨h1, h2, ?_⟩
  have : n.log2 < 16 := (Nat.log2_lt (by omega)).2 h
  omega
theorem nearest_pos (n : Nat) (h0 : 0 < n) (h : n < 65536) : double.nearest false n 0 = (n.log2 + 1022) * 4503599627370496 + n * 2 ^ (52 - n.log2) ∧ 4503599627370496 ≤ n * 2 ^ (52 - n.log2) ∧ n * 2 ^ (52 - n.log2) < 9007199254740992 := by
  obtain ⟨h1, h2, h3⟩ := log2_rng n h0 h
  unfold Format.nearest
  rw [if_neg (by omega), d1, d2, d3, d4]
  simp only []
  have el : max ((0 : Int) + (n.log2 : Int) - 52) (-1074) = (n.log2 : Int) - 52 := by omega
  rw [el]
  have ek : ((0 : Int) - ((n.log2 : Int) - 52)).toNat = 52 - n.log2 := by omega
  have ed : ((n.log2 : Int) - 52 - 0).toNat = 0 := by omega
  have ep : ((n.log2 : Int) - 52 - -1074).toNat = n.log2 + 1022 := by omega
  rw [ek, ed, ep, Nat.shiftLeft_eq]
  have ec : Toward.even.cut false (n * 2 ^ (52 - n.log2)) 0 = n * 2 ^ (52 - n.log2) := by
    simp [Toward.cut, Nat.mod_one]
  rw [ec]
  unfold Format.word
  simp only [Bool.false_eq_true, if_false]
  generalize n.log2 = l at h1 h2 h3
  have hl : l = 0 ∨ l = 1 ∨ l = 2 ∨ l = 3 ∨ l = 4 ∨ l = 5 ∨ l = 6 ∨ l = 7 ∨ l = 8 ∨ l = 9 ∨ l = 10 ∨ l = 11 ∨ l = 12 ∨ l = 13 ∨ l = 14 ∨ l = 15 := by omega
  rcases hl with rfl | rfl | rfl | rfl | rfl | rfl | rfl | rfl | rfl | rfl | rfl | rfl | rfl | rfl | rfl | rfl <;> (simp only [Nat.reducePow, Nat.reduceAdd, Nat.reduceSub] at h1 h2 ⊢; omega)
/-- The whole number that a datum stands for. -/
def Rep (d : Datum) (z : Nat) : Prop := ∃ m i, d = .number false m i ∧ i ≤ 0 ∧ -1074 ≤ i ∧ ∀ base : Int, base ≤ i → m <<< (i - base).toNat = z * 2 ^ (-base).toNat
theorem F_zero : F 0 = 0 := by decide
theorem read_zero : double.read 0 = .number false 0 (-1074) := by decide
theorem F_pos (n : Nat) (h0 : 0 < n) : F n = double.nearest false n 0 := by
  unfold F FloatKind.nearest FloatKind.encode FloatKind.format
  simp only [Format.write, Int.natAbs_natCast]
  rw [decide_eq_false (by omega)]
theorem rep_F (n : Nat) (h : n < 65536) : Rep (double.read (F n)) n := by
  by_cases h0 : n = 0
  · subst h0
    rw [F_zero, read_zero]
    exact ⟨0, -1074, rfl, by omega, by omega, fun base _ => by simp⟩
  · have h0' : 0 < n := by omega
    obtain ⟨e, g1, g2⟩ := nearest_pos n h0' h
    obtain ⟨l1, l2, l3⟩ := log2_rng n h0' h
    rw [F_pos n h0', e]
    refine ⟨n * 2 ^ (52 - n.log2), (n.log2 : Int) - 52, ?_, by omega, by omega, ?_⟩
    · unfold Format.read
      rw [d1, d2, d3, d5]
      simp only []
      generalize n * 2 ^ (52 - n.log2) = m at g1 g2
      generalize n.log2 = l at l3
      have q1 : ((l + 1022) * 4503599627370496 + m) / 9223372036854775808 = 0 := by omega
      have q2 : ((l + 1022) * 4503599627370496 + m) % 9223372036854775808 = (l + 1022) * 4503599627370496 + m := by omega
      rw [q1, q2, if_neg (by omega), if_pos (by omega)]
      have q3 : 4503599627370496 + ((l + 1022) * 4503599627370496 + m) % 4503599627370496 = m := by omega
      have q4 : (-1074 : Int) + (((l + 1022) * 4503599627370496 + m) / 4503599627370496 - 1 : Nat) = (l : Int) - 52 := by omega
      rw [q3, q4]
      rfl
    · intro base hb
      rw [Nat.shiftLeft_eq, Nat.mul_assoc, ← Nat.pow_add]
      congr 2
      omega
theorem order_F (a b : Nat) (ha : a < 65536) (hb : b < 65536) : double.order (F a) (F b) = some (compare a b) := by
  obtain ⟨m, i, e1, i1, i2, f1⟩ := rep_F a ha
  obtain ⟨n, j, e2, j1, j2, f2⟩ := rep_F b hb
  unfold Format.order
  rw [e1, e2]
  simp only [Datum.order, signed, Bool.false_eq_true, if_false]
  rw [f1 (min i j) (by omega), f2 (min i j) (by omega)]
  have hp : 0 < 2 ^ (-(min i j)).toNat := Nat.two_pow_pos _
  generalize 2 ^ (-(min i j)).toNat = q at hp
  congr 1
  have k : ∀ x y : Nat, compare x y = if x < y then .lt else if x = y then .eq else .gt := fun x y => rfl
  have k2 : ∀ x y : Int, compare x y = if x < y then .lt else if x = y then .eq else .gt := fun x y => rfl
  rw [k, k2]
  by_cases h1 : a < b
  · have : a * q < b * q := Nat.mul_lt_mul_of_pos_right h1 hp
    rw [if_pos h1, if_pos (by omega)]
  · by_cases h2 : a = b
    · subst h2
      rw [if_neg h1, if_pos rfl, if_neg (by omega), if_pos rfl]
    · have : b * q < a * q := Nat.mul_lt_mul_of_pos_right (by omega) hp
      rw [if_neg h1, if_neg h2, if_neg (by omega), if_neg (by omega)]
/-- What a rung's word is to zero. -/
theorem order_word (neg : Bool) (r : Nat) (h0 : 0 < r) (h1 : r ≤ 9218868437227405312) : double.order (double.word neg r) 0 = some (if neg then .lt else .gt) := by
  have k2 : ∀ x y : Int, compare x y = if x < y then .lt else if x = y then .eq else .gt := fun x y => rfl
  unfold Format.order
  rw [read_zero]
  have hr : double.read (double.word neg r) = (if r < 4503599627370496 then .number neg r (-1074) else if r < 9218868437227405312 then .number neg (4503599627370496 + r % 4503599627370496) (-1074 + (r / 4503599627370496 - 1 : Nat)) else .infinity neg) := by
    unfold Format.read Format.word
    rw [d1, d2, d3, d5]
    simp only []
    cases neg with
    | false =>
      simp only [Bool.false_eq_true, if_false]
      have q1 : r / 9223372036854775808 = 0 := by omega
      have q2 : r % 9223372036854775808 = r := by omega
      rw [q1, q2]
      by_cases c1 : r < 4503599627370496
      · rw [if_pos c1, if_pos c1]; rfl
      · by_cases c2 : r < 9218868437227405312
        · rw [if_neg c1, if_pos c2, if_neg c1, if_pos c2]; rfl
        · rw [if_neg c1, if_neg c2, if_neg c1, if_neg c2, if_pos (by omega)]; rfl
    | true =>
      simp only [if_true]
      have q1 : (9223372036854775808 + r) / 9223372036854775808 = 1 := by omega
      have q2 : (9223372036854775808 + r) % 9223372036854775808 = r := by omega
      rw [q1, q2]
      by_cases c1 : r < 4503599627370496
      · rw [if_pos c1, if_pos c1]; rfl
      · by_cases c2 : r < 9218868437227405312
        · rw [if_neg c1, if_pos c2, if_neg c1, if_pos c2]; rfl
        · rw [if_neg c1, if_neg c2, if_neg c1, if_neg c2, if_pos (by omega)]; rfl
  rw [hr]
  have num : ∀ (m : Nat) (i : Int), 0 < m → (Datum.number neg m i).order (.number false 0 (-1074)) = some (if neg then .lt else .gt) := by
    intro m i hm
    have hp : 0 < m <<< (i - min i (-1074)).toNat := by rw [Nat.shiftLeft_eq]; exact Nat.mul_pos hm (Nat.two_pow_pos _)
    simp only [Datum.order, signed, Bool.false_eq_true, if_false, Nat.zero_shiftLeft]
    generalize m <<< (i - min i (-1074)).toNat = z at hp
    cases neg with
    | false => simp only [Bool.false_eq_true, if_false]; rw [k2, if_neg (by omega), if_neg (by omega)]
    | true => simp only [if_true]; rw [k2, if_pos (by omega)]
  split
  · exact num _ _ h0
  · split
    · exact num _ _ (by omega)
    · cases neg <;> rfl
theorem order_nearest (neg : Bool) (mag : Nat) (place : Int) (h0 : 0 < mag) (hp : -1074 ≤ place) : double.order (double.nearest neg mag place) 0 = some (if neg then .lt else .gt) := by
  unfold Format.nearest
  rw [if_neg (by omega), d1, d2, d3, d4]
  simp only []
  refine order_word neg _ ?_ (Nat.min_le_right _ _)
  generalize hl : max (place + (mag.log2 : Int) - 52) (-1074) = last
  have hpos : 0 < (last - -1074).toNat * 4503599627370496 + Toward.even.cut neg (mag <<< (place - last).toNat) (last - place).toNat := by
    by_cases hd : last ≤ place
    · have e : (last - place).toNat = 0 := by omega
      rw [e]
      have ec : Toward.even.cut neg (mag <<< (place - last).toNat) 0 = mag <<< (place - last).toNat := by simp [Toward.cut, Nat.mod_one]
      rw [ec, Nat.shiftLeft_eq]
      have := Nat.mul_pos h0 (Nat.two_pow_pos (place - last).toNat)
      omega
    · omega
  omega
theorem order_zero (neg : Bool) : double.order (double.word neg 0) 0 = some .eq := by cases neg <;> decide
/-- A difference of two, not below zero. -/
theorem sub_ge (a b : Nat) (ha : a < 65536) (hb : b < 65536) : ∃ r, double.sub (F a) (F b) = some r ∧ (double.order r 0 == some .gt || double.order r 0 == some .eq) = decide (b ≤ a) := by
  obtain ⟨m, i, e1, i1, i2, f1⟩ := rep_F a ha
  obtain ⟨n, j, e2, j1, j2, f2⟩ := rep_F b hb
  unfold Format.sub
  rw [e1, e2]
  simp only [Datum.opposite, Datum.sum, signed, Bool.false_eq_true, if_false, Bool.not_false, if_true, Option.map_some, Format.write, Bool.false_and]
  rw [f1 (min i j) (by omega), f2 (min i j) (by omega)]
  refine ⟨_, rfl, ?_⟩
  have hp : 0 < 2 ^ (-(min i j)).toNat := Nat.two_pow_pos _
  generalize 2 ^ (-(min i j)).toNat = q at hp
  by_cases h : a = b
  · subst h
    have e0 : ((a * q : Nat) : Int) + -((a * q : Nat) : Int) = 0 := by omega
    rw [e0]
    simp only [if_true, Int.natAbs_zero]
    have en : double.nearest false 0 (min i j) = double.word false 0 := by unfold Format.nearest; rw [if_pos rfl]
    rw [en, order_zero, decide_eq_true (Nat.le_refl _)]
    rfl
  · by_cases hab : a < b
    · have hm : a * q < b * q := Nat.mul_lt_mul_of_pos_right hab hp
      rw [if_neg (by omega), decide_eq_true (by omega), order_nearest true _ _ (by omega) (by omega), decide_eq_false (by omega)]
      rfl
    · have hm : b * q < a * q := Nat.mul_lt_mul_of_pos_right (by omega) hp
      rw [if_neg (by omega), decide_eq_false (by omega), order_nearest false _ _ (by omega) (by omega), decide_eq_true (by omega)]
      rfl
theorem toInt_F (n : Nat) (h : n < 65536) : (double.read (F n)).toInt .zero = some (n : Int) := by
  obtain ⟨m, i, e1, i1, i2, f1⟩ := rep_F n h
  have hm := f1 i (Int.le_refl _)
  rw [Int.sub_self, Int.toNat_zero, Nat.shiftLeft_zero] at hm
  rw [e1]
  unfold Datum.toInt Datum.integral
  simp only []
  have e0 : i.toNat = 0 := by omega
  rw [e0, Nat.shiftLeft_zero]
  have ec : Toward.zero.cut false m (-i).toNat = n := by
    unfold Toward.cut
    simp only [Bool.toNat_false, Nat.add_zero]
    rw [Nat.shiftLeft_eq, Nat.one_mul]
    by_cases h0 : n = 0
    · subst h0
      rw [Nat.zero_mul] at hm
      subst hm
      exact Nat.zero_div _
    · have hge : 2 ^ (-i).toNat ≤ m := by rw [hm]; exact Nat.le_mul_of_pos_left _ (by omega)
      have hpos : 0 < 2 ^ (-i).toNat := Nat.two_pow_pos _
      have hl : (-i).toNat ≤ m.log2 := (Nat.le_log2 (by omega)).2 hge
      rw [Nat.min_eq_left (by omega), hm, Nat.mul_div_cancel _ hpos]
  rw [ec]
  simp only [signed, Bool.false_eq_true, if_false, Nat.shiftLeft_zero]
end Go.Proofs.Ytdkbfcogmlghfaa.P

namespace Go.Proofs.Ytdkbfcogmlghfaa.P
open Go.RowKit Go.Proofs.YtdkbfcogmlghfaaW.PrintWords Go.Proofs.YtdkbfcogmlghfaaW.PrintLast Go.Proofs.YtdkbfcogmlghfaaW.PrintMore
set_option linter.unusedVariables false
set_option linter.unusedSimpArgs false
/-! Communities as points of a plane: point, within, In. -/
theorem quoN (n : Nat) (h : n < 4294967296) : Int.tdiv (n : Int) 65536 % 4294967296 = ((n / 65536 : Nat) : Int) := by
  rw [Int.tdiv_eq_ediv_of_nonneg (by omega)]
  omega
theorem remN (n : Nat) : Int.tmod (n : Int) 65536 = ((n % 65536 : Nat) : Int) := by
  rw [Int.tmod_eq_emod_of_nonneg (by omega)]
  omega
theorem point_calls (n : Nat) (hn : n < 4294967296) (w : World) : Calls Try.prog 19 #[.int .u32 (n : Int)] w fun e w' => e = .returned (.complex .f64 (F (n / 65536)) (F (n % 65536))) ∧ w' = w := by
  have q1 := quoN n hn
  have q2 := remN n
  have hu44 := Try.underlying44
  have hu22 := Try.underlying22
  go_enter Try.func19, Try.ntmps19
  go_wp2
  go_ret
  exact ⟨by simp [floatOfInt, F, q1, q2], rfl⟩
/-- Is the point (a, b) within (c, d) .. (e, f)? -/
def withinN (a b c d e f : Nat) : Bool := decide (c ≤ a) && (decide (d ≤ b) && (decide (a ≤ e) && decide (b ≤ f)))
theorem within_calls (a b c d e f : Nat) (ha : a < 65536) (hb : b < 65536) (hc : c < 65536) (hd : d < 65536) (he : e < 65536) (hf : f < 65536) (w : World) :
    Calls Try.prog 20 #[.complex .f64 (F a) (F b), .complex .f64 (F c) (F d), .complex .f64 (F e) (F f)] w fun x w' => x = .returned (.bool (withinN a b c d e f)) ∧ w' = w := by
  obtain ⟨r1, s1, t1⟩ := sub_ge a c ha hc
  obtain ⟨r2, s2, t2⟩ := sub_ge b d hb hd
  obtain ⟨r3, s3, t3⟩ := sub_ge e a he ha
  obtain ⟨r4, s4, t4⟩ := sub_ge f b hf hb
  have e1 : ∀ w, (binOp .sub 42 (.complex .f64 (F a) (F b)) (.complex .f64 (F c) (F d))).run Try.prog w = .ok (.complex .f64 r1 r2) w := fun w =>
    run_complex_sum w .sub (Or.inr rfl) 42 .f64 _ _ _ _ _ _ (by unfold cSumBits floatBits; simp only [FloatKind.format]; rw [s1, s2]; rfl)
  have e2 : ∀ w, (binOp .sub 42 (.complex .f64 (F e) (F f)) (.complex .f64 (F a) (F b))).run Try.prog w = .ok (.complex .f64 r3 r4) w := fun w =>
    run_complex_sum w .sub (Or.inr rfl) 42 .f64 _ _ _ _ _ _ (by unfold cSumBits floatBits; simp only [FloatKind.format]; rw [s3, s4]; rfl)
  have g1 : (FloatKind.f64.format.order r1 0 == some .gt || FloatKind.f64.format.order r1 0 == some .eq) = decide (c ≤ a) := t1
  have g2 : (FloatKind.f64.format.order r2 0 == some .gt || FloatKind.f64.format.order r2 0 == some .eq) = decide (d ≤ b) := t2
  have g3 : (FloatKind.f64.format.order r3 0 == some .gt || FloatKind.f64.format.order r3 0 == some .eq) = decide (a ≤ e) := t3
  have g4 : (FloatKind.f64.format.order r4 0 == some .gt || FloatKind.f64.format.order r4 0 == some .eq) = decide (b ≤ f) := t4
  clear s1 s2 s3 s4 t1 t2 t3 t4
  unfold withinN
  generalize F a = fa at e1 e2 ⊢
  generalize F b = fb at e1 e2 ⊢
  generalize F c = fc at e1 ⊢
  generalize F d = fd at e1 ⊢
  generalize F e = fe at e2 ⊢
  generalize F f = ff at e2 ⊢
  have HG := Go.Lib.hid (And.intro g1 (And.intro g2 (And.intro g3 g4)))
  clear g1 g2 g3 g4
  go_enter Try.func20, Try.ntmps20
  go_wp2
  all_goals
    go_ret
    obtain ⟨g1, g2, g3, g4⟩ := HG.out
    refine ⟨?_, rfl⟩
    rw [← g1, ← g2, ← g3, ← g4]
    clear HG g1 g2 g3 g4 e1 e2
    simp_all [Bool.and_assoc]
theorem in_of (n lo hi : Nat) (hn : n < 4294967296) (hlo : lo < 4294967296) (hhi : hi < 4294967296) (w : World) :
    Calls Try.prog 11 #[.agg #[.int .u32 (lo : Int), .int .u32 (hi : Int)], .int .u32 (n : Int)] w fun e w' => e = .returned (.bool (withinN (n / 65536) (n % 65536) (lo / 65536) (lo % 65536) (hi / 65536) (hi % 65536))) ∧ Below w.heap.size w w' := by
  have hu24 := Try.underlying24
  have hp := fun (m : Nat) (hm : m < 4294967296) (w : World) => point_calls m hm w
  have hw := fun (w : World) => within_calls (n / 65536) (n % 65536) (lo / 65536) (lo % 65536) (hi / 65536) (hi % 65536) (by omega) (by omega) (by omega) (by omega) (by omega) (by omega) w
  have HP := Go.Lib.hid hp
  have HW := Go.Lib.hid hw
  clear hp hw
  go_enter Try.func11, Try.ntmps11
  go_wp2
  go_big_quiet (first | (go_at_call 19; refine Calls.quiet_of_same (HP.out _ (by assumption) _)) | (go_at_call 20; refine Calls.quiet_of_same (HW.out _)))
  go_wp2
  go_ret
  exact ⟨rfl, pw_below_drewN ((Below.refl _ _).alloc (Nat.le_refl _) _) _⟩
def u32B (a : Int) : Bool := decide (0 ≤ a) && decide (a < 4294967296)
theorem u32B_nat {a : Int} (h : u32B a = true) : ∃ n : Nat, a = (n : Int) ∧ n < 4294967296 := by
  unfold u32B at h
  simp only [Bool.and_eq_true, decide_eq_true_eq] at h
  exact ⟨a.toNat, by omega, by omega⟩
/-- Is the community c in the box lo .. hi? -/
def inB (lo hi c : Nat) : Bool := withinN (c / 65536) (c % 65536) (lo / 65536) (lo % 65536) (hi / 65536) (hi % 65536)
def plane_In.f (a0_0 : Int) (a0_1 : Int) (a1 : Int) : Option Bool := if (u32B a0_0 && (u32B a0_1 && u32B a1)) = true then some (inB a0_0.toNat a0_1.toNat a1.toNat) else none
theorem plane_In.calls (a0_0 : Int) (a0_1 : Int) (a1 : Int) (r : Bool) (w : World) (h : plane_In.f a0_0 a0_1 a1 = some r) :
    Calls Try.prog 11 #[.agg #[.int .u32 a0_0, .int .u32 a0_1], .int .u32 a1] w fun e w' => e = .returned (.bool r) ∧ Below w.heap.size w w' := by
  unfold plane_In.f at h
  by_cases hg : (u32B a0_0 && (u32B a0_1 && u32B a1)) = true
  · rw [if_pos hg] at h
    simp only [Bool.and_eq_true] at hg
    obtain ⟨lo, rfl, h1⟩ := u32B_nat hg.1
    obtain ⟨hi, rfl, h2⟩ := u32B_nat hg.2.1
    obtain ⟨n, rfl, h3⟩ := u32B_nat hg.2.2
    have hr := Option.some.inj h
    subst hr
    exact in_of n lo hi h3 h1 h2 w
  · rw [if_neg hg] at h
    exact absurd h (by simp)
end Go.Proofs.Ytdkbfcogmlghfaa.P

namespace Go.Proofs.Ytdkbfcogmlghfaa.P
open Go.RowKit Go.Proofs.YtdkbfcogmlghfaaW.PrintWords Go.Proofs.YtdkbfcogmlghfaaW.PrintLast Go.Proofs.YtdkbfcogmlghfaaW.PrintMore
attribute [local go_sem] max2_int min2_int max_two min_two max_three min_three max_four min_four
set_option linter.unusedVariables false
set_option linter.unusedSimpArgs false

/-! ### plane_kind: function 25 -/
def q8z.l0 : Nat → Int → List Int → List (S24) → Int → Int → Option (ByteArray)
 | 0, _, _, _, _, _ => none
 | k + 1, x1, x5, x11, x12, x13 => if x13 < x12 then (if 0 ≤ x13 then (if x13 < (x11.length : Int) then ((plane_In.f ((rd_T24 x11 x13).f0) ((rd_T24 x11 x13).f1) x1).bind fun t6 => (if t6 = true then (if x13 < (x5.length : Int) then (q8z.l0 k x1 (x5.set (x13 : Int).toNat 1) x11 x12 (wrap64 (x13 + 1))) else (none)) else (q8z.l0 k x1 x5 x11 x12 (wrap64 (x13 + 1))))) else (none)) else (none)) else (some (strOfNums x5))
def q8z.f (k : Nat) (l0 : List (S24)) (a1 : Int) : Option (ByteArray) := if 0 ≤ (l0.length : Int) then (if ((l0.length : Int) : Int).toNat ≤ 281474976710656 then (q8z.l0 k a1 (List.replicate ((l0.length : Int) : Int).toNat 0) l0 (l0.length : Int) 0) else (none)) else (none)
theorem q8z.mono_l : ∀ k, (∀ y0 y1 y2 y3 y4, LeO (q8z.l0 k y0 y1 y2 y3 y4) (q8z.l0 (k + 1) y0 y1 y2 y3 y4))
 | 0 => fun _ _ _ _ _ r h => by simp [q8z.l0] at h
 | k + 1 => by
  have ih0 := q8z.mono_l k
  ·
   intro y0 y1 y2 y3 y4
   unfold q8z.l0
   repeat' first
   | (with_reducible exact ih0 _ _ _ _ _)
   | (with_reducible exact LeO.refl _)
   | (with_reducible exact LeO.none _)
   | (with_reducible refine LeO.ite ?_ ?_)
   | (with_reducible refine LeO.bind ?_ (fun _ => ?_))
   | exact ih0 _ _ _ _ _
   | exact LeO.none _
   | refine LeO.ite ?_ ?_
   | refine LeO.bind ?_ (fun _ => ?_)
theorem q8z.mono : ∀ a0 a1 k, LeO (q8z.f k a0 a1) (q8z.f (k + 1) a0 a1) := by
 intro a0 a1 k
 have ih0 := q8z.mono_l k
 unfold q8z.f
 repeat' first
   | (with_reducible exact ih0 _ _ _ _ _)
   | (with_reducible exact LeO.refl _)
   | (with_reducible exact LeO.none _)
   | (with_reducible refine LeO.ite ?_ ?_)
   | (with_reducible refine LeO.bind ?_ (fun _ => ?_))
   | exact ih0 _ _ _ _ _
   | exact LeO.none _
   | refine LeO.ite ?_ ?_
   | refine LeO.bind ?_ (fun _ => ?_)
set_option maxHeartbeats 8000000 in
set_option maxRecDepth 100000 in
theorem q8z.calls (k : Nat) (A0 : Option Addr) (c0 : Nat) (l0 : List (S24)) (a1 : Int) (r : ByteArray) (w : World) (hr0 : Kd.C k24 w A0 l0.length l0) (hc0 : l0.length ≤ c0) (h : q8z.f k l0 a1 = some r) :
  Calls Try.prog 25 #[.slice A0 l0.length c0, .int .u32 a1] w fun e w' => e = .returned (.string r) ∧ Below w.heap.size w w' := by
 have hu24 := Try.underlying24
 have HR0 := Aside0.mk hr0
 have HC0 := Aside0.mk hc0
 clear hr0 hc0
 have HB := Aside0.mk (Below.refl w.heap.size w)
 have H : (if 0 ≤ (l0.length : Int) then (if ((l0.length : Int) : Int).toNat ≤ 281474976710656 then (q8z.l0 k a1 (List.replicate ((l0.length : Int) : Int).toNat 0) l0 (l0.length : Int) 0) else (none)) else (none)) = some r := h
 clear h
 by_cases c3 : 0 ≤ (l0.length : Int)
 ·
  rw [if_pos c3] at H
  have c3b0 := eq_true c3
  have c3b1 : decide (0 ≤ (l0.length : Int)) = true := decide_eq_true c3
  clear c3
  by_cases c4 : ((l0.length : Int) : Int).toNat ≤ 281474976710656
  ·
   rw [if_pos c4] at H
   have c4b0 := eq_true c4
   have c4b1 : decide (((l0.length : Int) : Int).toNat ≤ 281474976710656) = true := decide_eq_true c4
   clear c4
   obtain ⟨y1, hy1⟩ : ∃ y_ : List Int, y_ = (List.replicate ((l0.length : Int) : Int).toNat 0) := ⟨_, rfl⟩
   replace H : (q8z.l0 k a1 y1 l0 (l0.length : Int) 0) = some r := by first | (rw [hy1]; with_reducible exact H) | (have H2_ := (Option.bind_some _ _).symm.trans H; rw [hy1]; with_reducible exact H2_) | (have H2_ := (Option.bind_some _ _).symm.trans H; with_reducible exact H2_) | with_reducible exact H | (rw [hy1]; exact H) | exact H
   have Ny1 := Aside0.mk hy1
   clear hy1
   have H' := Aside0.mk H
   clear H
   go_enter Try.func25, Try.ntmps25
   go_wp2_with (first | ((with_reducible refine gate_dst (N := 10) rfl ?_); refine Kd.R_make (Kd.int .u8) _ 5 rfl (N := 10) rfl 58 _ _ rfl (l0.length : Int) rfl rfl Try.underlying58 (.int .u8 0) 1 info5 rfl (by decide) (by omega) 0 (ok := fun _ => True) (okp := fun _ => True) rfl (fun _ hk => hk) trivial (of_decide_eq_true (by first | (with_reducible assumption) | assumption)) (Nat.le_trans (Nat.mul_le_mul_right _ (of_decide_eq_true (by first | (with_reducible assumption) | assumption) : (l0.length : Int).toNat ≤ 281474976710656)) (by omega)) (Below.refl _ _) (Nat.le_refl _) ?_; intro v2 w5 ho6 hb hg_ hnew_; clear hg_ hnew_; (first | rw [← Ny1.out] at ho6 | (simp only [Int.reduceToNat] at ho6; rw [← Ny1.out] at ho6)); have n0_ := Aside0.mk (Kd.R_lower ho6 (below_size (by repeat (first | (with_reducible first | exact HB.out | apply below_alloc | apply pw_below_drewN | apply below_drew1) | exact HB.out)))); have n1_ := Aside0.mk (below_step (by repeat (first | (with_reducible first | exact HB.out | apply below_alloc | apply pw_below_drewN | apply below_drew1) | exact HB.out)) hb); clear HB; have HO3 := n0_; have HB := n1_; clear n0_ n1_; clear hb ho6))
   go_loopg [13] k (fun kq v13 w' => ∃ (x5_1 : List Int) (x13_1 : Int), v13 = .int .i64 x13_1 ∧ Aside0 (q8z.l0 kq a1 x5_1 l0 (l0.length : Int) x13_1 = some r) ∧ Aside0 (kq ≤ k) ∧ Aside0 (Kd.R (Kd.int .u8) 5 w' w.heap.size (fun _ => True) v2 x5_1) ∧ Aside0 (Below w.heap.size w w'))
   case atStart => exact ⟨(y1), (0), (by first | rfl | (simp; done) | (simp [*]; done)), H', ⟨Nat.le_refl _⟩, ⟨by (with_reducible repeat (first | apply Kd.R_alloc | apply Kd.R_drewN | apply Kd.R_drew)); exact HO3.out⟩, ⟨by repeat (first | (with_reducible first | exact HB.out | apply below_alloc | apply pw_below_drewN | apply below_drew1) | exact HB.out)⟩⟩
   case round =>
    clear H'
    try clear c2
    try clear p2
    try clear c3
    try clear c3b0
    try clear c3b1
    try clear c4
    try clear c4b0
    try clear c4b1
    obtain ⟨x5_1, x13_1, rfl, HA, HK1, HO_5, HB⟩ := hrel
    cases gk with
    | zero => exact absurd HA.out (by simp [q8z.l0])
    | succ k1 =>
     have H := HA.out
     clear HA
     simp only [q8z.l0] at H
     by_cases c7 : x13_1 < (l0.length : Int)
     ·
      rw [if_pos c7] at H
      have c7b0 : decide (x13_1 < (l0.length : Int)) = true := decide_eq_true c7
      clear c7
      by_cases c8 : 0 ≤ x13_1
      ·
       rw [if_pos c8] at H
       have c8b0 : decide (0 ≤ x13_1) = true := decide_eq_true c8
       clear c8
       by_cases c9 : x13_1 < (l0.length : Int)
       ·
        rw [if_pos c9] at H
        have c9b0 : decide (x13_1 < (l0.length : Int)) = true := decide_eq_true c9
        clear c9
        replace H := Option.bind_eq_some_iff.mp H
        obtain ⟨t6, A100, H⟩ := H
        replace H : (if t6 = true then (if x13_1 < (x5_1.length : Int) then (q8z.l0 k1 a1 (x5_1.set (x13_1 : Int).toNat 1) l0 (l0.length : Int) (wrap64 (x13_1 + 1))) else (none)) else (q8z.l0 k1 a1 x5_1 l0 (l0.length : Int) (wrap64 (x13_1 + 1)))) = some r := H
        have A10 := Aside0.mk A100
        clear A100
        by_cases c11 : t6 = true
        ·
         subst c11
         have H1 : (if x13_1 < (x5_1.length : Int) then (q8z.l0 k1 a1 (x5_1.set (x13_1 : Int).toNat 1) l0 (l0.length : Int) (wrap64 (x13_1 + 1))) else (none)) = some r := by rw [if_pos rfl] at H; exact H
         clear H
         have H := H1
         clear H1
         by_cases c12 : x13_1 < (x5_1.length : Int)
         ·
          rw [if_pos c12] at H
          have c12b0 : decide (x13_1 < (x5_1.length : Int)) = true := decide_eq_true c12
          clear c12
          obtain ⟨y7, hy7⟩ : ∃ y_ : List Int, y_ = (x5_1.set (x13_1 : Int).toNat 1) := ⟨_, rfl⟩
          replace H : (q8z.l0 k1 a1 y7 l0 (l0.length : Int) (wrap64 (x13_1 + 1))) = some r := by first | (rw [hy7]; with_reducible exact H) | (have H2_ := (Option.bind_some _ _).symm.trans H; rw [hy7]; with_reducible exact H2_) | (have H2_ := (Option.bind_some _ _).symm.trans H; with_reducible exact H2_) | with_reducible exact H | (rw [hy7]; exact H) | exact H
          have Ny7 := Aside0.mk hy7
          clear hy7
          have H' := Aside0.mk H
          clear H
          have p4 : 0 ≤ (x13_1 : Int) := of_decide_eq_true (by first | (with_reducible assumption) | assumption)
          have q4 : x13_1 < (l0.length : Int) := of_decide_eq_true (by first | (with_reducible assumption) | assumption)
          obtain ⟨ad4, e4, hx4_0, hx4_1⟩ := at_T24 HR0.out x13_1 p4 q4
          cases e4
          replace hx4_0 := (HB.out.cell (World.block_lt_of_cell? w _ hx4_0)).trans hx4_0
          replace hx4_1 := (HB.out.cell (World.block_lt_of_cell? w _ hx4_1)).trans hx4_1
          replace p4 := eq_true p4
          replace q4 := eq_true q4
          go_wp2_with (first | ((with_reducible refine gate_dst (N := 7) rfl ?_); refine box_event ?hg (N := 7) ?hd (cs := #[.int .u32 0, .int .u32 0]) (t := 24) ?hr ?_; (case hd => rfl); (case hg => rfl); (case hr => first | (go_simp; done) | (go_simp; rfl)); intro gb5 hg w14 hbox hb; have n0_ := Aside0.mk (Kd.R_below (by (with_reducible repeat (first | apply Kd.R_alloc | apply Kd.R_drewN | apply Kd.R_drew)); exact HO_5.out) hb); have n1_ := Aside0.mk (below_step (by repeat (first | (with_reducible first | exact HB.out | apply below_alloc | apply pw_below_drewN | apply below_drew1) | exact HB.out)) hb); have n2_ := Aside0.mk (hbox); have n3_ := Aside0.mk ((by rw [hg]; exact (below_size (by repeat (first | (with_reducible first | exact HB.out | apply below_alloc | apply pw_below_drewN | apply below_drew1) | exact HB.out))) : w.heap.size ≤ gb5)); have n4_ := Aside0.mk ((by rw [hg]; exact (below_size (by repeat (first | (with_reducible first | exact HB.out | apply below_alloc | apply pw_below_drewN | apply below_drew1) | exact HB.out))) : w.heap.size ≤ gb5)); clear HO_5; clear HB; have HO_5 := n0_; have HB := n1_; have BK5 := n2_; have GW5 := n3_; have GE5 := n4_; clear n0_ n1_ n2_ n3_ n4_; clear hb hbox hg; have hcz15_0 : w14.cell? ⟨gb5, 0, none⟩ = some (.int .u32 0) := (blk_cell BK5.out 0).trans rfl; have hcz15_1 : w14.cell? ⟨gb5, 1, none⟩ = some (.int .u32 0) := (blk_cell BK5.out 1).trans rfl; have hfz15_0 := blk_frozen BK5.out 0; have hfz15_1 := blk_frozen BK5.out 1) | ((with_reducible refine gate_callee (f := 11) rfl ?_); refine goesL_ (some 20) rfl rfl Try.func11 (by kernel_rfl) rfl #[.agg #[.int .u32 ((rd_T24 l0 x13_1).f0), .int .u32 ((rd_T24 l0 x13_1).f1)], .int .u32 a1] rfl (by (try simp only [List.map_toArray, List.map_cons, List.map_nil]); first | done | rfl | (simp only [List.length_drop, List.length_take]; rfl)) ?_; (with_reducible refine (plane_In.calls ((rd_T24 l0 x13_1).f0) ((rd_T24 l0 x13_1).f1) a1 true _ A10.out).mono ?_); rintro e w16 ⟨rfl, hb⟩; refine ⟨_, rfl, ?_⟩; have n0_ := Aside0.mk (Kd.R_below (by (with_reducible repeat (first | apply Kd.R_alloc | apply Kd.R_drewN | apply Kd.R_drew)); exact (Kd.R_mono (Kd.R_far (p := ⟨gb5, 1, none⟩) (Kd.R_far (p := ⟨gb5, 0, none⟩) (Kd.R_types HO_5.out BK5.out (by decide)) (fun _ hk => hk.2) (.int .u32 ((rd_T24 l0 x13_1).f0))) (fun _ hk => hk.2) (.int .u32 ((rd_T24 l0 x13_1).f1))) (fun _ h_ => h_.1))) hb); have n1_ := Aside0.mk (blk_below (g := gb5) (o := .cells #[.int .u32 ((rd_T24 l0 x13_1).f0), .int .u32 ((rd_T24 l0 x13_1).f1)] 24 (0, 0)) (by (with_reducible repeat (first | refine blk_drewN ?_ _ | refine blk_drew ?_ | refine blk_alloc ?_ _)); refine blk_put (cs := #[.int .u32 ((rd_T24 l0 x13_1).f0), .int .u32 0]) ?_ 1 _ rfl; (with_reducible repeat (first | refine blk_drewN ?_ _ | refine blk_drew ?_ | refine blk_alloc ?_ _)); refine blk_put (cs := #[.int .u32 0, .int .u32 0]) ?_ 0 _ rfl; (with_reducible repeat (first | refine blk_drewN ?_ _ | refine blk_drew ?_ | refine blk_alloc ?_ _)); exact BK5.out) hb); have n2_ := Aside0.mk (below_step (by repeat (first | (with_reducible first | exact HB.out | apply below_alloc | apply pw_below_drewN | apply below_drew1 | refine below_set ?_ GE5.out) | exact HB.out)) hb); clear HO_5; clear BK5; clear HB; have HO_5 := n0_; have BK5 := n1_; have HB := n2_; clear n0_ n1_ n2_; (try clear hb); (try clear hb2); (try clear hk); (try clear hi); have p13 : 0 ≤ (x13_1 : Int) := of_decide_eq_true (by first | (with_reducible assumption) | assumption); have q13 : (x13_1 : Int) < ((x5_1.length : Int) : Int) := of_decide_eq_true (by first | (with_reducible assumption) | assumption); obtain ⟨go13, co13, eo13, gb13, gl13, cl13, HG13⟩ := Kd.R_form HO_5.out (by omega); (first | cases eo13 | (injection eo13 with ea_ en_ ec_; (first | subst ea_ | (injection ea_ with ea_; subst ea_)); subst ec_; clear en_)); have GB13 := Aside0.mk gb13; have GG13 := Aside0.mk HG13; clear gb13 gl13 HG13; obtain ⟨hx13_0, hf13_0⟩ := Kd.R_celln 0 HO_5.out (x13_1 : Int) p13 q13; replace p13 := eq_true p13; replace q13 := eq_true q13; obtain ⟨hy17_, hz17_⟩ := Kd.R_celln 0 HO_5.out (x13_1 : Int) (of_decide_eq_true (by first | (with_reducible assumption) | assumption)) (of_decide_eq_true (by first | (with_reducible assumption) | assumption)); have HP17 := Kd.R_putg HO_5.out (x13_1 : Int) 1) | ((with_reducible refine gate_store (t := 5) (p := 23) rfl ?_); refine store_event (t := 5) (p := 23) (v := ?vo_w18) (w1 := (w16.setCell ⟨go13, (x13_1 : Int).toNat, none⟩ (.int .u8 1))) ?hg ?ho ?hn ?hr ?_; (case ho => rfl); (case hg => rfl); (case hn => rfl); (case hr => first | (go_simp; done) | (go_simp; rfl)); intro w18 hw; have hg : w16.grownBy w18 (some go13) := (by rw [hw]; exact HP17.2); have hp_ : Kd.R (Kd.int .u8) 5 w18 w.heap.size (fun _ => True) (.slice (some ⟨go13, 0, none⟩) x5_1.length co13) y7 := (by rw [hw, Ny7.out]; exact HP17.1); clear HP17; have n0_ := Aside0.mk (hp_); have n1_ := Aside0.mk (blk_grown (g := gb5) (o := .cells #[.int .u32 ((rd_T24 l0 x13_1).f0), .int .u32 ((rd_T24 l0 x13_1).f1)] 24 (0, 0)) (by (with_reducible repeat (first | refine blk_drewN ?_ _ | refine blk_drew ?_ | refine blk_alloc ?_ _)); exact BK5.out) hg (Kd.R_ne HO_5.out BK5.out (by decide))); have n2_ := Aside0.mk ((by rw [hw]; exact below_set (HB.out) GB13.out : Below w.heap.size w w18)); clear HO_5; clear BK5; clear HB; have HO_5 := n0_; have BK5 := n1_; have HB := n2_; clear n0_ n1_ n2_; clear hg hw hp_))
          go_roundg k1
          case measure => have := HK1.out; omega
          case rel => exact ⟨(y7), (wrap64 (x13_1 + 1)), (by first | rfl | (simp; done) | (simp [*]; done)), H', ⟨by have := HK1.out; omega⟩, ⟨by (with_reducible repeat (first | apply Kd.R_alloc | apply Kd.R_drewN | apply Kd.R_drew)); exact HO_5.out⟩, ⟨by repeat (first | (with_reducible first | exact HB.out | apply below_alloc | apply pw_below_drewN | apply below_drew1 | refine below_set ?_ GE5.out) | exact HB.out)⟩⟩
         ·
          rw [if_neg c12] at H
          exact absurd H (by simp)
        ·
         replace c11 := Bool.eq_false_iff.mpr c11
         subst c11
         have H1 : (q8z.l0 k1 a1 x5_1 l0 (l0.length : Int) (wrap64 (x13_1 + 1))) = some r := by rw [if_neg (show ¬ (false = true) by decide)] at H; exact H
         clear H
         have H := H1
         clear H1
         have H' := Aside0.mk H
         clear H
         have p4 : 0 ≤ (x13_1 : Int) := of_decide_eq_true (by first | (with_reducible assumption) | assumption)
         have q4 : x13_1 < (l0.length : Int) := of_decide_eq_true (by first | (with_reducible assumption) | assumption)
         obtain ⟨ad4, e4, hx4_0, hx4_1⟩ := at_T24 HR0.out x13_1 p4 q4
         cases e4
         replace hx4_0 := (HB.out.cell (World.block_lt_of_cell? w _ hx4_0)).trans hx4_0
         replace hx4_1 := (HB.out.cell (World.block_lt_of_cell? w _ hx4_1)).trans hx4_1
         replace p4 := eq_true p4
         replace q4 := eq_true q4
         go_wp2_with (first | ((with_reducible refine gate_dst (N := 7) rfl ?_); refine box_event ?hg (N := 7) ?hd (cs := #[.int .u32 0, .int .u32 0]) (t := 24) ?hr ?_; (case hd => rfl); (case hg => rfl); (case hr => first | (go_simp; done) | (go_simp; rfl)); intro gb5 hg w19 hbox hb; have n0_ := Aside0.mk (Kd.R_below (by (with_reducible repeat (first | apply Kd.R_alloc | apply Kd.R_drewN | apply Kd.R_drew)); exact HO_5.out) hb); have n1_ := Aside0.mk (below_step (by repeat (first | (with_reducible first | exact HB.out | apply below_alloc | apply pw_below_drewN | apply below_drew1) | exact HB.out)) hb); have n2_ := Aside0.mk (hbox); have n3_ := Aside0.mk ((by rw [hg]; exact (below_size (by repeat (first | (with_reducible first | exact HB.out | apply below_alloc | apply pw_below_drewN | apply below_drew1) | exact HB.out))) : w.heap.size ≤ gb5)); have n4_ := Aside0.mk ((by rw [hg]; exact (below_size (by repeat (first | (with_reducible first | exact HB.out | apply below_alloc | apply pw_below_drewN | apply below_drew1) | exact HB.out))) : w.heap.size ≤ gb5)); clear HO_5; clear HB; have HO_5 := n0_; have HB := n1_; have BK5 := n2_; have GW5 := n3_; have GE5 := n4_; clear n0_ n1_ n2_ n3_ n4_; clear hb hbox hg; have hcz20_0 : w19.cell? ⟨gb5, 0, none⟩ = some (.int .u32 0) := (blk_cell BK5.out 0).trans rfl; have hcz20_1 : w19.cell? ⟨gb5, 1, none⟩ = some (.int .u32 0) := (blk_cell BK5.out 1).trans rfl; have hfz20_0 := blk_frozen BK5.out 0; have hfz20_1 := blk_frozen BK5.out 1) | ((with_reducible refine gate_callee (f := 11) rfl ?_); refine goesL_ (some 20) rfl rfl Try.func11 (by kernel_rfl) rfl #[.agg #[.int .u32 ((rd_T24 l0 x13_1).f0), .int .u32 ((rd_T24 l0 x13_1).f1)], .int .u32 a1] rfl (by (try simp only [List.map_toArray, List.map_cons, List.map_nil]); first | done | rfl | (simp only [List.length_drop, List.length_take]; rfl)) ?_; (with_reducible refine (plane_In.calls ((rd_T24 l0 x13_1).f0) ((rd_T24 l0 x13_1).f1) a1 false _ A10.out).mono ?_); rintro e w21 ⟨rfl, hb⟩; refine ⟨_, rfl, ?_⟩; have n0_ := Aside0.mk (Kd.R_below (by (with_reducible repeat (first | apply Kd.R_alloc | apply Kd.R_drewN | apply Kd.R_drew)); exact (Kd.R_mono (Kd.R_far (p := ⟨gb5, 1, none⟩) (Kd.R_far (p := ⟨gb5, 0, none⟩) (Kd.R_types HO_5.out BK5.out (by decide)) (fun _ hk => hk.2) (.int .u32 ((rd_T24 l0 x13_1).f0))) (fun _ hk => hk.2) (.int .u32 ((rd_T24 l0 x13_1).f1))) (fun _ h_ => h_.1))) hb); have n1_ := Aside0.mk (blk_below (g := gb5) (o := .cells #[.int .u32 ((rd_T24 l0 x13_1).f0), .int .u32 ((rd_T24 l0 x13_1).f1)] 24 (0, 0)) (by (with_reducible repeat (first | refine blk_drewN ?_ _ | refine blk_drew ?_ | refine blk_alloc ?_ _)); refine blk_put (cs := #[.int .u32 ((rd_T24 l0 x13_1).f0), .int .u32 0]) ?_ 1 _ rfl; (with_reducible repeat (first | refine blk_drewN ?_ _ | refine blk_drew ?_ | refine blk_alloc ?_ _)); refine blk_put (cs := #[.int .u32 0, .int .u32 0]) ?_ 0 _ rfl; (with_reducible repeat (first | refine blk_drewN ?_ _ | refine blk_drew ?_ | refine blk_alloc ?_ _)); exact BK5.out) hb); have n2_ := Aside0.mk (below_step (by repeat (first | (with_reducible first | exact HB.out | apply below_alloc | apply pw_below_drewN | apply below_drew1 | refine below_set ?_ GE5.out) | exact HB.out)) hb); clear HO_5; clear BK5; clear HB; have HO_5 := n0_; have BK5 := n1_; have HB := n2_; clear n0_ n1_ n2_; (try clear hb); (try clear hb2); (try clear hk); (try clear hi)))
         go_roundg k1
         case measure => have := HK1.out; omega
         case rel => exact ⟨(x5_1), (wrap64 (x13_1 + 1)), (by first | rfl | (simp; done) | (simp [*]; done)), H', ⟨by have := HK1.out; omega⟩, ⟨by (with_reducible repeat (first | apply Kd.R_alloc | apply Kd.R_drewN | apply Kd.R_drew)); exact HO_5.out⟩, ⟨by repeat (first | (with_reducible first | exact HB.out | apply below_alloc | apply pw_below_drewN | apply below_drew1 | refine below_set ?_ GE5.out) | exact HB.out)⟩⟩
       ·
        rw [if_neg c9] at H
        exact absurd H (by simp)
      ·
       rw [if_neg c8] at H
       exact absurd H (by simp)
     ·
      rw [if_neg c7] at H
      have c7b0 : decide (x13_1 < (l0.length : Int)) = false := decide_eq_false c7
      clear c7
      obtain rfl := Option.some.inj H
      have hcv22 := own_string (P := Try.prog) Try.underlying58 Try.underlying5 Try.underlying9 (Kd.own_of_R HO_5.out)
      go_wp2
      go_ret
      exact ⟨by first | rfl | (simp [errW_none, errW_some] <;> rfl) | (simp [*, errW_none, errW_some] <;> rfl), by repeat (first | (with_reducible first | exact HB.out | apply below_alloc | apply pw_below_drewN | apply below_drew1) | exact HB.out)⟩
  ·
   rw [if_neg c4] at H
   exact absurd H (by simp)
 ·
  rw [if_neg c3] at H
  exact absurd H (by simp)

end Go.Proofs.Ytdkbfcogmlghfaa.P

namespace Go.Proofs.Ytdkbfcogmlghfaa.P
open Go.RowKit Go.Proofs.YtdkbfcogmlghfaaW.PrintWords Go.Proofs.YtdkbfcogmlghfaaW.PrintLast Go.Proofs.YtdkbfcogmlghfaaW.PrintMore
attribute [local go_sem] max2_int min2_int max_two min_two max_three min_three max_four min_four
set_option linter.unusedVariables false
set_option linter.unusedSimpArgs false

/-! ### plane_Cells: function 12 -/
def cells_half.l0 : Nat → List Int → List Int → List (S24) → Int → Int → Option (List Int × List Int)
  | 0, _, _, _, _, _ => none
  | k + 1, x4, x5, x23, x24, x25 => if x25 < x24 then (if 0 ≤ x25 then (if x25 < (x23.length : Int) then ((some (([(Int.tdiv ((rd_T24 x23 x25).f0) 65536) % 4294967296] : List Int) : List Int)).bind fun y11 => (if x4.length + y11.length < 35184372088832 then ((some (x4 ++ y11 : List Int)).bind fun y14 => ((some (([Int.tmod ((rd_T24 x23 x25).f0) 65536] : List Int) : List Int)).bind fun y17 => (if x5.length + y17.length < 35184372088832 then ((some (x5 ++ y17 : List Int)).bind fun y20 => (if (((Int.tdiv ((rd_T24 x23 x25).f1) 65536) + 1) % 4294967296) < 65536 then ((some (([((Int.tdiv ((rd_T24 x23 x25).f1) 65536) + 1) % 4294967296] : List Int) : List Int)).bind fun y23 => (if y14.length + y23.length < 35184372088832 then ((some (y14 ++ y23 : List Int)).bind fun y26 => (if (((Int.tmod ((rd_T24 x23 x25).f1) 65536) + 1) % 4294967296) < 65536 then ((some (([((Int.tmod ((rd_T24 x23 x25).f1) 65536) + 1) % 4294967296] : List Int) : List Int)).bind fun y29 => (if y20.length + y29.length < 35184372088832 then (cells_half.l0 k y26 (y20 ++ y29) x23 x24 (wrap64 (x25 + 1))) else (none))) else (cells_half.l0 k y26 y20 x23 x24 (wrap64 (x25 + 1))))) else (none))) else (if (((Int.tmod ((rd_T24 x23 x25).f1) 65536) + 1) % 4294967296) < 65536 then ((some (([((Int.tmod ((rd_T24 x23 x25).f1) 65536) + 1) % 4294967296] : List Int) : List Int)).bind fun y35 => (if y20.length + y35.length < 35184372088832 then (cells_half.l0 k y14 (y20 ++ y35) x23 x24 (wrap64 (x25 + 1))) else (none))) else (cells_half.l0 k y14 y20 x23 x24 (wrap64 (x25 + 1)))))) else (none)))) else (none))) else (none)) else (none)) else ((Sort_u32.f k x4).bind fun t7 => ((Sort_u32.f k x5).bind fun t8 => (some (t7, t8))))
def cells_half.f (k : Nat) (l0 : List (S24)) : Option (List Int × List Int) := cells_half.l0 k (([0] : List Int)) (([0] : List Int)) l0 (l0.length : Int) 0
theorem cells_half.mono_l : ∀ k, (∀ y0 y1 y2 y3 y4, LeO (cells_half.l0 k y0 y1 y2 y3 y4) (cells_half.l0 (k + 1) y0 y1 y2 y3 y4))
  | 0 => fun _ _ _ _ _ r h => by simp [cells_half.l0] at h
  | k + 1 => by
    have ih0 := cells_half.mono_l k
    · intro y0 y1 y2 y3 y4
      unfold cells_half.l0
      repeat' first
      | (with_reducible exact ih0 _ _ _ _ _)
      | (with_reducible exact Sort_u32.mono _ _)
      | (with_reducible exact LeO.refl _)
      | (with_reducible exact LeO.none _)
      | (with_reducible refine LeO.ite ?_ ?_)
      | (with_reducible refine LeO.bind ?_ (fun _ => ?_))
      | exact ih0 _ _ _ _ _
      | exact Sort_u32.mono _ _
      | exact LeO.none _
      | refine LeO.ite ?_ ?_
      | refine LeO.bind ?_ (fun _ => ?_)
theorem cells_half.mono : ∀ a0 k, LeO (cells_half.f k a0) (cells_half.f (k + 1) a0) := by
  intro a0 k
  have ih0 := cells_half.mono_l k
  unfold cells_half.f
  repeat' first
      | (with_reducible exact ih0 _ _ _ _ _)
      | (with_reducible exact Sort_u32.mono _ _)
      | (with_reducible exact LeO.refl _)
      | (with_reducible exact LeO.none _)
      | (with_reducible refine LeO.ite ?_ ?_)
      | (with_reducible refine LeO.bind ?_ (fun _ => ?_))
      | exact ih0 _ _ _ _ _
      | exact Sort_u32.mono _ _
      | exact LeO.none _
      | refine LeO.ite ?_ ?_
      | refine LeO.bind ?_ (fun _ => ?_)
def cells_half.T7 : Bool × List (List Nat × List Nat) := (true, [([], []), ([], []), ([1], [1]), ([2], [2]), ([3], [3]), ([0, 4], [0, 4]), ([], []), ([], []), ([7], [7]), ([8], [8]), ([9], [9]), ([6, 10, 5], [6, 10]), ([5, 11, 0, 1, 2, 3, 4, 5], [0, 5]), ([11, 12, 0, 1, 2, 3, 4, 5, 6, 7, 8, 9, 10, 11, 12], [6, 11])])
def cells_half.B7 : List Nat := [0, 0, 2, 6, 14, 31, 0, 0, 128, 384, 896, 2047, 4095, 8191]
theorem cells_half.tab7 : rtab .any (opsOf Try.f12 7) = cells_half.T7 := by kernel_rfl
theorem cells_half.bits7 : waitsOk cells_half.T7.2 cells_half.B7 = true := by kernel_rfl
/-- One row of cells: of each kind the first. -/
def cellsRow (k : Nat) (l : List S24) (x : Int) : List Int → List (List UInt8) → List Int → Option (List (List UInt8) × List Int)
  | [], seen, out => some (seen, out)
  | y :: r, seen, out => (q8z.f k l ((x * 65536 + y) % 4294967296)).bind fun kd => if kd.size ≤ 35184372088832 then (if decide (kd.data.toList ∈ seen) = true then cellsRow k l x r seen out else (if out.length < 35184372088832 then cellsRow k l x r (kd.data.toList :: seen) (out ++ [(x * 65536 + y) % 4294967296]) else none)) else none
def cellsAll (k : Nat) (l : List S24) (ys : List Int) : List Int → List (List UInt8) → List Int → Option (List Int)
  | [], _, out => some out
  | x :: r, seen, out => (Clone_u32.f ys).bind fun yc => (Compact_u32.f yc).bind fun yy => (cellsRow k l x yy seen out).bind fun t => cellsAll k l ys r t.1 t.2
def cellsTail (k : Nat) (l : List S24) (xs ys : List Int) : Option (List Int) := (Compact_u32.f xs).bind fun cx => cellsAll k l ys cx [] []
theorem rdN (l : List Int) (i : Nat) (h : i < l.length) : rd l (i : Int) = l[i] := by
  unfold rd
  rw [Int.toNat_natCast, List.getD_eq_getElem?_getD, List.getElem?_eq_getElem h]
  rfl
theorem R_fresh {α β : Type} {d : Kd α} {d' : Kd β} {e e' base : Nat} {W W2 : World} {u v vo : Value} {xs : List α} {xo : List β} (h : d.R e W2 base (fun k => some k = u.ownBlock ∨ W.heap.size ≤ k) v xs) (ho : d'.R e' W base (fun k => True ∧ some k ≠ u.ownBlock) vo xo) : d.R e W2 base (fun k => True ∧ some k ≠ vo.ownBlock) v xs :=
  Kd.R_mono h (fun k hk => ⟨trivial, fun he => by
    have q := (Kd.R_bound ho).1 k he.symm
    rcases hk with hk | hk
    · exact q.1.2 hk
    · have := q.2.2.1
      omega⟩)
theorem SetAt.keptP {w w' : World} {B : Nat} {seen : List (List UInt8)} {S : Nat → Prop} (h : SetAt w B seen) (hk : Kept w w' S) (hn : ¬ S B) : SetAt w' B seen := by
  obtain ⟨D, h1, h2, h3⟩ := h
  have hlt := h1.lt
  obtain ⟨es, clock, hb, F, hs, hD⟩ := h1
  exact ⟨D, ⟨es, clock, (hk.2 B hlt hn).trans hb, F, hs, hD⟩, h2, h3⟩
theorem Am {p : Prop} (h : p) : Aside0 p := Aside0.mk h
section
variable {α : Type} {d : Kd α} {e base : Nat} {ok : Nat → Prop} {w : World} {v : Value} {xs : List α}
theorem rA (h : d.R e w base ok v xs) (o : Obj) : d.R e (w.alloc o) base ok v xs := Kd.R_alloc h o
theorem rN (h : d.R e w base ok v xs) (n : Nat) : d.R e (w.drewN n) base ok v xs := Kd.R_drewN h n
theorem rD (h : d.R e w base ok v xs) : d.R e w.drew base ok v xs := Kd.R_drew h
theorem rM {ok' : Nat → Prop} (h : d.R e w base ok v xs) (hok : ∀ k, ok k → ok' k) : d.R e w base ok' v xs := Kd.R_mono h hok
theorem rL (h : d.R e w base ok v xs) : ∀ k, v.ownBlock = some k → k < w.heap.size := Kd.R_lt h
theorem lA {w W : World} (h : Below w.heap.size w W) (o : Obj) : Below w.heap.size w (W.alloc o) := below_alloc h o
theorem lN {B : Nat} {w W : World} (h : Below B w W) (n : Nat) : Below B w (W.drewN n) := pw_below_drewN h n
theorem lD {B : Nat} {w W : World} (h : Below B w W) : Below B w W.drew := below_drew1 h
end
end Go.Proofs.Ytdkbfcogmlghfaa.P
