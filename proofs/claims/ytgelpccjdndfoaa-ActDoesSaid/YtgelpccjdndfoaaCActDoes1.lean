/- Part of the proof of the law ActDoes: the functions that it reaches, by contract. -/
import Derived.Sort.LotD4
import Derived.Sort.Walk7
import Derived.Shelf.SlSortCmp.Xorshift
import Derived.Sort.Walk13a
import Derived.Sort.LotB
import Derived.Deep.Cut
import Derived.Sort.AssemblyPlain
import Derived.Lib.BitFns
import Derived.Lib.Hide
import Derived.Sort.WalkA14
import Derived.Test.YtgelpccjdndfoaaCActDoes0
set_option linter.unusedVariables false
set_option linter.unusedSimpArgs false
namespace Go.Proofs.Ytgelpccjdndfoaa.P
open Go.RowKit Go.Sort Go.Shelf Go.Lib
theorem scanS_go (d : Array Int) (b i k : Nat) (hk : k = i - 1) (h : i < b) (hl : (!ltInt d[i]! d[k]!) = true) : scanSorted ltInt d b i = scanSorted ltInt d b (i + 1) := by
  subst hk
  rw [scanSorted, if_pos (by rw [hl]; simp [h])]
theorem scanS_end (d : Array Int) (b i k : Nat) (hk : k = i - 1) (h : ¬ i < b ∨ (!ltInt d[i]! d[k]!) = false) : scanSorted ltInt d b i = i := by
  subst hk
  rw [scanSorted, if_neg (by rcases h with h | h <;> simp [h])]
theorem shD_stop (d : Array Int) (q k : Nat) (hk : q = k + 1) (h : (!ltInt d[q]! d[k]!) = true) : shiftDown ltInt q d = d := by
  subst hk
  rw [shiftDown, if_pos h]
theorem shD_go (d : Array Int) (q k : Nat) (hk : q = k + 1) (h : (!ltInt d[q]! d[k]!) = false) : shiftDown ltInt q d = shiftDown ltInt k (swp d q k) := by
  subst hk
  rw [shiftDown, if_neg (by rw [h]; simp)]
theorem shU_stop (d : Array Int) (b q k : Nat) (hk : k = q - 1) (hb : q < b) (h : (!ltInt d[q]! d[k]!) = true) : shiftUp ltInt b q d = d := by
  subst hk
  rw [shiftUp, if_pos hb, if_pos h]
theorem shU_go (d : Array Int) (b q k : Nat) (hk : k = q - 1) (hb : q < b) (h : (!ltInt d[q]! d[k]!) = false) : shiftUp ltInt b q d = shiftUp ltInt b (q + 1) (swp d q k) := by
  subst hk
  rw [shiftUp, if_pos hb, if_neg (by rw [h]; simp)]
theorem shU_end (d : Array Int) (b q : Nat) (hb : ¬ q < b) : shiftUp ltInt b q d = d := by rw [shiftUp, if_neg hb]
theorem part_true (a b s i p : Nat) (d : Array Int) (hp : p = scanSorted ltInt d b i) (hb : p = b) : partialIns ltInt a b (s + 1) i d = (d, true) := by
  subst hp
  unfold partialIns
  simp only [hb, if_true]
theorem part_false (a b s i p : Nat) (d : Array Int) (hp : p = scanSorted ltInt d b i) (hb : p ≠ b) (h : b - a < 50) : partialIns ltInt a b (s + 1) i d = (d, false) := by
  subst hp
  unfold partialIns
  simp only [if_neg hb, if_pos h]
theorem part_step (a b s i p pm : Nat) (d d2 d3 : Array Int) (hp : p = scanSorted ltInt d b i) (hpm : pm = p - 1) (hb : p ≠ b) (h : ¬ b - a < 50) (h2 : d2 = if p - a ≥ 2 then shiftDown ltInt pm (swp d p pm) else swp d p pm)
    (h3 : d3 = if b - p ≥ 2 then shiftUp ltInt b (p + 1) d2 else d2) : partialIns ltInt a b (s + 1) i d = partialIns ltInt a b s p d3 := by
  subst h3; subst h2; subst hpm; subst hp
  conv => lhs; unfold partialIns
  simp only [if_neg hb, if_neg h]
set_option maxHeartbeats 16000000 in
set_option maxRecDepth 100000 in
theorem partial_u32 (blk off cap a b : Nat) (d0 d : Array Int) (w0 w : World) (R : Row1 (.int .u32) w0 blk off d0) (hs : d.size = d0.size) (S : SW (.int .u32) w0 blk off d w) (hab : a < b) (hb : b ≤ d0.size) (hsz : d0.size < 4611686018427387904) :
    Calls Try.prog 79 #[.slice (some ⟨blk, off, none⟩) d0.size cap, .int .i64 a, .int .i64 b] w fun e w' =>
      e = .returned (.bool (partialInsertionSort ltInt d a b).2) ∧ SW (.int .u32) w0 blk off (partialInsertionSort ltInt d a b).1 w' ∧ (partialInsertionSort ltInt d a b).1.size = d0.size := by
  have S0 : Hid (SW (.int .u32) w0 blk off d w) := S
  clear S
  obtain ⟨Rr, hR⟩ : ∃ Rr, Rr = partialIns ltInt a b 5 (a + 1) d := ⟨_, rfl⟩
  have HP : Hid (partialInsertionSort ltInt d a b = Rr) := by rw [hR]; exact rfl
  have HR0 : Hid (Rr = partialIns ltInt a b 5 (a + 1) d) := hR
  clear hR
  go_enter Try.func79, Try.ntmps79
  go_wp2
  all_goals (try (exfalso; omega))
  go_loopw [7, 8, 9, 10] (fun v7 v8 v9 v10 wr => ∃ (i s : Nat) (dk : Array Int), v7 = .int .i64 i ∧ v8 = .int .i64 s ∧ s ≤ 5 ∧ a + 1 ≤ i ∧ i ≤ b ∧ dk.size = d0.size ∧ Hid (SW (.int .u32) w0 blk off dk wr) ∧ Hid (partialIns ltInt a b (5 - s) i dk = Rr))
    (fun v7 v8 v9 v10 _ => 5 - (intOf v8).toNat)
  case atStart => exact ⟨a + 1, 0, d, by go_num, rfl, by omega, by omega, by omega, hs, S0, HR0.out.symm⟩
  case round =>
    clear S0 HR0 hs
    obtain ⟨i, s, dk, rfl, rfl, hs5, hai, hib, hds, S1, HL⟩ := hrel
    by_cases hs4 : s < 5
    · have hs4z : (s : Int) < 5 := by omega
      go_wp2
      all_goals (try (exfalso; omega))
      go_loopw [7] (fun vi wr => ∃ p : Nat, vi = .int .i64 p ∧ i ≤ p ∧ p ≤ b ∧ Hid (SW (.int .u32) w0 blk off dk wr) ∧ Hid (scanSorted ltInt dk b p = scanSorted ltInt dk b i))
        (fun vi _ => b - (intOf vi).toNat)
      case atStart => exact ⟨i, rfl, Nat.le_refl _, hib, S1, rfl⟩
      case round =>
        clear S1
        obtain ⟨p, rfl, hip, hpb, S2, HU⟩ := hrel
        obtain ⟨pm, hpm⟩ : ∃ pm, pm = p - 1 := ⟨_, rfl⟩
        have ep : (p : Int) - 1 = (pm : Int) := by omega
        have hpn : p ≠ pm := by omega
        have hpml : pm < d0.size := by omega
        have HPM : Hid (pm = p - 1) := hpm
        by_cases hlt : p < b
        · clear hpm
          obtain ⟨G, hG, hc, hf⟩ := row_facts S2.out R hds
          have hpl : p < d0.size := by omega
          go_wp2_with fail
          go_big_quiet (first | (go_at_call 80; refine Calls.quiet_of_same (less_u32 _ _ _)))
          go_wp2
          · have ht : (!ltInt (G p) (G pm)) = true := by assumption
            go_roundw
            case rel => exact ⟨p + 1, by go_num, by omega, by omega, S2.out.drewN nq, (scanS_go dk b p pm HPM.out hlt (by rw [← hG.out p, ← hG.out pm]; exact ht)).symm.trans HU.out⟩
            case measure => simp [intOf]; omega
          · have h50 : b - a < 50 := by omega
            have ht : (!ltInt (G p) (G pm)) = false := by assumption
            have HI2 : Hid (p = scanSorted ltInt dk b i) := (scanS_end dk b p pm HPM.out (.inr (by rw [← hG.out p, ← hG.out pm]; exact ht))).symm.trans HU.out
            have S5 : Hid (SW (.int .u32) w0 blk off dk (wr.drewN nq)) := S2.out.drewN nq
            clear hc hf hG ht S2 HU
            generalize wr.drewN nq = w5 at S5 ⊢
            go_wp2
            go_ret
            have e := part_false a b (4 - s) i p dk HI2.out (by omega) h50
            have h := HL.out
            rw [show 5 - s = 4 - s + 1 from by omega, e] at h
            rw [HP.out, ← h]
            exact ⟨rfl, S5.out, hds⟩
          · have h50 : ¬ b - a < 50 := by omega
            have ht : (!ltInt (G p) (G pm)) = false := by assumption
            have HI2 : Hid (p = scanSorted ltInt dk b i) := (scanS_end dk b p pm HPM.out (.inr (by rw [← hG.out p, ← hG.out pm]; exact ht))).symm.trans HU.out
            have S5 : Hid (SW (.int .u32) w0 blk off dk (wr.drewN nq)) := S2.out.drewN nq
            clear hc hf hG ht S2 HU
            generalize wr.drewN nq = w5 at S5 ⊢
            have hdq := hds
            obtain ⟨G, hG, hc, hf⟩ := row_facts S5.out R hdq
            obtain ⟨u, hu⟩ := S5.out.c2 R hdq p pm (by omega) (by omega) (.int .u32 (G pm))
            have S6 : Hid (SW (.int .u32) w0 blk off (swp dk p pm) ((w5.setCell ⟨blk, off + p, none⟩ (.int .u32 (G pm))).setCell ⟨blk, off + pm, none⟩ (.int .u32 (G p))).drew) := by
              have := S5.out.swapped R p pm (by omega) (by omega)
              rw [← hG.out p, ← hG.out pm] at this
              exact this
            clear S5
            go_wp2
            all_goals (try (exfalso; omega))
            go_region
            all_goals go_wp2
            · have ha2 : 2 ≤ p - a := by omega
              clear hc hf hG hu
              generalize ((w5.setCell ⟨blk, off + p, none⟩ (.int .u32 (G pm))).setCell ⟨blk, off + pm, none⟩ (.int .u32 (G p))).drew = w6 at S6 ⊢
              obtain ⟨d1, hd1⟩ : ∃ d1, d1 = swp dk p pm := ⟨_, rfl⟩
              have hdq1 : d1.size = d0.size := by rw [hd1, size_swp]; exact hds
              rw [← hd1] at S6
              have HD1 : Hid (d1 = swp dk p pm) := hd1
              clear hd1 hdq
              go_loopw [9] (fun vq wr => ∃ (q : Nat) (dq : Array Int), vq = .int .i64 q ∧ q ≤ pm ∧ dq.size = d0.size ∧ Hid (SW (.int .u32) w0 blk off dq wr) ∧ Hid (shiftDown ltInt q dq = shiftDown ltInt pm d1))
                (fun vq _ => (intOf vq).toNat)
              case atStart => exact ⟨pm, d1, rfl, Nat.le_refl _, hdq1, S6, rfl⟩
              case round =>
                clear S6 hdq1
                obtain ⟨q, dq, rfl, hqp, hdq, S7, HQ⟩ := hrel
                by_cases hq1 : 1 ≤ q
                · obtain ⟨qm, hqm⟩ : ∃ qm, q = qm + 1 := ⟨q - 1, by omega⟩
                  have eq1 : (q : Int) - 1 = (qm : Int) := by omega
                  have hql : q < d0.size := by omega
                  have hqml : qm < d0.size := by omega
                  have hqn : q ≠ qm := by omega
                  have hq1z : (1 : Int) ≤ (q : Int) := by omega
                  have HQM : Hid (q = qm + 1) := hqm
                  clear hqm
                  obtain ⟨G, hG, hc, hf⟩ := row_facts S7.out R hdq
                  go_wp2_with fail
                  go_big_quiet (first | (go_at_call 80; refine Calls.quiet_of_same (less_u32 _ _ _)))
                  go_wp2
                  · have ht : (!ltInt (G q) (G qm)) = true := by assumption
                    have HDQ : Hid (dq = if p - a ≥ 2 then shiftDown ltInt pm (swp dk p pm) else swp dk p pm) := by
                      show dq = _
                      rw [if_pos ha2, ← HD1.out, ← HQ.out, shD_stop dq q qm HQM.out (by rw [← hG.out q, ← hG.out qm]; exact ht)]
                    have S5 : Hid (SW (.int .u32) w0 blk off dq (wr.drewN nq)) := S7.out.drewN nq
                    clear hc hf hG ht S7 HQ
                    generalize wr.drewN nq = w7 at S5 ⊢
                    have hb2 : 2 ≤ b - p := by omega
                    obtain ⟨d2, hd2⟩ : ∃ d2, d2 = dq := ⟨_, rfl⟩
                    rw [← hd2] at S5 HDQ
                    have hdq2 : d2.size = d0.size := by rw [hd2]; exact hdq
                    have HD2 : Hid (d2 = if p - a ≥ 2 then shiftDown ltInt pm (swp dk p pm) else swp dk p pm) := HDQ
                    clear hd2 HDQ
                    go_loopw [10] (fun vr wr => ∃ (r : Nat) (dr : Array Int), vr = .int .i64 r ∧ p + 1 ≤ r ∧ r ≤ b ∧ dr.size = d0.size ∧ Hid (SW (.int .u32) w0 blk off dr wr) ∧ Hid (shiftUp ltInt b r dr = shiftUp ltInt b (p + 1) d2))
                      (fun vr _ => b - (intOf vr).toNat)
                    case atStart => exact ⟨p + 1, d2, by go_num, Nat.le_refl _, by omega, hdq2, S5, rfl⟩
                    case round =>
                      clear S5 hdq2
                      obtain ⟨r, dr, rfl, hpr, hrb, hdr, S7, HR⟩ := hrel
                      by_cases hrlt : r < b
                      · obtain ⟨G, hG, hc, hf⟩ := row_facts S7.out R hdr
                        obtain ⟨rm, hrm⟩ : ∃ rm, rm = r - 1 := ⟨_, rfl⟩
                        have er : (r : Int) - 1 = (rm : Int) := by omega
                        have hrl : r < d0.size := by omega
                        have hrml : rm < d0.size := by omega
                        have hrn : r ≠ rm := by omega
                        have HRM : Hid (rm = r - 1) := hrm
                        clear hrm
                        go_wp2_with fail
                        go_big_quiet (first | (go_at_call 80; refine Calls.quiet_of_same (less_u32 _ _ _)))
                        go_wp2
                        · have ht : (!ltInt (G r) (G rm)) = true := by assumption
                          have S5 : Hid (SW (.int .u32) w0 blk off dr (wr.drewN nq)) := S7.out.drewN nq
                          have hdz := hdr
                          have HZ : Hid (dr = if b - p ≥ 2 then shiftUp ltInt b (p + 1) d2 else d2) := by
                            show dr = _
                            rw [if_pos hb2, ← HR.out, shU_stop dr b r rm HRM.out hrlt (by rw [← hG.out r, ← hG.out rm]; exact ht)]
                          have HD3 : Hid (dr = if b - p ≥ 2 then shiftUp ltInt b (p + 1) d2 else d2) := HZ
                          go_roundw
                          case rel =>
                            refine ⟨p, s + 1, dr, rfl, by go_num, by omega, by omega, by omega, hdz, S5, ?_⟩
                            have e := part_step a b (4 - s) i p pm dk d2 dr HI2.out HPM.out (by omega) h50 HD2.out HD3.out
                            have h := HL.out
                            rw [show 5 - s = 4 - s + 1 from by omega, e] at h
                            show _ = _
                            rw [← h, show 5 - (s + 1) = 4 - s from by omega]
                          case measure => simp [intOf]; omega
                        · have ht : (!ltInt (G r) (G rm)) = false := by assumption
                          have HT : Hid (shiftUp ltInt b r dr = shiftUp ltInt b (r + 1) (swp dr r rm)) := shU_go dr b r rm HRM.out hrlt (by rw [← hG.out r, ← hG.out rm]; exact ht)
                          have S5 : Hid (SW (.int .u32) w0 blk off dr (wr.drewN nq)) := S7.out.drewN nq
                          clear hc hf hG ht S7
                          generalize wr.drewN nq = w7 at S5 ⊢
                          have hdq := hdr
                          obtain ⟨G, hG, hc, hf⟩ := row_facts S5.out R hdq
                          obtain ⟨u, hu⟩ := S5.out.c2 R hdq r rm (by omega) (by omega) (.int .u32 (G rm))
                          have S8 : Hid (SW (.int .u32) w0 blk off (swp dr r rm) ((w7.setCell ⟨blk, off + r, none⟩ (.int .u32 (G rm))).setCell ⟨blk, off + rm, none⟩ (.int .u32 (G r))).drew) := by
                            have := S5.out.swapped R r rm (by omega) (by omega)
                            rw [← hG.out r, ← hG.out rm] at this
                            exact this
                          clear S5
                          go_wp2
                          all_goals (try (exfalso; omega))
                          go_region
                          all_goals go_wp2
                          go_roundw
                          case rel => exact ⟨r + 1, swp dr r rm, by go_num, by omega, by omega, by rw [size_swp]; exact hdr, S8, HT.out.symm.trans HR.out⟩
                          case measure => simp [intOf]; omega
                      · have HZ : Hid (dr = if b - p ≥ 2 then shiftUp ltInt b (p + 1) d2 else d2) := by
                          show dr = _
                          rw [if_pos hb2, ← HR.out, shU_end dr b r hrlt]
                        have S5 := S7
                        have hdz := hdr
                        go_wp2
                        all_goals (try (exfalso; omega))
                        have HD3 : Hid (dr = if b - p ≥ 2 then shiftUp ltInt b (p + 1) d2 else d2) := HZ
                        go_roundw
                        case rel =>
                          refine ⟨p, s + 1, dr, rfl, by go_num, by omega, by omega, by omega, hdz, S5, ?_⟩
                          have e := part_step a b (4 - s) i p pm dk d2 dr HI2.out HPM.out (by omega) h50 HD2.out HD3.out
                          have h := HL.out
                          rw [show 5 - s = 4 - s + 1 from by omega, e] at h
                          show _ = _
                          rw [← h, show 5 - (s + 1) = 4 - s from by omega]
                        case measure => simp [intOf]; omega
                  · have ht : (!ltInt (G q) (G qm)) = true := by assumption
                    have HDQ : Hid (dq = if p - a ≥ 2 then shiftDown ltInt pm (swp dk p pm) else swp dk p pm) := by
                      show dq = _
                      rw [if_pos ha2, ← HD1.out, ← HQ.out, shD_stop dq q qm HQM.out (by rw [← hG.out q, ← hG.out qm]; exact ht)]
                    have S5 : Hid (SW (.int .u32) w0 blk off dq (wr.drewN nq)) := S7.out.drewN nq
                    clear hc hf hG ht S7 HQ
                    generalize wr.drewN nq = w7 at S5 ⊢
                    have hb2 : ¬ 2 ≤ b - p := by omega
                    obtain ⟨d2, hd2⟩ : ∃ d2, d2 = dq := ⟨_, rfl⟩
                    rw [← hd2] at S5 HDQ
                    have hdq2 : d2.size = d0.size := by rw [hd2]; exact hdq
                    have HD2 : Hid (d2 = if p - a ≥ 2 then shiftDown ltInt pm (swp dk p pm) else swp dk p pm) := HDQ
                    clear hd2 HDQ
                    have HZ : Hid (d2 = if b - p ≥ 2 then shiftUp ltInt b (p + 1) d2 else d2) := by
                      show d2 = _
                      rw [if_neg (by omega)]
                    have hdz := hdq2
                    have HD3 : Hid (d2 = if b - p ≥ 2 then shiftUp ltInt b (p + 1) d2 else d2) := HZ
                    go_roundw
                    case rel =>
                      refine ⟨p, s + 1, d2, rfl, by go_num, by omega, by omega, by omega, hdz, S5, ?_⟩
                      have e := part_step a b (4 - s) i p pm dk d2 d2 HI2.out HPM.out (by omega) h50 HD2.out HD3.out
                      have h := HL.out
                      rw [show 5 - s = 4 - s + 1 from by omega, e] at h
                      show _ = _
                      rw [← h, show 5 - (s + 1) = 4 - s from by omega]
                    case measure => simp [intOf]; omega
                  · have ht : (!ltInt (G q) (G qm)) = false := by assumption
                    have HT : Hid (shiftDown ltInt q dq = shiftDown ltInt qm (swp dq q qm)) := shD_go dq q qm HQM.out (by rw [← hG.out q, ← hG.out qm]; exact ht)
                    have S5 : Hid (SW (.int .u32) w0 blk off dq (wr.drewN nq)) := S7.out.drewN nq
                    clear hc hf hG ht S7
                    generalize wr.drewN nq = w7 at S5 ⊢
                    obtain ⟨G, hG, hc, hf⟩ := row_facts S5.out R hdq
                    obtain ⟨u, hu⟩ := S5.out.c2 R hdq q qm (by omega) (by omega) (.int .u32 (G qm))
                    have S8 : Hid (SW (.int .u32) w0 blk off (swp dq q qm) ((w7.setCell ⟨blk, off + q, none⟩ (.int .u32 (G qm))).setCell ⟨blk, off + qm, none⟩ (.int .u32 (G q))).drew) := by
                      have := S5.out.swapped R q qm (by omega) (by omega)
                      rw [← hG.out q, ← hG.out qm] at this
                      exact this
                    clear S5
                    go_wp2
                    all_goals (try (exfalso; omega))
                    go_region
                    all_goals go_wp2
                    go_roundw
                    case rel => exact ⟨qm, swp dq q qm, rfl, by omega, by rw [size_swp]; exact hdq, S8, HT.out.symm.trans HQ.out⟩
                    case measure => simp [intOf]; have := HQM.out; omega
                · have HDQ : Hid (dq = if p - a ≥ 2 then shiftDown ltInt pm (swp dk p pm) else swp dk p pm) := by
                    show dq = _
                    rw [if_pos ha2, ← HD1.out, ← HQ.out, show q = 0 from by omega]
                    exact rfl
                  have S5 := S7
                  clear S7 HQ
                  go_wp2
                  all_goals (try (exfalso; omega))
                  · have hb2 : 2 ≤ b - p := by omega
                    obtain ⟨d2, hd2⟩ : ∃ d2, d2 = dq := ⟨_, rfl⟩
                    rw [← hd2] at S5 HDQ
                    have hdq2 : d2.size = d0.size := by rw [hd2]; exact hdq
                    have HD2 : Hid (d2 = if p - a ≥ 2 then shiftDown ltInt pm (swp dk p pm) else swp dk p pm) := HDQ
                    clear hd2 HDQ
                    go_loopw [10] (fun vr wr => ∃ (r : Nat) (dr : Array Int), vr = .int .i64 r ∧ p + 1 ≤ r ∧ r ≤ b ∧ dr.size = d0.size ∧ Hid (SW (.int .u32) w0 blk off dr wr) ∧ Hid (shiftUp ltInt b r dr = shiftUp ltInt b (p + 1) d2))
                      (fun vr _ => b - (intOf vr).toNat)
                    case atStart => exact ⟨p + 1, d2, by go_num, Nat.le_refl _, by omega, hdq2, S5, rfl⟩
                    case round =>
                      clear S5 hdq2
                      obtain ⟨r, dr, rfl, hpr, hrb, hdr, S7, HR⟩ := hrel
                      by_cases hrlt : r < b
                      · obtain ⟨G, hG, hc, hf⟩ := row_facts S7.out R hdr
                        obtain ⟨rm, hrm⟩ : ∃ rm, rm = r - 1 := ⟨_, rfl⟩
                        have er : (r : Int) - 1 = (rm : Int) := by omega
                        have hrl : r < d0.size := by omega
                        have hrml : rm < d0.size := by omega
                        have hrn : r ≠ rm := by omega
                        have HRM : Hid (rm = r - 1) := hrm
                        clear hrm
                        go_wp2_with fail
                        go_big_quiet (first | (go_at_call 80; refine Calls.quiet_of_same (less_u32 _ _ _)))
                        go_wp2
                        · have ht : (!ltInt (G r) (G rm)) = true := by assumption
                          have S5 : Hid (SW (.int .u32) w0 blk off dr (wr.drewN nq)) := S7.out.drewN nq
                          have hdz := hdr
                          have HZ : Hid (dr = if b - p ≥ 2 then shiftUp ltInt b (p + 1) d2 else d2) := by
                            show dr = _
                            rw [if_pos hb2, ← HR.out, shU_stop dr b r rm HRM.out hrlt (by rw [← hG.out r, ← hG.out rm]; exact ht)]
                          have HD3 : Hid (dr = if b - p ≥ 2 then shiftUp ltInt b (p + 1) d2 else d2) := HZ
                          go_roundw
                          case rel =>
                            refine ⟨p, s + 1, dr, rfl, by go_num, by omega, by omega, by omega, hdz, S5, ?_⟩
                            have e := part_step a b (4 - s) i p pm dk d2 dr HI2.out HPM.out (by omega) h50 HD2.out HD3.out
                            have h := HL.out
                            rw [show 5 - s = 4 - s + 1 from by omega, e] at h
                            show _ = _
                            rw [← h, show 5 - (s + 1) = 4 - s from by omega]
                          case measure => simp [intOf]; omega
                        · have ht : (!ltInt (G r) (G rm)) = false := by assumption
                          have HT : Hid (shiftUp ltInt b r dr = shiftUp ltInt b (r + 1) (swp dr r rm)) := shU_go dr b r rm HRM.out hrlt (by rw [← hG.out r, ← hG.out rm]; exact ht)
                          have S5 : Hid (SW (.int .u32) w0 blk off dr (wr.drewN nq)) := S7.out.drewN nq
                          clear hc hf hG ht S7
                          generalize wr.drewN nq = w7 at S5 ⊢
                          have hdq := hdr
                          obtain ⟨G, hG, hc, hf⟩ := row_facts S5.out R hdq
                          obtain ⟨u, hu⟩ := S5.out.c2 R hdq r rm (by omega) (by omega) (.int .u32 (G rm))
                          have S8 : Hid (SW (.int .u32) w0 blk off (swp dr r rm) ((w7.setCell ⟨blk, off + r, none⟩ (.int .u32 (G rm))).setCell ⟨blk, off + rm, none⟩ (.int .u32 (G r))).drew) := by
                            have := S5.out.swapped R r rm (by omega) (by omega)
                            rw [← hG.out r, ← hG.out rm] at this
                            exact this
                          clear S5
                          go_wp2
                          all_goals (try (exfalso; omega))
                          go_region
                          all_goals go_wp2
                          go_roundw
                          case rel => exact ⟨r + 1, swp dr r rm, by go_num, by omega, by omega, by rw [size_swp]; exact hdr, S8, HT.out.symm.trans HR.out⟩
                          case measure => simp [intOf]; omega
                      · have HZ : Hid (dr = if b - p ≥ 2 then shiftUp ltInt b (p + 1) d2 else d2) := by
                          show dr = _
                          rw [if_pos hb2, ← HR.out, shU_end dr b r hrlt]
                        have S5 := S7
                        have hdz := hdr
                        go_wp2
                        all_goals (try (exfalso; omega))
                        have HD3 : Hid (dr = if b - p ≥ 2 then shiftUp ltInt b (p + 1) d2 else d2) := HZ
                        go_roundw
                        case rel =>
                          refine ⟨p, s + 1, dr, rfl, by go_num, by omega, by omega, by omega, hdz, S5, ?_⟩
                          have e := part_step a b (4 - s) i p pm dk d2 dr HI2.out HPM.out (by omega) h50 HD2.out HD3.out
                          have h := HL.out
                          rw [show 5 - s = 4 - s + 1 from by omega, e] at h
                          show _ = _
                          rw [← h, show 5 - (s + 1) = 4 - s from by omega]
                        case measure => simp [intOf]; omega
                  · have hb2 : ¬ 2 ≤ b - p := by omega
                    obtain ⟨d2, hd2⟩ : ∃ d2, d2 = dq := ⟨_, rfl⟩
                    rw [← hd2] at S5 HDQ
                    have hdq2 : d2.size = d0.size := by rw [hd2]; exact hdq
                    have HD2 : Hid (d2 = if p - a ≥ 2 then shiftDown ltInt pm (swp dk p pm) else swp dk p pm) := HDQ
                    clear hd2 HDQ
                    have HZ : Hid (d2 = if b - p ≥ 2 then shiftUp ltInt b (p + 1) d2 else d2) := by
                      show d2 = _
                      rw [if_neg (by omega)]
                    have hdz := hdq2
                    have HD3 : Hid (d2 = if b - p ≥ 2 then shiftUp ltInt b (p + 1) d2 else d2) := HZ
                    go_roundw
                    case rel =>
                      refine ⟨p, s + 1, d2, rfl, by go_num, by omega, by omega, by omega, hdz, S5, ?_⟩
                      have e := part_step a b (4 - s) i p pm dk d2 d2 HI2.out HPM.out (by omega) h50 HD2.out HD3.out
                      have h := HL.out
                      rw [show 5 - s = 4 - s + 1 from by omega, e] at h
                      show _ = _
                      rw [← h, show 5 - (s + 1) = 4 - s from by omega]
                    case measure => simp [intOf]; omega
            · clear hc hf hG hu
              generalize ((w5.setCell ⟨blk, off + p, none⟩ (.int .u32 (G pm))).setCell ⟨blk, off + pm, none⟩ (.int .u32 (G p))).drew = w6 at S6 ⊢
              obtain ⟨d1, hd1⟩ : ∃ d1, d1 = swp dk p pm := ⟨_, rfl⟩
              have hdq1 : d1.size = d0.size := by rw [hd1, size_swp]; exact hds
              rw [← hd1] at S6
              have HD1 : Hid (d1 = swp dk p pm) := hd1
              clear hd1 hdq
              have ha2 : ¬ 2 ≤ p - a := by omega
              have HDQ : Hid (d1 = if p - a ≥ 2 then shiftDown ltInt pm (swp dk p pm) else swp dk p pm) := by
                show d1 = _
                rw [if_neg (by omega)]
                exact HD1.out
              have S5 := S6
              have hdq := hdq1
              clear S6 hdq1
              have hb2 : 2 ≤ b - p := by omega
              obtain ⟨d2, hd2⟩ : ∃ d2, d2 = d1 := ⟨_, rfl⟩
              rw [← hd2] at S5 HDQ
              have hdq2 : d2.size = d0.size := by rw [hd2]; exact hdq
              have HD2 : Hid (d2 = if p - a ≥ 2 then shiftDown ltInt pm (swp dk p pm) else swp dk p pm) := HDQ
              clear hd2 HDQ
              go_loopw [10] (fun vr wr => ∃ (r : Nat) (dr : Array Int), vr = .int .i64 r ∧ p + 1 ≤ r ∧ r ≤ b ∧ dr.size = d0.size ∧ Hid (SW (.int .u32) w0 blk off dr wr) ∧ Hid (shiftUp ltInt b r dr = shiftUp ltInt b (p + 1) d2))
                (fun vr _ => b - (intOf vr).toNat)
              case atStart => exact ⟨p + 1, d2, by go_num, Nat.le_refl _, by omega, hdq2, S5, rfl⟩
              case round =>
                clear S5 hdq2
                obtain ⟨r, dr, rfl, hpr, hrb, hdr, S7, HR⟩ := hrel
                by_cases hrlt : r < b
                · obtain ⟨G, hG, hc, hf⟩ := row_facts S7.out R hdr
                  obtain ⟨rm, hrm⟩ : ∃ rm, rm = r - 1 := ⟨_, rfl⟩
                  have er : (r : Int) - 1 = (rm : Int) := by omega
                  have hrl : r < d0.size := by omega
                  have hrml : rm < d0.size := by omega
                  have hrn : r ≠ rm := by omega
                  have HRM : Hid (rm = r - 1) := hrm
                  clear hrm
                  go_wp2_with fail
                  go_big_quiet (first | (go_at_call 80; refine Calls.quiet_of_same (less_u32 _ _ _)))
                  go_wp2
                  · have ht : (!ltInt (G r) (G rm)) = true := by assumption
                    have S5 : Hid (SW (.int .u32) w0 blk off dr (wr.drewN nq)) := S7.out.drewN nq
                    have hdz := hdr
                    have HZ : Hid (dr = if b - p ≥ 2 then shiftUp ltInt b (p + 1) d2 else d2) := by
                      show dr = _
                      rw [if_pos hb2, ← HR.out, shU_stop dr b r rm HRM.out hrlt (by rw [← hG.out r, ← hG.out rm]; exact ht)]
                    have HD3 : Hid (dr = if b - p ≥ 2 then shiftUp ltInt b (p + 1) d2 else d2) := HZ
                    go_roundw
                    case rel =>
                      refine ⟨p, s + 1, dr, rfl, by go_num, by omega, by omega, by omega, hdz, S5, ?_⟩
                      have e := part_step a b (4 - s) i p pm dk d2 dr HI2.out HPM.out (by omega) h50 HD2.out HD3.out
                      have h := HL.out
                      rw [show 5 - s = 4 - s + 1 from by omega, e] at h
                      show _ = _
                      rw [← h, show 5 - (s + 1) = 4 - s from by omega]
                    case measure => simp [intOf]; omega
                  · have ht : (!ltInt (G r) (G rm)) = false := by assumption
                    have HT : Hid (shiftUp ltInt b r dr = shiftUp ltInt b (r + 1) (swp dr r rm)) := shU_go dr b r rm HRM.out hrlt (by rw [← hG.out r, ← hG.out rm]; exact ht)
                    have S5 : Hid (SW (.int .u32) w0 blk off dr (wr.drewN nq)) := S7.out.drewN nq
                    clear hc hf hG ht S7
                    generalize wr.drewN nq = w7 at S5 ⊢
                    have hdq := hdr
                    obtain ⟨G, hG, hc, hf⟩ := row_facts S5.out R hdq
                    obtain ⟨u, hu⟩ := S5.out.c2 R hdq r rm (by omega) (by omega) (.int .u32 (G rm))
                    have S8 : Hid (SW (.int .u32) w0 blk off (swp dr r rm) ((w7.setCell ⟨blk, off + r, none⟩ (.int .u32 (G rm))).setCell ⟨blk, off + rm, none⟩ (.int .u32 (G r))).drew) := by
                      have := S5.out.swapped R r rm (by omega) (by omega)
                      rw [← hG.out r, ← hG.out rm] at this
                      exact this
                    clear S5
                    go_wp2
                    all_goals (try (exfalso; omega))
                    go_region
                    all_goals go_wp2
                    go_roundw
                    case rel => exact ⟨r + 1, swp dr r rm, by go_num, by omega, by omega, by rw [size_swp]; exact hdr, S8, HT.out.symm.trans HR.out⟩
                    case measure => simp [intOf]; omega
                · have HZ : Hid (dr = if b - p ≥ 2 then shiftUp ltInt b (p + 1) d2 else d2) := by
                    show dr = _
                    rw [if_pos hb2, ← HR.out, shU_end dr b r hrlt]
                  have S5 := S7
                  have hdz := hdr
                  go_wp2
                  all_goals (try (exfalso; omega))
                  have HD3 : Hid (dr = if b - p ≥ 2 then shiftUp ltInt b (p + 1) d2 else d2) := HZ
                  go_roundw
                  case rel =>
                    refine ⟨p, s + 1, dr, rfl, by go_num, by omega, by omega, by omega, hdz, S5, ?_⟩
                    have e := part_step a b (4 - s) i p pm dk d2 dr HI2.out HPM.out (by omega) h50 HD2.out HD3.out
                    have h := HL.out
                    rw [show 5 - s = 4 - s + 1 from by omega, e] at h
                    show _ = _
                    rw [← h, show 5 - (s + 1) = 4 - s from by omega]
                  case measure => simp [intOf]; omega
        · have HI2 : Hid (p = scanSorted ltInt dk b i) := (scanS_end dk b p pm hpm (.inl hlt)).symm.trans HU.out
          have hpe : p = b := by omega
          clear hpm
          go_wp2_with fail
          go_big_quiet (fail)
          have S5 : Hid (SW (.int .u32) w0 blk off dk (wr.drewN nq)) := S2.out.drewN nq
          clear S2 HU
          generalize wr.drewN nq = w5 at S5 ⊢
          have hpez : (p : Int) = (b : Int) := by omega
          go_wp2
          all_goals (try (exfalso; omega))
          go_ret
          have e := part_true a b (4 - s) i p dk HI2.out hpe
          have h := HL.out
          rw [show 5 - s = 4 - s + 1 from by omega, e] at h
          rw [HP.out, ← h]
          exact ⟨rfl, S5.out, hds⟩
    · have hs4z : decide ((s : Int) < 5) = false := decide_eq_false (by omega)
      go_wp2
      all_goals (try (exfalso; omega))
      go_ret
      have h := HL.out
      rw [show 5 - s = 0 from by omega] at h
      rw [HP.out, ← h]
      exact ⟨rfl, S1.out, hds⟩
theorem cnt_drewN {w0 W : World} {blk off c s : Nat} {dk : Array Int} (h : Cnt1 (.int .u32) w0 blk off dk c s W) (n : Nat) : Cnt1 (.int .u32) w0 blk off dk c s (W.drewN n) := by
  have := h.grown n #[]
  rwa [grow_empty] at this
set_option maxHeartbeats 4000000 in
set_option maxRecDepth 100000 in
theorem order2_u32 (blk off cap a b c s p q t : Nat) (d0 dk : Array Int) (w0 w : World) (R : Row1 (.int .u32) w0 blk off d0) (hs : dk.size = d0.size) (C : Cnt1 (.int .u32) w0 blk off dk c s w) (ha : a < d0.size) (hb : b < d0.size) (hs9 : s < 1000) (hsz : d0.size < 4611686018427387904)
    (hr : order2 ltInt dk a b s = (p, q, t)) :
    Calls Try.prog 96 #[.slice (some ⟨blk, off, none⟩) d0.size cap, .int .i64 a, .int .i64 b, .pointer (some ⟨c, 0, none⟩)] w fun e w' => e = .returned (.tuple #[.int .i64 p, .int .i64 q]) ∧ Cnt1 (.int .u32) w0 blk off dk c t w' := by
  obtain ⟨G, hG, hc, hf⟩ := row_facts C.1 R hs
  have hcc := C.2.1
  have hcf := C.2.2.1
  have C0 : Hid (Cnt1 (.int .u32) w0 blk off dk c s w) := C
  have HR : Hid (order2 ltInt dk a b s = (p, q, t)) := hr
  clear C hr
  go_enter Try.func96, Try.ntmps96
  go_wp2_with fail
  go_big_quiet (first | (go_at_call 80; refine Calls.quiet_of_same (less_u32 _ _ _)))
  go_wp2
  · have ht : ltInt (G b) (G a) = true := by assumption
    have e := HR.out
    unfold order2 at e
    rw [← hG.out b, ← hG.out a, if_pos ht] at e
    obtain ⟨rfl, e2⟩ := Prod.mk.inj e
    obtain ⟨rfl, rfl⟩ := Prod.mk.inj e2
    go_ret2
    refine ⟨rfl, ?_⟩
    have := (cnt_drewN C0.out nq).bump (s + 1)
    simpa using this
  · have ht : ltInt (G b) (G a) = false := by assumption
    have e := HR.out
    unfold order2 at e
    rw [← hG.out b, ← hG.out a, if_neg (by rw [ht]; simp)] at e
    obtain ⟨rfl, e2⟩ := Prod.mk.inj e
    obtain ⟨rfl, rfl⟩ := Prod.mk.inj e2
    go_ret2
    exact ⟨rfl, cnt_drewN C0.out nq⟩
theorem order2_in (dk : Array Int) (a b s p q t : Nat) (hr : order2 ltInt dk a b s = (p, q, t)) : ((p = a ∧ q = b) ∨ (p = b ∧ q = a)) ∧ t ≤ s + 1 := by
  have h1 := order2_mem ltInt dk a b s
  have h2 := order2_count (lt := ltInt) dk a b s
  rw [hr] at h1 h2
  exact ⟨h1, h2⟩
set_option maxHeartbeats 4000000 in
set_option maxRecDepth 100000 in
theorem median_u32 (blk off cap a b e0 c s m t : Nat) (d0 dk : Array Int) (w0 w : World) (R : Row1 (.int .u32) w0 blk off d0) (hs : dk.size = d0.size) (C : Cnt1 (.int .u32) w0 blk off dk c s w) (ha : a < d0.size) (hb : b < d0.size) (he : e0 < d0.size) (hs9 : s < 900) (hsz : d0.size < 4611686018427387904)
    (hr : median ltInt dk a b e0 s = (m, t)) :
    Calls Try.prog 93 #[.slice (some ⟨blk, off, none⟩) d0.size cap, .int .i64 a, .int .i64 b, .int .i64 e0, .pointer (some ⟨c, 0, none⟩)] w fun e w' => e = .returned (.int .i64 m) ∧ Cnt1 (.int .u32) w0 blk off dk c t w' := by
  obtain ⟨⟨p1, q1, s1⟩, h1⟩ : ∃ r, order2 ltInt dk a b s = r := ⟨_, rfl⟩
  obtain ⟨⟨p2, q2, s2⟩, h2⟩ : ∃ r, order2 ltInt dk q1 e0 s1 = r := ⟨_, rfl⟩
  obtain ⟨⟨p3, q3, s3⟩, h3⟩ : ∃ r, order2 ltInt dk p1 p2 s2 = r := ⟨_, rfl⟩
  have hm : m = q3 ∧ t = s3 := by
    unfold median at hr
    rw [h1] at hr
    simp only [] at hr
    rw [h2] at hr
    simp only [] at hr
    rw [h3] at hr
    exact ⟨(Prod.mk.inj hr).1.symm, (Prod.mk.inj hr).2.symm⟩
  obtain ⟨rfl, rfl⟩ := hm
  clear hr
  obtain ⟨i1, c1⟩ := order2_in dk a b s p1 q1 s1 h1
  obtain ⟨i2, c2⟩ := order2_in dk q1 e0 s1 p2 q2 s2 h2
  have hp1 : p1 < d0.size := by omega
  have hq1 : q1 < d0.size := by omega
  have hp2 : p2 < d0.size := by omega
  have HK1 := Hid.mk' (order2_u32 blk off cap a b c s p1 q1 s1 d0 dk w0 w R hs C ha hb (by omega) hsz h1)
  have HK2 := Hid.mk' (fun w1 C1 => order2_u32 blk off cap q1 e0 c s1 p2 q2 s2 d0 dk w0 w1 R hs C1 hq1 he (by omega) hsz h2)
  have HK3 := Hid.mk' (fun w1 C1 => order2_u32 blk off cap p1 p2 c s2 p3 m t d0 dk w0 w1 R hs C1 hp1 hp2 (by omega) hsz h3)
  clear C i1 i2
  go_enter Try.func93, Try.ntmps93
  go_wp2_with fail
  refine HK1.out.mono ?_
  rintro e w1 ⟨rfl, g1⟩
  have C1 := Hid.mk' g1
  clear g1
  go_wp2_with fail
  refine (HK2.out _ C1.out).mono ?_
  rintro e w2 ⟨rfl, g1⟩
  have C2 := Hid.mk' g1
  clear g1
  go_wp2_with fail
  refine (HK3.out _ C2.out).mono ?_
  rintro e w3 ⟨rfl, g1⟩
  have C3 := Hid.mk' g1
  clear g1
  go_wp2
  go_ret
  exact ⟨rfl, C3.out⟩
set_option maxHeartbeats 4000000 in
set_option maxRecDepth 100000 in
theorem medAdj_u32 (blk off cap a c s m t : Nat) (d0 dk : Array Int) (w0 w : World) (R : Row1 (.int .u32) w0 blk off d0) (hs : dk.size = d0.size) (C : Cnt1 (.int .u32) w0 blk off dk c s w) (ha : 1 ≤ a) (hb : a + 1 < d0.size) (hs9 : s < 900) (hsz : d0.size < 4611686018427387904)
    (hr : medianAdjacent ltInt dk a s = (m, t)) :
    Calls Try.prog 92 #[.slice (some ⟨blk, off, none⟩) d0.size cap, .int .i64 a, .pointer (some ⟨c, 0, none⟩)] w fun e w' => e = .returned (.int .i64 m) ∧ Cnt1 (.int .u32) w0 blk off dk c t w' := by
  obtain ⟨am, ham⟩ : ∃ am, am = a - 1 := ⟨_, rfl⟩
  obtain ⟨ap, hap⟩ : ∃ ap, ap = a + 1 := ⟨_, rfl⟩
  have e1 : (a : Int) - 1 = (am : Int) := by omega
  have e2 : (a : Int) + 1 = (ap : Int) := by omega
  have HK := Hid.mk' (median_u32 blk off cap am a ap c s m t d0 dk w0 w R hs C (by omega) (by omega) (by omega) hs9 hsz (by rw [ham, hap]; exact hr))
  clear C hr ham hap
  go_enter Try.func92, Try.ntmps92
  go_wp2_with fail
  refine HK.out.mono ?_
  rintro e w1 ⟨rfl, g1⟩
  have C1 := Hid.mk' g1
  clear g1
  go_wp2
  go_ret
  exact ⟨rfl, C1.out⟩
def hintT (t : Nat) : Hint := if t = 0 then .increasing else if t = 12 then .decreasing else .unknown
def hintZ : Hint → Int
  | .unknown => 0
  | .increasing => 1
  | .decreasing => 2
theorem piv_big (d : Array Int) (a b q i' s1 j' s2 k' s3 m t : Nat) (hq : q = (b - a) / 4) (h : 50 ≤ b - a) (h1 : medianAdjacent ltInt d (a + q * 1) 0 = (i', s1)) (h2 : medianAdjacent ltInt d (a + q * 2) s1 = (j', s2)) (h3 : medianAdjacent ltInt d (a + q * 3) s2 = (k', s3)) (h4 : median ltInt d i' j' k' s3 = (m, t)) :
    choosePivot ltInt d a b = (m, hintT t) := by
  subst hq
  unfold choosePivot
  simp only []
  rw [if_pos (by omega), if_pos (by omega), h1]
  simp only []
  rw [h2]
  simp only []
  rw [h3]
  simp only []
  rw [h4]
  rfl
theorem piv_small (d : Array Int) (a b q m t : Nat) (hq : q = (b - a) / 4) (h8 : 8 ≤ b - a) (h : ¬ 50 ≤ b - a) (h4 : median ltInt d (a + q * 1) (a + q * 2) (a + q * 3) 0 = (m, t)) :
    choosePivot ltInt d a b = (m, hintT t) := by
  subst hq
  unfold choosePivot
  simp only []
  rw [if_pos (by omega), if_neg (by omega), h4]
  rfl
theorem adj_in (d : Array Int) (a s m t : Nat) (h : medianAdjacent ltInt d a s = (m, t)) : (m = a - 1 ∨ m = a ∨ m = a + 1) ∧ t ≤ s + 3 := by
  have h1 := medianAdjacent_mem ltInt d a s
  have h2 := medianAdjacent_count (lt := ltInt) d a s
  rw [h] at h1 h2
  exact ⟨h1, h2⟩
set_option maxHeartbeats 8000000 in
set_option maxRecDepth 100000 in
theorem pivot_u32 (blk off cap a b : Nat) (d0 dk : Array Int) (w0 w : World) (R : Row1 (.int .u32) w0 blk off d0) (hs : dk.size = d0.size) (S : SW (.int .u32) w0 blk off dk w) (h8 : 8 ≤ b - a) (hb : b ≤ d0.size) (hsz : d0.size < 4611686018427387904) :
    Calls Try.prog 77 #[.slice (some ⟨blk, off, none⟩) d0.size cap, .int .i64 a, .int .i64 b] w fun e w' => e = .returned (.tuple #[.int .i64 (choosePivot ltInt dk a b).1, .int .i64 (hintZ (choosePivot ltInt dk a b).2)]) ∧ SW (.int .u32) w0 blk off dk w' := by
  obtain ⟨l, hl⟩ : ∃ l, l = b - a := ⟨_, rfl⟩
  obtain ⟨q, hq⟩ : ∃ q, q = l / 4 := ⟨_, rfl⟩
  have el : (b : Int) - (a : Int) = (l : Int) := by omega
  have eq4 : (l : Int).tdiv 4 = (q : Int) := by rw [Int.tdiv_eq_ediv_of_nonneg (by omega)]; omega
  obtain ⟨i, hi⟩ : ∃ i, i = a + q * 1 := ⟨_, rfl⟩
  obtain ⟨j, hj⟩ : ∃ j, j = a + q * 2 := ⟨_, rfl⟩
  obtain ⟨k, hk⟩ : ∃ k, k = a + q * 3 := ⟨_, rfl⟩
  have ei : (a : Int) + (q : Int) = (i : Int) := by omega
  have ej : (a : Int) + (q : Int) * 2 = (j : Int) := by omega
  have ek : (a : Int) + (q : Int) * 3 = (k : Int) := by omega
  have hq2 : 2 ≤ q := by omega
  have hkb : k + 1 < b := by omega
  have hij : i < j ∧ j < k ∧ 1 ≤ i ∧ 1 ≤ j ∧ 1 ≤ k := by omega
  have hl8 : (8 : Int) ≤ (l : Int) := by omega
  have C0 := Hid.mk' (Cnt1.start S 3)
  have HQ : Hid (q = (b - a) / 4 ∧ l = b - a ∧ i = a + q * 1 ∧ j = a + q * 2 ∧ k = a + q * 3) := ⟨by rw [hq, hl], hl, hi, hj, hk⟩
  have hql : q ≤ l := by omega
  have hll : l < 4611686018427387904 := by omega
  clear hl hq hi hj hk
  obtain ⟨h1, h2, h3, h4, h5⟩ := hij
  obtain ⟨c, hc⟩ : ∃ c, c = w.heap.size := ⟨_, rfl⟩
  by_cases h50 : 50 ≤ b - a
  · obtain ⟨⟨i', s1⟩, r1⟩ : ∃ r, medianAdjacent ltInt dk i 0 = r := ⟨_, rfl⟩
    obtain ⟨⟨j', s2⟩, r2⟩ : ∃ r, medianAdjacent ltInt dk j s1 = r := ⟨_, rfl⟩
    obtain ⟨⟨k', s3⟩, r3⟩ : ∃ r, medianAdjacent ltInt dk k s2 = r := ⟨_, rfl⟩
    obtain ⟨⟨m, t⟩, r4⟩ : ∃ r, median ltInt dk i' j' k' s3 = r := ⟨_, rfl⟩
    obtain ⟨n1, c1⟩ := adj_in dk i 0 i' s1 r1
    obtain ⟨n2, c2⟩ := adj_in dk j s1 j' s2 r2
    obtain ⟨n3, c3⟩ := adj_in dk k s2 k' s3 r3
    have HCH : Hid (choosePivot ltInt dk a b = (m, hintT t)) := by
      obtain ⟨q1, q2, q3, q4, q5⟩ := HQ.out
      exact piv_big dk a b q i' s1 j' s2 k' s3 m t q1 h50 (by rw [← q3]; exact r1) (by rw [← q4]; exact r2) (by rw [← q5]; exact r3) r4
    have HK1 := Hid.mk' (fun w1 C1 => medAdj_u32 blk off cap i w.heap.size 0 i' s1 d0 dk w0 w1 R hs C1 (by omega) (by omega) (by omega) hsz r1)
    have HK2 := Hid.mk' (fun w1 C1 => medAdj_u32 blk off cap j w.heap.size s1 j' s2 d0 dk w0 w1 R hs C1 (by omega) (by omega) (by omega) hsz r2)
    have HK3 := Hid.mk' (fun w1 C1 => medAdj_u32 blk off cap k w.heap.size s2 k' s3 d0 dk w0 w1 R hs C1 (by omega) (by omega) (by omega) hsz r3)
    have HK4 := Hid.mk' (fun w1 C1 => median_u32 blk off cap i' j' k' w.heap.size s3 m t d0 dk w0 w1 R hs C1 (by omega) (by omega) (by omega) (by omega) hsz r4)
    have hl50 : (50 : Int) ≤ (l : Int) := by have := HQ.out.2.1; omega
    clear n1 n2 n3 c1 c2 c3 S
    go_enter Try.func77, Try.ntmps77
    go_wp2_with fail
    all_goals (try (exfalso; omega))
    refine (HK1.out _ C0.out).mono ?_
    rintro e w1 ⟨rfl, g1⟩
    have C1 := Hid.mk' g1
    clear g1 C0
    go_wp2_with fail
    refine (HK2.out _ C1.out).mono ?_
    rintro e w2 ⟨rfl, g1⟩
    have C2 := Hid.mk' g1
    clear g1
    go_wp2_with fail
    refine (HK3.out _ C2.out).mono ?_
    rintro e w3 ⟨rfl, g1⟩
    have C3 := Hid.mk' g1
    clear g1
    go_wp2_with fail
    refine (HK4.out _ C3.out).mono ?_
    rintro e w4 ⟨rfl, g1⟩
    have C4 := Hid.mk' g1
    clear g1
    have hcc := C4.out.2.1
    have hcf := C4.out.2.2.1
    by_cases ht0 : t = 0
    · subst ht0
      go_wp2
      go_ret2
      rw [HCH.out]
      exact ⟨rfl, C4.out.1⟩
    · by_cases ht1 : t = 12
      · subst ht1
        go_wp2
        go_ret2
        rw [HCH.out]
        exact ⟨rfl, C4.out.1⟩
      · have t0z : ¬ (t : Int) = 0 := by omega
        have t1z : ¬ (t : Int) = 12 := by omega
        go_wp2
        all_goals (try (exfalso; omega))
        go_ret2
        rw [HCH.out, show hintT t = .unknown from by unfold hintT; rw [if_neg ht0, if_neg ht1]]
        exact ⟨rfl, C4.out.1⟩
  · obtain ⟨⟨m, t⟩, r4⟩ : ∃ r, median ltInt dk i j k 0 = r := ⟨_, rfl⟩
    have HCH : Hid (choosePivot ltInt dk a b = (m, hintT t)) := by
      obtain ⟨q1, q2, q3, q4, q5⟩ := HQ.out
      exact piv_small dk a b q m t q1 h8 h50 (by rw [← q3, ← q4, ← q5]; exact r4)
    have HK4 := Hid.mk' (fun w1 C1 => median_u32 blk off cap i j k w.heap.size 0 m t d0 dk w0 w1 R hs C1 (by omega) (by omega) (by omega) (by omega) hsz r4)
    have hl50 : ¬ (50 : Int) ≤ (l : Int) := by have := HQ.out.2.1; omega
    clear S
    go_enter Try.func77, Try.ntmps77
    go_wp2_with fail
    all_goals (try (exfalso; omega))
    refine (HK4.out _ C0.out).mono ?_
    rintro e w4 ⟨rfl, g1⟩
    have C4 := Hid.mk' g1
    clear g1 C0
    have hcc := C4.out.2.1
    have hcf := C4.out.2.2.1
    by_cases ht0 : t = 0
    · subst ht0
      go_wp2
      go_ret2
      rw [HCH.out]
      exact ⟨rfl, C4.out.1⟩
    · by_cases ht1 : t = 12
      · subst ht1
        go_wp2
        go_ret2
        rw [HCH.out]
        exact ⟨rfl, C4.out.1⟩
      · have t0z : ¬ (t : Int) = 0 := by omega
        have t1z : ¬ (t : Int) = 12 := by omega
        go_wp2
        all_goals (try (exfalso; omega))
        go_ret2
        rw [HCH.out, show hintT t = .unknown from by unfold hintT; rw [if_neg ht0, if_neg ht1]]
        exact ⟨rfl, C4.out.1⟩
def lay_next_ren : Go.Shelf.Ren := ⟨fun | 48 => 91 | n => n, fun | 76 => 135 | 55 => 122 | 0 => 0 | 66 => 127 | 39 => 104 | n => n, fun n => n⟩
theorem lay_next : SlLaysF0.n48 Try.prog lay_next_ren := {
  mixed := by kernel_rfl,
  f48 := Try.func91.trans (congrArg some (by kernel_rfl)),
  t0 := Try.underlying0,
  a0 := Try.isAgg0,
  z0 := Try.sizeOf0,
  v0 := Try.zeroValue0,
  t39 := Try.underlying104,
  a39 := Try.isAgg104,
  z39 := Try.sizeOf104,
  v39 := Try.zeroValue104,
  t55 := Try.underlying122,
  a55 := Try.isAgg122,
  z55 := Try.sizeOf122,
  v55 := Try.zeroValue122,
  t66 := Try.underlying127,
  a66 := Try.isAgg127,
  z66 := Try.sizeOf127,
  v66 := Try.zeroValue127,
  t76 := Try.underlying135,
  a76 := Try.isAgg135,
  z76 := Try.sizeOf135,
  v76 := Try.zeroValue135 }

def lay_npot_ren : Go.Shelf.Ren := ⟨fun | 47 => 90 | 15 => 63 | 28 => 83 | 29 => 84 | n => n, fun | 3 => 3 | 39 => 104 | 53 => 22 | 55 => 122 | 4 => 4 | 5 => 5 | 9 => 9 | n => n, fun n => n⟩
theorem lay_npot : SlLaysF0.n47 Try.prog lay_npot_ren := {
  mixed := by kernel_rfl,
  f15 := Try.func63.trans (congrArg some (by kernel_rfl)),
  f28 := Try.func83.trans (congrArg some (by kernel_rfl)),
  f29 := Try.func84.trans (congrArg some (by kernel_rfl)),
  f47 := Try.func90.trans (congrArg some (by kernel_rfl)),
  t3 := Try.underlying3,
  a3 := Try.isAgg3,
  z3 := Try.sizeOf3,
  v3 := Try.zeroValue3,
  t4 := Try.underlying4,
  a4 := Try.isAgg4,
  z4 := Try.sizeOf4,
  v4 := Try.zeroValue4,
  t5 := Try.underlying5,
  a5 := Try.isAgg5,
  z5 := Try.sizeOf5,
  v5 := Try.zeroValue5,
  t9 := Try.underlying9,
  a9 := Try.isAgg9,
  z9 := Try.sizeOf9,
  v9 := Try.zeroValue9,
  t39 := Try.underlying104,
  a39 := Try.isAgg104,
  z39 := Try.sizeOf104,
  v39 := Try.zeroValue104,
  t53 := Try.underlying22,
  a53 := Try.isAgg22,
  z53 := Try.sizeOf22,
  v53 := Try.zeroValue22,
  t55 := Try.underlying122,
  a55 := Try.isAgg122,
  z55 := Try.sizeOf122,
  v55 := Try.zeroValue122 }

/-- A world of the sort's with a number of 64 bits in a cell of its own. -/
def Rnd (w0 : World) (blk off : Nat) (dk : Array Int) (c X : Nat) (W : World) : Prop :=
  SW (.int .u32) w0 blk off dk W ∧ W.cell? ⟨c, 0, none⟩ = some (.int .u64 (X : Int)) ∧ W.frozen? ⟨c, 0, none⟩ = false ∧ w0.heap.size ≤ c
theorem Rnd.next {w0 W : World} {blk off c X : Nat} {dk : Array Int} (h : Rnd w0 blk off dk c X W) (Y : Nat) : Rnd w0 blk off dk c Y ((W.setCell ⟨c, 0, none⟩ (.int .u64 (Y : Int))).drewN 3) :=
  ⟨(h.1.setCell_new c 0 _ h.2.2.2).drewN 3, by show (W.setCell ⟨c, 0, none⟩ (.int .u64 (Y : Int))).cell? _ = _; exact World.cell?_setCell_same' _ _ _ (by rw [h.2.1]; rfl), by show (W.setCell ⟨c, 0, none⟩ (.int .u64 (Y : Int))).frozen? _ = _; rw [World.frozen?_setCell]; exact h.2.2.1, h.2.2.2⟩
theorem Rnd.swap {w0 W : World} {blk off c X : Nat} {d0 dk : Array Int} (h : Rnd w0 blk off dk c X W) (R : Row1 (.int .u32) w0 blk off d0) (i j : Nat) (hi : i < dk.size) (hj : j < dk.size) :
    Rnd w0 blk off (swp dk i j) c X ((W.setCell ⟨blk, off + i, none⟩ (.int .u32 dk[j]!)).setCell ⟨blk, off + j, none⟩ (.int .u32 dk[i]!)).drew := by
  have hne : c ≠ blk := by have h1 := R.hblk; have h2 := h.2.2.2; omega
  have hk := box_kept_swap1 hne h.2.1 h.2.2.1 (off + i) (off + j) (.int .u32 dk[j]!) (.int .u32 dk[i]!)
  exact ⟨h.1.swapped R i j hi hj, hk.1, hk.2, h.2.2.2⟩
set_option maxHeartbeats 8000000 in
set_option maxRecDepth 100000 in
theorem break_u32 (blk off cap a L : Nat) (d0 d : Array Int) (w0 w : World) (R : Row1 (.int .u32) w0 blk off d0) (hs : d.size = d0.size) (S : SW (.int .u32) w0 blk off d w) (h8 : 8 ≤ L) (hb : a + L ≤ d0.size) (hsz : d0.size < 4611686018427387904) :
    Calls Try.prog 76 #[.slice (some ⟨blk, off, none⟩) d0.size cap, .int .i64 a, .int .i64 ((a + L : Nat) : Int)] w fun e w' => e = .returned (.tuple #[]) ∧ SW (.int .u32) w0 blk off (breakPatterns d a (a + L)) w' := by
  obtain ⟨b, hb0⟩ : ∃ b, b = a + L := ⟨_, rfl⟩
  rw [← hb0]
  obtain ⟨M, hM⟩ : ∃ M : Nat, M = 1 <<< bitsLen L := ⟨_, rfl⟩
  have hM1 : 1 ≤ M := by rw [hM, Nat.one_shiftLeft]; exact Nat.two_pow_pos _
  have hM2 : M ≤ 2 * L := by rw [hM, Nat.one_shiftLeft]; exact two_pow_bitsLen_le (by omega)
  obtain ⟨q, hq⟩ : ∃ q, q = L / 4 := ⟨_, rfl⟩
  obtain ⟨i0, hi0⟩ : ∃ i0, i0 = a + q * 2 - 1 := ⟨_, rfl⟩
  obtain ⟨i2, hi2⟩ : ∃ i2, i2 = i0 + 2 := ⟨_, rfl⟩
  have HB : Hid (breakPatterns d a b = bpRest a L M i0 3 0 (UInt64.ofNat L, d)) := by
    show breakPatterns d a b = _
    rw [hb0, breakPatterns_eq d a L h8, hM, hi0, hq]
  have HNP := Hid.mk' (fun w => AnyF.nextPowerOfTwo (P := Try.prog) lay_npot L (by omega) w)
  rw [← hM] at HNP
  have eL : (b : Int) - (a : Int) = (L : Int) := by omega
  have eq4 : (L : Int).tdiv 4 = (q : Int) := by rw [Int.tdiv_eq_ediv_of_nonneg (by omega)]; omega
  have e0 : (a : Int) + (q : Int) * 2 - 1 = (i0 : Int) := by omega
  have e2 : (a : Int) + (q : Int) * 2 + 1 = (i2 : Int) := by omega
  have hL8 : (8 : Int) ≤ (L : Int) := by omega
  have hLl : L < 4611686018427387904 := by omega
  have hi2l : i2 < b := by omega
  have hql : q ≤ L := by omega
  have HI2 : Hid (i2 = i0 + 2) := hi2
  have HBB : Hid (b = a + L) := hb0
  have hbl : b ≤ d0.size := by omega
  have hLb : L ≤ b := by omega
  have hab : a ≤ b := by omega
  clear hM hq hi0 hi2 hb hb0
  have Q0 : Hid (Rnd w0 blk off d w.heap.size L (w.alloc (.cells #[.int .u64 (L : Int)] 127))) := ⟨S.alloc _, by simp, by simp, S.le⟩
  clear S
  go_enter Try.func76, Try.ntmps76
  go_wp2_with fail
  refine (HNP.out _).mono ?_
  rintro e w1 ⟨rfl, rfl⟩
  go_wp2
  obtain ⟨c, hcc⟩ : ∃ c, c = w.heap.size := ⟨_, rfl⟩
  rw [← hcc] at Q0
  go_loopw [9, 10] (fun v9 v10 wr => ∃ (x t : Nat) (r : UInt64) (dk : Array Int), v9 = .int .i64 x ∧ Hid (x = i0 + t) ∧ t ≤ 3 ∧ x ≤ i2 + 1 ∧ dk.size = d0.size ∧ Hid (Rnd w0 blk off dk c r.toNat wr) ∧ Hid (bpRest a L M i0 (3 - t) t (r, dk) = bpRest a L M i0 3 0 (UInt64.ofNat L, d)))
    (fun v9 v10 _ => i2 + 1 - (intOf v9).toNat)
  case atStart => exact ⟨i0, 0, UInt64.ofNat L, d, rfl, rfl, by omega, by have := HI2.out; omega, hs, by rw [show (UInt64.ofNat L).toNat = L from by simp; omega]; exact Q0, rfl⟩
  case round =>
    clear Q0 hs
    obtain ⟨x, t, r, dk, rfl, HX, ht3, hxi, hds, Q1, HR⟩ := hrel
    by_cases hx : x ≤ i2
    · obtain ⟨X, hX⟩ : ∃ X : Nat, X = r.toNat := ⟨_, rfl⟩
      have lX : X < 18446744073709551616 := by rw [hX]; exact r.toNat_lt
      obtain ⟨Y, hY⟩ : ∃ Y : Nat, Y = xorNextN X := ⟨_, rfl⟩
      have lY : Y < 18446744073709551616 := by rw [hY]; exact xorNextN_lt X lX
      obtain ⟨O, hO⟩ : ∃ O : Nat, O = Y &&& (M - 1) := ⟨_, rfl⟩
      have lO : O ≤ M - 1 := by rw [hO]; exact Nat.and_le_right
      have eAnd : bits .and .u64 (Y : Int) ((M : Int) - 1) = (O : Int) := by
        rw [show ((M : Int) - 1) = ((M - 1 : Nat) : Int) by omega, bits_and_u64_nat _ _ lY (by omega), hO]
      have HN : Hid (Y = (xorNext r).toNat ∧ O = (xorNext r).toNat &&& (M - 1)) := by
        have e : Y = (xorNext r).toNat := by rw [hY, hX, xorNext_toNat]
        exact ⟨e, by rw [hO, e]⟩
      have hcB : wr.cell? ⟨c, 0, none⟩ = some (.int .u64 (X : Int)) := by rw [hX]; exact Q1.out.2.1
      have hNext := AnyF.xorshift_Next (P := Try.prog) lay_next c 0 X lX wr hcB Q1.out.2.2.1
      rw [← hY] at hNext
      have HNX := Hid.mk' hNext
      have Q2 : Hid (Rnd w0 blk off dk c Y ((wr.setCell ⟨c, 0, none⟩ (.int .u64 (Y : Int))).drewN 3)) := Q1.out.next Y
      clear hNext hX hY hO hcB Q1
      have hxl : x < d0.size := by omega
      go_wp2_with fail
      rw [← hcc]
      refine HNX.out.mono ?_
      rintro e w2 ⟨rfl, rfl⟩
      generalize (wr.setCell ⟨c, 0, none⟩ (.int .u64 (Y : Int))).drewN 3 = w2 at Q2 ⊢
      obtain ⟨G, hG, hc, hf⟩ := row_facts Q2.out.1 R hds
      go_wp2
      · have hLO : L ≤ O := by omega
        obtain ⟨p, hp⟩ : ∃ p, p = a + (O - L) := ⟨_, rfl⟩
        have ep : (a : Int) + ((O : Int) - (L : Int)) = (p : Int) := by omega
        have hpl : p < d0.size := by have := HBB.out; omega
        have HP : Hid (p = a + (O - L)) := hp
        clear hp
        obtain ⟨u, hu⟩ := Q2.out.1.c2 R hds x p (by omega) (by omega) (.int .u32 (G p))
        go_region
        all_goals go_wp2
        go_roundw
        case rel =>
          have ht : t < 3 := by have h1 := HX.out; have h2 := HI2.out; omega
          refine ⟨x + 1, t + 1, xorNext r, swp dk x p, by go_num, by have := HX.out; exact (by omega : x + 1 = i0 + (t + 1)), by omega, by omega, by rw [size_swp]; exact hds, ?_, ?_⟩
          · rw [← HN.out.1]
            have := Q2.out.swap R x p (by omega) (by omega)
            rw [← hG.out x, ← hG.out p] at this
            exact this
          · show _ = _
            rw [← HR.out, bp_step a L M i0 t r dk (O - L) ht (by rw [← HN.out.2, if_pos hLO]), ← HX.out, ← HP.out]
        case measure => simp [intOf]; omega
      · have hLO : ¬ L ≤ O := by omega
        obtain ⟨p, hp⟩ : ∃ p, p = a + O := ⟨_, rfl⟩
        have ep : (a : Int) + (O : Int) = (p : Int) := by omega
        have hpl : p < d0.size := by have := HBB.out; omega
        have HP : Hid (p = a + O) := hp
        clear hp
        obtain ⟨u, hu⟩ := Q2.out.1.c2 R hds x p (by omega) (by omega) (.int .u32 (G p))
        go_region
        all_goals go_wp2
        go_roundw
        case rel =>
          have ht : t < 3 := by have h1 := HX.out; have h2 := HI2.out; omega
          refine ⟨x + 1, t + 1, xorNext r, swp dk x p, by go_num, by have := HX.out; exact (by omega : x + 1 = i0 + (t + 1)), by omega, by omega, by rw [size_swp]; exact hds, ?_, ?_⟩
          · rw [← HN.out.1]
            have := Q2.out.swap R x p (by omega) (by omega)
            rw [← hG.out x, ← hG.out p] at this
            exact this
          · show _ = _
            rw [← HR.out, bp_step a L M i0 t r dk O ht (by rw [← HN.out.2, if_neg hLO]), ← HX.out, ← HP.out]
        case measure => simp [intOf]; omega
    · go_wp2
      go_end0
      have ht : t = 3 := by have h1 := HX.out; have h2 := HI2.out; omega
      have h := HR.out
      rw [ht] at h
      rw [HB.out, ← h]
      exact ⟨rfl, Q1.out.1⟩
/-! Go's own sort at uint32: its loop and its recursion (after the kit's walk of the same code at int). -/
theorem hintZ_eq (h : Hint) : hintZ h = hintCode h := by cases h <;> rfl
theorem hintC_two {h : Hint} (e : hintCode h = 2) : h = .decreasing := by cases h <;> simp [hintCode] at e ⊢
theorem eighthU {x y p q : Nat} (h1 : q ≤ p) (h2 : y ≤ x) : decide (((x : Int) - (y : Int)) / 8 ≤ (p : Int) - (q : Int)) = decide (p - q ≥ (x - y) / 8) :=
  decide_eq_decide.2 ⟨fun h => by omega, fun h => by omega⟩
set_option maxHeartbeats 6400000 in
set_option maxRecDepth 1000000 in
theorem pdq_u32 (blk off cap : Nat) (d0 : Array Int) (w0 : World) (R : Row1 (.int .u32) w0 blk off d0) (hsz : d0.size < 4611686018427387904) : ∀ (N a b limit : Nat) (d : Array Int) (w : World), b - a < N → SW (.int .u32) w0 blk off d w → d.size = d0.size → a ≤ b → b ≤ d0.size → limit < 4611686018427387904 → Go.Sort.Below ltInt a b d →
    Calls Try.prog 62 #[.slice (some ⟨blk, off, none⟩) d0.size cap, .int .i64 a, .int .i64 b, .int .i64 limit] w fun e w' => e = .returned (.tuple #[]) ∧ SW (.int .u32) w0 blk off (pdq ltInt d a b limit true true) w' := by
  intro N
  induction N with
  | zero => intro _ _ _ _ _ h; exact absurd h (Nat.not_lt_zero _)
  | succ N ih =>
    intro a b limit d w hN hS0 hdd hab hb hlimit hBel0
    go_enter Try.func62, Try.ntmps62
    go_wp2
    go_loopg [1, 2, 3, 8, 9] (b - a) (fun k s1 s2 s3 s8 s9 wr => ∃ (a' b' lim : Nat) (wb wp : Bool) (dk : Array Int), s1 = .int .i64 a' ∧ s2 = .int .i64 b' ∧ s3 = .int .i64 lim ∧ s8 = .bool wb ∧ s9 = .bool wp ∧
      a' ≤ b' ∧ b' ≤ d0.size ∧ b' - a' ≤ k ∧ k ≤ b - a ∧ lim ≤ limit ∧ dk.size = d0.size ∧ Go.Sort.Below ltInt a' b' dk ∧ SW (.int .u32) w0 blk off dk wr ∧ pdq ltInt dk a' b' lim wb wp = pdq ltInt d a b limit true true)
    case atStart => exact ⟨a, b, limit, true, true, d, rfl, rfl, rfl, rfl, rfl, hab, hb, Nat.le_refl _, Nat.le_refl _, Nat.le_refl _, hdd, hBel0, hS0, rfl⟩
    case round =>
      obtain ⟨a', b', lim, wb, wp, dk, rfl, rfl, rfl, rfl, rfl, hab', hb', hk, hkN, hlim, hds, hBel, hAt, heq⟩ := hrel
      have A : Aside (pdq ltInt dk a' b' lim wb wp = pdq ltInt d a b limit true true) := heq
      clear heq
      by_cases h12 : b' - a' ≤ 12
      · -- 'if length <= maxInsertion'
        have h12z : (b' : Int) - (a' : Int) ≤ 12 := by omega
        have hc := insertion_u32 blk off cap a' b' d0 dk w0 wr R hds hAt hb' hsz (by omega)
        go_wp2_with (go_at_call 74; refine hc.mono ?_; rintro e w1 ⟨rfl, hw1⟩)
        (try simp only [Exit.inBlock, Exit.then]); refine bodyPost_ret (results_none rfl _ _ _) rfl ?_
        refine ⟨rfl, ?_⟩
        rw [← A.out, pdq_small h12]
        exact hw1
      · have h12z : ¬ ((b' : Int) - (a' : Int) ≤ 12) := by omega
        by_cases hl0 : lim = 0
        · -- 'if limit == 0'
          subst hl0
          have hc := heap_u32 blk off cap a' b' d0 dk w0 wr R hds hAt (by omega) hb' hsz
          go_wp2_with (go_at_call 75; refine hc.mono ?_; rintro e w1 ⟨rfl, hw1⟩)
          (try simp only [Exit.inBlock, Exit.then]); refine bodyPost_ret (results_none rfl _ _ _) rfl ?_
          refine ⟨rfl, ?_⟩
          rw [← A.out, pdq_heap h12 rfl]
          exact hw1
        · have hl0z : ¬ ((lim : Int) = 0) := by omega
          obtain ⟨s1, B1, hc1, s2, B2, hpv, s3, B3⟩ := rd_facts (limit := lim) (wb := wb) (wp := wp) swo_ltInt partialInsertionSort_holds reverseRange_holds (show a' < b' by omega) (show b' ≤ dk.size by omega) hBel
          go_upto_if 35 with fail
          go_cut [3] from 19 (fun s3 wc => s3 = .int .i64 (rd ltInt dk a' b' lim wb wp).lim ∧ SW (.int .u32) w0 blk off (rd ltInt dk a' b' lim wb wp).d1 wc)
          case first =>
            cases wb
            · obtain ⟨L, hL⟩ : ∃ L, b' = a' + L := ⟨b' - a', by omega⟩
              have hc := break_u32 blk off cap a' L d0 dk w0 wr R hds hAt (by omega) (by omega) hsz
              rw [← hL] at hc
              clear hL
              go_wp2_with (go_at_call 76; refine hc.mono ?_; rintro e w1 ⟨rfl, hw1⟩)
              go_meet
              case rel =>
                refine ⟨?_, hw1⟩
                show Value.int .i64 ((lim : Int) - 1) = Value.int .i64 ((lim - 1 : Nat) : Int)
                congr 1
                omega
            · go_wp2_with fail
              go_meet
              case rel => exact ⟨rfl, hAt⟩
          case rest =>
            obtain ⟨rfl, hAt1⟩ := hcut
            have hc17 := pivot_u32 blk off cap a' b' d0 (rd ltInt dk a' b' lim wb wp).d1 w0 wc R (s1.trans hds) hAt1 (by omega) hb' hsz
            rw [hintZ_eq] at hc17
            rw [← rd_c] at hc17
            go_upto_if 50 with (go_at_call 77; refine hc17.mono ?_; rintro e w2 ⟨rfl, hAt2⟩)
            go_cut [11, 12] from 19 (fun s11 s12 wc => s11 = .int .i64 (rd ltInt dk a' b' lim wb wp).pivot ∧ s12 = .int .i64 (hintCode (rd ltInt dk a' b' lim wb wp).hint) ∧ SW (.int .u32) w0 blk off (rd ltInt dk a' b' lim wb wp).d2 wc)
            case first =>
              by_cases hh : (rd ltInt dk a' b' lim wb wp).c.2 = .decreasing
              · have hcode : hintCode (rd ltInt dk a' b' lim wb wp).c.2 = 2 := by rw [hh]; rfl
                obtain ⟨e2, epv, eht⟩ := rd_dec hh
                have hc18 := reverse_u32 blk off cap a' b' d0 (rd ltInt dk a' b' lim wb wp).d1 w0 w2 R (s1.trans hds) hAt2 (by omega) hb' hsz
                go_wp2_with (go_at_call 78; refine hc18.mono ?_; rintro e w3 ⟨rfl, hw3⟩)
                go_meet
                case rel =>
                  refine ⟨?_, by rw [eht]; rfl, by rw [e2]; exact hw3⟩
                  rw [epv]
                  congr 1
                  omega
              · have hcode : ¬ (hintCode (rd ltInt dk a' b' lim wb wp).c.2 = 2) := fun h => hh (hintC_two h)
                obtain ⟨e2, epv, eht⟩ := rd_not hh
                go_wp2_with fail
                go_meet
                case rel => exact ⟨by rw [epv], by rw [eht], by rw [e2]; exact hAt2⟩
            case rest =>
              obtain ⟨rfl, rfl, hAt3⟩ := hcut
              go_upto_region 15 with fail
              go_cut [12, 68] from 19 (fun s12 s68 wx => s12 = .int .i64 (hintCode (rd ltInt dk a' b' lim wb wp).hint) ∧ s68 = .bool (wb && wp && decide ((rd ltInt dk a' b' lim wb wp).hint = .increasing)) ∧ wx = wc)
              case first =>
                cases wb <;> cases wp <;> cases hh3 : (rd ltInt dk a' b' lim _ _).hint <;>
                  (have hcode3 := congrArg hintCode hh3
                   simp only [hintCode] at hcode3
                   go_wp2_with fail
                   go_meet
                   exact ⟨by simp [hh3, hintCode], by simp [hh3, hintCode], rfl⟩)
              case rest =>
                obtain ⟨rfl, rfl, rfl⟩ := hcut
                go_upto_if 68 with fail
                go_cut [] from 19 (fun wx => (rd ltInt dk a' b' lim wb wp).pi.2 = false ∧ SW (.int .u32) w0 blk off (rd ltInt dk a' b' lim wb wp).pi.1 wx)
                case first =>
                  cases h68 : (wb && wp && decide ((rd ltInt dk a' b' lim wb wp).hint = .increasing))
                  · have epi := rd_pi_no h68
                    go_wp2_with fail
                    go_meet
                    case rel => exact ⟨by rw [epi], by rw [epi]; exact hAt3⟩
                  · have epi := rd_pi_yes h68
                    have hc19 := partial_u32 blk off cap a' b' d0 (rd ltInt dk a' b' lim wb wp).d2 w0 wc R (s2.trans hds) hAt3 (by omega) hb' hsz
                    rw [← epi] at hc19
                    go_wp2_with (go_at_call 79; refine hc19.mono ?_; rintro e w4 ⟨rfl, hw4, hw4s⟩)
                    all_goals first
                      | (have hp2 : (rd ltInt dk a' b' lim wb wp).pi.2 = false := by rw [epi]; assumption
                         go_meet
                         exact ⟨hp2, hw4⟩)
                      | (have hp2 : (rd ltInt dk a' b' lim wb wp).pi.2 = true := by rw [epi]; assumption
                         (try simp only [Exit.inBlock, Exit.then]); refine bodyPost_ret (results_none rfl _ _ _) rfl ?_
                         refine ⟨rfl, ?_⟩
                         rw [← A.out, pdq_done h12 hl0 hp2]
                         exact hw4)
                case rest =>
                  obtain ⟨hp2, hAt5⟩ := hcut
                  have hcw : ∀ t, t < d0.size → wc.cell? ⟨blk, off + t, none⟩ = some (.int .u32 (rd ltInt dk a' b' lim wb wp).pi.1[t]!) := fun t ht => hAt5.c1 R (s3.trans hds) t (by omega)
                  have hfw : ∀ t, t < d0.size → wc.frozen? ⟨blk, off + t, none⟩ = false := fun t ht => hAt5.f1 R (s3.trans hds) t (by omega)
                  go_upto_region 17 with fail
                  go_cut [87] from 19 (fun s87 wx => s87 = .bool (decide (a' > 0) && !ltInt (rd ltInt dk a' b' lim wb wp).pi.1[a' - 1]! (rd ltInt dk a' b' lim wb wp).pi.1[(rd ltInt dk a' b' lim wb wp).pivot]!) ∧ SW (.int .u32) w0 blk off (rd ltInt dk a' b' lim wb wp).pi.1 wx)
                  case first =>
                    rcases Nat.eq_zero_or_pos a' with ha0 | ha0
                    · have ha0z : decide ((a' : Int) > 0) = false := decide_eq_false (by omega)
                      go_big_quiet (first | (go_at_call 80; refine Calls.quiet_of_same (less_u32 _ _ _)))
                      go_wp2_with fail
                      go_meet
                      case rel => exact ⟨by simp [ha0], hAt5.drewN nq⟩
                    · have ha0z : (a' : Int) > 0 := by omega
                      go_big_quiet (first | (go_at_call 80; refine Calls.quiet_of_same (less_u32 _ _ _)))
                      go_wp2_with fail
                      go_meet
                      case rel => exact ⟨by simp [ha0], hAt5.drewN nq⟩
                  case rest =>
                    obtain ⟨rfl, hAt6⟩ := hcut
                    clear hcw hfw
                    cases h87 : (decide (a' > 0) && !ltInt (rd ltInt dk a' b' lim wb wp).pi.1[a' - 1]! (rd ltInt dk a' b' lim wb wp).pi.1[(rd ltInt dk a' b' lim wb wp).pivot]!)
                    · -- ████ 'mid, alreadyPartitioned := partitionOrdered(..)'; THE SMALLER SIDE BY A CALL OF ITSELF, the other by the next round
                      obtain ⟨mid, ap, d4, hx⟩ : ∃ mid ap d4, Sort.partition ltInt (rd ltInt dk a' b' lim wb wp).pi.1 a' b' (rd ltInt dk a' b' lim wb wp).pivot = (mid, ap, d4) := ⟨(Sort.partition ltInt (rd ltInt dk a' b' lim wb wp).pi.1 a' b' (rd ltInt dk a' b' lim wb wp).pivot).1, (Sort.partition ltInt (rd ltInt dk a' b' lim wb wp).pi.1 a' b' (rd ltInt dk a' b' lim wb wp).pivot).2.1, (Sort.partition ltInt (rd ltInt dk a' b' lim wb wp).pi.1 a' b' (rd ltInt dk a' b' lim wb wp).pivot).2.2, rfl⟩
                      obtain ⟨r1, r2, r3, r4, r5, r6, r7⟩ := round_part swo_ltInt (partition_holds ltInt) hpv.1 hpv.2 (show b' ≤ (rd ltInt dk a' b' lim wb wp).pi.1.size by omega) B3 hx
                      have hc22 := partition_u32 blk off cap a' b' (rd ltInt dk a' b' lim wb wp).pivot d0 (rd ltInt dk a' b' lim wb wp).pi.1 w0 wc R (s3.trans hds) hAt6 hpv.1 hpv.2 hb' hsz
                      rw [hx] at hc22
                      have X : Aside (Sort.partition ltInt (rd ltInt dk a' b' lim wb wp).pi.1 a' b' (rd ltInt dk a' b' lim wb wp).pivot = (mid, ap, d4)) := hx
                      clear hx
                      go_upto_if 113 with (go_at_call 82; refine hc22.mono ?_; rintro e w7 ⟨rfl, hAt7⟩)
                      have hx := X.out
                      by_cases h4 : mid - a' < b' - mid
                      · have h4z : (mid : Int) - (a' : Int) < (b' : Int) - (mid : Int) := by omega
                        have hih := ih a' mid (rd ltInt dk a' b' lim wb wp).lim d4 w7 (by omega) hAt7 (r3.trans (s3.trans hds)) (by omega) (by omega) (Nat.lt_of_le_of_lt (Nat.le_trans rd_lim_le hlim) hlimit) r4
                        obtain ⟨pL, sL⟩ := pdq_sorts ltInt swo_ltInt d4 a' mid (rd ltInt dk a' b' lim wb wp).lim true true (by omega) (by omega) r4
                        go_wp2_with (go_at_call 62; refine hih.mono ?_; rintro e w8 ⟨rfl, hw8⟩)
                        go_roundg (b' - (mid + 1))
                        case measure => omega
                        case rel =>
                          refine ⟨mid + 1, b', (rd ltInt dk a' b' lim wb wp).lim, decide (mid - a' ≥ (b' - a') / 8), ap, pdq ltInt d4 a' mid (rd ltInt dk a' b' lim wb wp).lim true true, by simp, rfl, rfl, ?_, rfl, by omega, by omega, Nat.le_refl _, by omega, Nat.le_trans rd_lim_le hlim, by rw [pL.1, r3, s3, hds], (r6 _ pL sL).1, hw8, ?_⟩
                          · exact congrArg Value.bool (eighthU (by omega) (by omega))
                          · rw [← A.out, pdq_left h12 hl0 hp2 h87 (by rw [hx]; exact ⟨r1, r2⟩) (by rw [hx]; exact h4), hx]
                      · have h4z : ¬ ((mid : Int) - (a' : Int) < (b' : Int) - (mid : Int)) := by omega
                        have hih := ih (mid + 1) b' (rd ltInt dk a' b' lim wb wp).lim d4 w7 (by omega) hAt7 (r3.trans (s3.trans hds)) (by omega) (by omega) (Nat.lt_of_le_of_lt (Nat.le_trans rd_lim_le hlim) hlimit) r5
                        obtain ⟨pL, sL⟩ := pdq_sorts ltInt swo_ltInt d4 (mid + 1) b' (rd ltInt dk a' b' lim wb wp).lim true true (by omega) (by omega) r5
                        go_wp2_with (go_at_call 62; refine hih.mono ?_; rintro e w8 ⟨rfl, hw8⟩)
                        go_roundg (mid - a')
                        case measure => omega
                        case rel =>
                          refine ⟨a', mid, (rd ltInt dk a' b' lim wb wp).lim, decide (b' - mid ≥ (b' - a') / 8), ap, pdq ltInt d4 (mid + 1) b' (rd ltInt dk a' b' lim wb wp).lim true true, rfl, rfl, rfl, ?_, rfl, by omega, by omega, Nat.le_refl _, by omega, Nat.le_trans rd_lim_le hlim, by rw [pL.1, r3, s3, hds], (r7 _ pL sL).1, hw8, ?_⟩
                          · exact congrArg Value.bool (eighthU (by omega) (by omega))
                          · rw [← A.out, pdq_right h12 hl0 hp2 h87 (by rw [hx]; exact ⟨r1, r2⟩) (by rw [hx]; exact h4), hx]
                    · -- ████ 'mid := partitionEqualOrdered(..); a = mid; continue'
                      have h87' := h87
                      simp only [Bool.and_eq_true, decide_eq_true_eq, Bool.not_eq_true'] at h87'
                      obtain ⟨mid, d4, hx⟩ : ∃ mid d4, partitionEqual ltInt (rd ltInt dk a' b' lim wb wp).pi.1 a' b' (rd ltInt dk a' b' lim wb wp).pivot = (mid, d4) := ⟨(partitionEqual ltInt (rd ltInt dk a' b' lim wb wp).pi.1 a' b' (rd ltInt dk a' b' lim wb wp).pivot).1, (partitionEqual ltInt (rd ltInt dk a' b' lim wb wp).pi.1 a' b' (rd ltInt dk a' b' lim wb wp).pivot).2, rfl⟩
                      obtain ⟨r1, r2, r3, r4, _⟩ := round_eq swo_ltInt (partitionEqual_holds ltInt) h87'.1 hpv.1 hpv.2 (show b' ≤ (rd ltInt dk a' b' lim wb wp).pi.1.size by omega) B3 h87'.2 hx
                      have hc21 := partEq_u32 blk off cap a' b' (rd ltInt dk a' b' lim wb wp).pivot d0 (rd ltInt dk a' b' lim wb wp).pi.1 w0 wc R (s3.trans hds) hAt6 hpv.1 hpv.2 hb' hsz
                      rw [hx] at hc21
                      have X : Aside (partitionEqual ltInt (rd ltInt dk a' b' lim wb wp).pi.1 a' b' (rd ltInt dk a' b' lim wb wp).pivot = (mid, d4)) := hx
                      clear hx
                      go_wp2_with (go_at_call 81; refine hc21.mono ?_; rintro e w7 ⟨rfl, hw7⟩)
                      go_roundg (b' - mid)
                      case measure => omega
                      case rel =>
                        have hx := X.out
                        exact ⟨mid, b', (rd ltInt dk a' b' lim wb wp).lim, wb, wp, d4, rfl, rfl, rfl, rfl, rfl, r2, hb', Nat.le_refl _, by omega, Nat.le_trans rd_lim_le hlim, by rw [r3, s3, hds], r4, hw7, by rw [← A.out, pdq_eq h12 hl0 hp2 h87 (by rw [hx]; exact ⟨r1, r2⟩), hx]⟩

end Go.Proofs.Ytgelpccjdndfoaa.P
namespace Go.Proofs.Ytgelpccjdndfoaa.P
open Go.Sort
/-! A list of numbers, sorted: one by one laid where it belongs. -/
def insU (x : Int) : List Int → List Int
  | [] => [x]
  | y :: s => if x ≤ y then x :: y :: s else y :: insU x s
def sortU : List Int → List Int
  | [] => []
  | x :: s => insU x (sortU s)
theorem insU_perm (x : Int) : ∀ l, (insU x l).Perm (x :: l)
  | [] => List.Perm.refl _
  | y :: s => by
    unfold insU
    split
    · exact List.Perm.refl _
    · exact ((insU_perm x s).cons y).trans (List.Perm.swap x y s)
theorem insU_pair (x : Int) : ∀ l, l.Pairwise (fun a b : Int => a ≤ b) → (insU x l).Pairwise (fun a b : Int => a ≤ b)
  | [], _ => by simp [insU]
  | y :: s, h => by
    rw [List.pairwise_cons] at h
    obtain ⟨h1, h2⟩ := h
    unfold insU
    split
    · rename_i hxy
      rw [List.pairwise_cons]
      refine ⟨?_, List.pairwise_cons.2 ⟨h1, h2⟩⟩
      intro a ha
      rcases List.mem_cons.1 ha with rfl | ha
      · exact hxy
      · exact Int.le_trans hxy (h1 a ha)
    · rename_i hxy
      rw [List.pairwise_cons]
      refine ⟨?_, insU_pair x s h2⟩
      intro a ha
      rcases List.mem_cons.1 ((insU_perm x s).mem_iff.1 ha) with rfl | ha
      · omega
      · exact h1 a ha
theorem sortU_perm : ∀ l, (sortU l).Perm l
  | [] => List.Perm.refl _
  | x :: s => (insU_perm x (sortU s)).trans ((sortU_perm s).cons x)
theorem sortU_pair : ∀ l, (sortU l).Pairwise (fun a b : Int => a ≤ b)
  | [] => List.Pairwise.nil
  | x :: s => insU_pair x _ (sortU_pair s)
theorem sortU_len (l : List Int) : (sortU l).length = l.length := (sortU_perm l).length_eq
theorem sortU_mem (l : List Int) (x : Int) : x ∈ sortU l ↔ x ∈ l := (sortU_perm l).mem_iff
theorem pair_unique (l r : List Int) (h : l.Perm r) (h1 : l.Pairwise (fun a b : Int => a ≤ b)) (h2 : r.Pairwise (fun a b : Int => a ≤ b)) : l = r :=
  List.Perm.eq_of_pairwise (le := fun a b : Int => a ≤ b) (fun a b _ _ x y => Int.le_antisymm x y) h1 h2 h
theorem sortU_merge (l : List Int) : l.mergeSort (fun x y => decide (x ≤ y)) = sortU l := by
  refine pair_unique _ _ ((List.mergeSort_perm _ _).trans (sortU_perm l).symm) ?_ (sortU_pair l)
  have h := List.pairwise_mergeSort (le := fun x y : Int => decide (x ≤ y)) (fun a b c h1 h2 => by simp only [decide_eq_true_eq] at *; omega) (fun a b => by by_cases h : a ≤ b; simp [h]; simp [h]; omega) l
  exact h.imp (fun h => by simpa using h)
theorem sort_arr (l : List Int) : Go.Sort.sort ltInt l.toArray = (sortU l).toArray := by
  have h := sortInt l
  rw [sortU_merge] at h
  rw [← h]
end Go.Proofs.Ytgelpccjdndfoaa.P
namespace Go.Proofs.Ytgelpccjdndfoaa.P
open Go.RowKit Go.Proofs.YtgelpccjdndfoaaW.PrintWords Go.Proofs.YtgelpccjdndfoaaW.PrintLast Go.Proofs.YtgelpccjdndfoaaW.PrintMore Go.Lib Go.Shelf Go.Sort
/-! Go's own sort of a slice of uint32, whatever its length. -/
def lay_bitsLen_ren : Go.Shelf.Ren := ⟨fun | 15 => 63 | 28 => 83 | 29 => 84 | n => n, fun | 39 => 104 | 3 => 3 | 53 => 22 | 55 => 122 | 4 => 4 | 5 => 5 | 9 => 9 | n => n, fun n => n⟩
theorem lay_bitsLen : SlLaysF0.n15 Try.prog lay_bitsLen_ren := {
  mixed := by kernel_rfl,
  f15 := Try.func63.trans (congrArg some (by kernel_rfl)),
  f28 := Try.func83.trans (congrArg some (by kernel_rfl)),
  f29 := Try.func84.trans (congrArg some (by kernel_rfl)),
  t3 := Try.underlying3,
  a3 := Try.isAgg3,
  z3 := Try.sizeOf3,
  v3 := Try.zeroValue3,
  t4 := Try.underlying4,
  a4 := Try.isAgg4,
  z4 := Try.sizeOf4,
  v4 := Try.zeroValue4,
  t5 := Try.underlying5,
  a5 := Try.isAgg5,
  z5 := Try.sizeOf5,
  v5 := Try.zeroValue5,
  t9 := Try.underlying9,
  a9 := Try.isAgg9,
  z9 := Try.sizeOf9,
  v9 := Try.zeroValue9,
  t39 := Try.underlying104,
  a39 := Try.isAgg104,
  z39 := Try.sizeOf104,
  v39 := Try.zeroValue104,
  t53 := Try.underlying22,
  a53 := Try.isAgg22,
  z53 := Try.sizeOf22,
  v53 := Try.zeroValue22,
  t55 := Try.underlying122,
  a55 := Try.isAgg122,
  z55 := Try.sizeOf122,
  v55 := Try.zeroValue122 }

def Sort_u32.f (k : Nat) (l0 : List Int) : Option (List Int) := if l0.length < 4611686018427387904 then some (sortU l0) else none
theorem Sort_u32.mono : ∀ a0 k, LeO (Sort_u32.f k a0) (Sort_u32.f (k + 1) a0) := fun a0 k r h => h
theorem bits_len (n : Nat) (hn : n < 4611686018427387904) (W : World) : Calls Try.prog 63 #[.int .u64 (n : Int)] W fun e w' => e = .returned (.int .i64 (bitsLen n : Nat)) ∧ w' = W := by
  have h := Any.bits_Len (SlLaysF0.n15.bits (P := Try.prog) (ρ := lay_bitsLen_ren) lay_bitsLen) (n : Int) W (by omega) (by omega)
  rwa [Int.toNat_natCast, bitLen_eq _ (by omega)] at h
theorem ins_nil (w : World) : Calls Try.prog 74 #[.slice none 0 0, .int .i64 0, .int .i64 0] w fun e w' => e = .returned (.tuple #[]) ∧ ∃ q, w' = w.drewN q := by
  go_enter Try.func74, Try.ntmps74
  go_wp2
  refine wp_loop_rounds 1 ?_
  rw [rounds_succ]
  go_wp2
  go_end0
  exact ⟨rfl, 0, rfl⟩
theorem pdq_nil (w : World) : Calls Try.prog 62 #[.slice none 0 0, .int .i64 0, .int .i64 0, .int .i64 0] w fun e w' => e = .returned (.tuple #[]) ∧ ∃ q, w' = w.drewN q := by
  go_enter Try.func62, Try.ntmps62
  go_wp2
  refine wp_loop_rounds 1 ?_
  rw [rounds_succ]
  go_wp2_with (first | (go_at_call 74; refine (ins_nil _).mono ?_; rintro e w1 ⟨rfl, q, rfl⟩))
  refine bodyPost_ret (results_none rfl _ _ _) rfl ?_
  exact ⟨rfl, q, rfl⟩
theorem sort_nil (w : World) : Calls Try.prog 42 #[.slice none 0 0] w fun e w' => e = .returned (.tuple #[]) ∧ ∃ q, w' = w.drewN q := by
  have HBL := Go.Lib.hid (bits_len 0 (by omega) w)
  go_enter Try.func42, Try.ntmps42
  go_wp2_with (first | (go_at_call 63; refine HBL.out.mono ?_; rintro e w1 ⟨rfl, rfl⟩) | (go_at_call 62; refine (pdq_nil _).mono ?_; rintro e w1 ⟨rfl, q, rfl⟩))
  go_end0
  exact ⟨rfl, q, rfl⟩
theorem sort_row (blk off cap : Nat) (l : List Int) (w : World) (hH : Holds (.int .u32) w blk off l.toArray) (hblk : blk < w.heap.size) (hsz : l.length < 4611686018427387904) :
    Calls Try.prog 42 #[.slice (some ⟨blk, off, none⟩) l.length cap] w fun e w' => e = .returned (.tuple #[]) ∧ SW (.int .u32) w blk off (sortU l).toArray w' := by
  have hlim : bitsLen l.length < 4611686018427387904 := Nat.lt_of_le_of_lt ((bitsLen_le_iff l.length 62).2 (by omega)) (by omega)
  have K := pdq_u32 blk off cap l.toArray w (row_u32 hH hblk) (by simpa using hsz) (l.length + 1) 0 l.length (bitsLen l.length) l.toArray w (by omega) (SW.start hH) rfl (Nat.zero_le _) (by simp) hlim (Or.inl rfl)
  have e : pdq ltInt l.toArray 0 l.length (bitsLen l.length) true true = (sortU l).toArray := by
    rw [← sort_arr l]
    unfold Go.Sort.sort
    simp
  rw [e] at K
  simp only [List.size_toArray] at K
  have HP := Go.Lib.hid K
  have HBL := Go.Lib.hid (bits_len l.length hsz w)
  have wrp : IntKind.u64.wrap (l.length : Int) = l.length := by simp [IntKind.wrap, IntKind.bits, IntKind.signed]; omega
  clear K e hlim hH hblk
  go_enter Try.func42, Try.ntmps42
  go_wp2_with (first | (go_at_call 63; refine HBL.out.mono ?_; rintro e w1 ⟨rfl, rfl⟩) | (go_at_call 62; refine HP.out.mono ?_; rintro e w1 ⟨rfl, h1⟩; have H1 := Go.Lib.hid h1; clear h1))
  go_end0
  exact ⟨rfl, H1.out⟩
theorem Sort_u32.calls (k : Nat) (P0_ : Nat → Prop) (u9000_ : Value) (l0 : List Int) (r : List Int) (w0 w : World) (hB : Below w0.heap.size w0 w) (ho0 : Kd.R (Kd.int .u32) 22 w w0.heap.size P0_ u9000_ l0) (h : Sort_u32.f k l0 = some r) :
    Calls Try.prog 42 #[u9000_] w fun e w' => e = .returned (.tuple #[]) ∧ Kd.R (Kd.int .u32) 22 w' w0.heap.size (fun k_ => (P0_ k_ ∨ w.heap.size ≤ k_)) u9000_ r ∧ Below w0.heap.size w0 w' ∧ Kept w w' (fun k_ => P0_ k_) := by
  unfold Sort_u32.f at h
  by_cases hl : l0.length < 4611686018427387904
  · rw [if_pos hl] at h
    have hr := Option.some.inj h
    clear h
    rcases bridge_down (d := Kd.int .u32) (enc := fun x : Int => [.int .u32 x]) (fun h => h) (fun _ => rfl) (by decide) ho0 with ⟨rfl, rfl⟩ | ⟨g, cap, cur, rfl, hbase, hb, hnc, hcm, hcs, hok, hH⟩
    · have hrn : r = [] := by rw [← hr]; rfl
      subst hrn
      refine (sort_nil w).mono ?_
      rintro e w' ⟨rfl, q, rfl⟩
      exact ⟨rfl, Kd.R_nil _ _ _ _ _, ⟨hB.os, hB.tape, hB.output, hB.size, hB.block⟩, Kept.refl _ _⟩
    · refine (sort_row g 0 cap l0 w (holds_one _ _ _ _ _ hH) (blk_lt hb) hl).mono ?_
      rintro e w' ⟨rfl, m, os, rfl⟩
      rw [hr]
      have hyl : r.length = l0.length := by rw [← hr]; exact sortU_len l0
      have hup := bridge_up (d := Kd.int .u32) (enc := fun x : Int => [.int .u32 x]) (ys := r) (fun _ _ _ _ => rfl) (fun _ => rfl) (by decide) hB hbase hb hyl hnc hcm hcs hok m os
      rw [show (Kd.int .u32).sz = 1 from rfl, ← putRow_one] at hup
      exact ⟨rfl, hup⟩
  · rw [if_neg hl] at h
    exact absurd h (by simp)
end Go.Proofs.Ytgelpccjdndfoaa.P
namespace Go.Proofs.Ytgelpccjdndfoaa.P
open Go.RowKit Go.Proofs.YtgelpccjdndfoaaW.PrintWords Go.Proofs.YtgelpccjdndfoaaW.PrintLast Go.Proofs.YtgelpccjdndfoaaW.PrintMore
attribute [local go_sem] max2_int min2_int max_two min_two max_three min_three max_four min_four
/-! ### act_rising: function 28 -/
def q10z.f (k : Nat) (l0 : List Int) : Option (List Int) := (Sort_u32.f k l0).bind fun t1 => ((Compact_u32.f t1).bind fun t2 => (some t2))
theorem q10z.mono : ∀ a0 k, LeO (q10z.f k a0) (q10z.f (k + 1) a0) := by
 intro a0 k
 unfold q10z.f
 repeat' first
   | (with_reducible exact Sort_u32.mono _ _)
   | (with_reducible exact LeO.refl _)
   | (with_reducible exact LeO.none _)
   | (with_reducible refine LeO.ite ?_ ?_)
   | (with_reducible refine LeO.bind ?_ (fun _ => ?_))
   | exact Sort_u32.mono _ _
   | exact LeO.none _
   | refine LeO.ite ?_ ?_
   | refine LeO.bind ?_ (fun _ => ?_)
set_option maxHeartbeats 8000000 in
set_option maxRecDepth 100000 in
theorem q10z.calls (k : Nat) (P0_ : Nat → Prop) (u9000_ : Value) (l0 : List Int) (r : List Int) (w0 w : World) (hB : Below w0.heap.size w0 w) (ho0 : Kd.R (Kd.int .u32) 22 w w0.heap.size P0_ u9000_ l0) (h : q10z.f k l0 = some r) :
  Calls Try.prog 28 #[u9000_] w fun e w' => ∃ v0_ : Value, e = .returned (v0_) ∧ Kd.R (Kd.int .u32) 22 w' w0.heap.size (fun k_ => (P0_ k_ ∨ w.heap.size ≤ k_)) v0_ r ∧ Below w0.heap.size w0 w' ∧ Kept w w' (fun k_ => P0_ k_) := by
 have HO0 := Aside0.mk (show Kd.R (Kd.int .u32) 22 w w0.heap.size (fun k_ => (P0_ k_ ∨ w.heap.size ≤ k_)) u9000_ l0 from Kd.R_mono ho0 (fun k_ hk => (.inl hk)))
 have HK := Aside0.mk (Kept.refl w (fun k_ => P0_ k_))
 have HW0 := Aside0.mk hB.size
 have HB := Aside0.mk hB
 clear hB
 have H : ((Sort_u32.f k l0).bind fun t1 => ((Compact_u32.f t1).bind fun t2 => (some t2))) = some r := h
 clear h
 replace H := Option.bind_eq_some_iff.mp H
 obtain ⟨t1, A20, H⟩ := H
 replace H : ((Compact_u32.f t1).bind fun t2 => (some t2)) = some r := H
 have A2 := Aside0.mk A20
 clear A20
 replace H := Option.bind_eq_some_iff.mp H
 obtain ⟨t2, A30, H⟩ := H
 replace H : (some t2) = some r := H
 have A3 := Aside0.mk A30
 clear A30
 obtain rfl := Option.some.inj H
 obtain ⟨Ao4, co4, eo4⟩ := Kd.R_slice HO0.out
 subst eo4
 go_enter Try.func28, Try.ntmps28
 go_wp2_with (first | ((with_reducible refine gate_callee (f := 42) rfl ?_); refine goesL_ (some 4) rfl rfl Try.func42 (by kernel_rfl) rfl #[.slice Ao4 l0.length co4] rfl (by (try simp only [List.map_toArray, List.map_cons, List.map_nil]); first | done | rfl | (simp only [List.length_drop, List.length_take]; rfl)) ?_; (with_reducible refine (Sort_u32.calls k (fun k_ => some k_ = (.slice Ao4 l0.length co4 : Value).ownBlock) (.slice Ao4 l0.length co4) l0 t1 w0 _ ?side1 ?side2 A2.out).mono ?_); (case side1 => exact hbW HB); (case side2 => exact Kd.R_tight rfl HO0.out); rintro e w5 ⟨rfl, hy0, hb, hkp⟩; refine ⟨_, rfl, ?_⟩; have n0_ := Aside0.mk (Kd.R_reok rfl hy0 (fun k_ e_ => HO0.out.1 k_ e_)); have n1_ := Aside0.mk (Kept.then_ (S := (fun k_ => P0_ k_)) (by repeat (first | (with_reducible first | exact HK.out | apply Kept.alloc | apply Kept.drewN | apply Kept.drew) | exact HK.out)) hkp (fun k_ hs_ => (fun e_ => (HO0.out.1 k_ e_.symm)) hs_)); have n2_ := Aside0.mk (hb); clear HO0; clear HK; clear HB; have HO0 := n0_; have HK := n1_; have HB := n2_; clear n0_ n1_ n2_; (try clear hb); (try clear hkp); (try clear hy0)) | ((with_reducible refine gate_callee (f := 43) rfl ?_); refine goesL_ (some 6) rfl rfl Try.func43 (by kernel_rfl) rfl #[.slice Ao4 l0.length co4] rfl (by (try simp only [List.map_toArray, List.map_cons, List.map_nil]); first | done | rfl | (simp only [List.length_drop, List.length_take]; rfl)) ?_; (with_reducible refine (Compact_u32.calls (fun k_ => some k_ = (.slice Ao4 l0.length co4 : Value).ownBlock) (.slice Ao4 l0.length co4) t1 t2 w0 _ ?side1 ?side2 A3.out).mono ?_); (case side1 => exact hbW HB); (case side2 => exact Kd.R_tight rfl HO0.out); rintro e w6 ⟨v3, rfl, ho0, hb, hkp⟩; refine ⟨_, rfl, ?_⟩; have n0_ := Aside0.mk (Kd.R_mono (ok' := fun k_ => (P0_ k_ ∨ w.heap.size ≤ k_)) ho0 (fun k_ hk_ => Or.elim hk_ (fun hs_ => (HO0.out.1 k_ (hs_).symm)) (fun hn_ => (.inr (Nat.le_trans (by first | exact HK.out.1 | exact (show Kept w _ (fun k_ => P0_ k_) from by repeat (first | (with_reducible first | exact HK.out | apply Kept.alloc | apply Kept.drewN | apply Kept.drew) | exact HK.out)).1) hn_))))); have n1_ := Aside0.mk (Kept.then_ (S := (fun k_ => P0_ k_)) (by repeat (first | (with_reducible first | exact HK.out | apply Kept.alloc | apply Kept.drewN | apply Kept.drew) | exact HK.out)) hkp (fun k_ hs_ => (fun e_ => (HO0.out.1 k_ e_.symm)) hs_)); have n2_ := Aside0.mk (hb); clear HK; clear HB; clear HO0; have HO4 := n0_; have HK := n1_; have HB := n2_; clear n0_ n1_ n2_; (try clear hb); (try clear hkp); (try clear ho0)))
 go_ret
 exact ⟨_, by first | rfl | (simp [errW_none, errW_some] <;> rfl) | (simp [*, errW_none, errW_some] <;> rfl), by (with_reducible repeat (first | apply Kd.R_alloc | apply Kd.R_drewN | apply Kd.R_drew)); exact HO4.out, hbW HB, by repeat (first | (with_reducible first | exact HK.out | apply Kept.alloc | apply Kept.drewN | apply Kept.drew) | exact HK.out)⟩

/-! ### act_Do: function 13 -/
def q11z.f (k : Nat) (a0_0 : Int) (a0_1 : Int) (l0_2 : List Int) (l0_3 : List (S53)) (a1_0 : Int) (a1_1 : Int) (l1_2 : List Int) (l1_3 : List Int) (a1_4 : Int) (a1_5 : Int) (a1_6 : Int) (a1_7 : Int) : Option (Int × Int × List Int × List Int × Int × Int × Int × Int) := (q8z.f a1_0 a1_1 l1_2 l1_3 a1_4 a1_5 a1_6 a1_7).bind fun bt4 => ((q7z.f k a0_0 a0_1 l0_2 l0_3).bind fun t16 => (if t16 = true then (if a0_0 = 1 then (some (bt4.1, bt4.2.1, bt4.2.2.1, bt4.2.2.2.1, a0_1, bt4.2.2.2.2.2.1, bt4.2.2.2.2.2.2.1, bt4.2.2.2.2.2.2.2)) else (if a0_0 = 2 then (some (bt4.1, bt4.2.1, bt4.2.2.1, bt4.2.2.2.1, bt4.2.2.2.2.1, a0_1, bt4.2.2.2.2.2.2.1, bt4.2.2.2.2.2.2.2)) else (if a0_0 = 3 then (some (bt4.1, bt4.2.1, bt4.2.2.1, bt4.2.2.2.1, bt4.2.2.2.2.1, bt4.2.2.2.2.2.1, wrap64 (a0_1), bt4.2.2.2.2.2.2.2)) else (if a0_0 = 4 then (some (bt4.1, bt4.2.1, bt4.2.2.1, bt4.2.2.2.1, bt4.2.2.2.2.1, bt4.2.2.2.2.2.1, bt4.2.2.2.2.2.2.1, a0_1)) else (if a0_0 = 5 then ((q9z.f (([l0_2, bt4.2.2.1] : List (List Int)))).bind fun t20 => (some (bt4.1, bt4.2.1, t20, bt4.2.2.2.1, bt4.2.2.2.2.1, bt4.2.2.2.2.2.1, bt4.2.2.2.2.2.2.1, bt4.2.2.2.2.2.2.2))) else (if a0_0 = 6 then ((q9z.f (([bt4.2.2.2.1, l0_2] : List (List Int)))).bind fun t26 => ((q10z.f k t26).bind fun t29 => (some (bt4.1, bt4.2.1, bt4.2.2.1, t29, bt4.2.2.2.2.1, bt4.2.2.2.2.2.1, bt4.2.2.2.2.2.2.1, bt4.2.2.2.2.2.2.2)))) else (if a0_0 = 7 then ((q9z.f (([l0_2] : List (List Int)))).bind fun t35 => ((q10z.f k t35).bind fun t38 => (some (bt4.1, bt4.2.1, bt4.2.2.1, t38, bt4.2.2.2.2.1, bt4.2.2.2.2.2.1, bt4.2.2.2.2.2.2.1, bt4.2.2.2.2.2.2.2)))) else (if a0_0 = 8 then ((act_del.f bt4.2.2.2.1 l0_3).bind fun t41 => ((q10z.f k t41).bind fun t44 => (some (bt4.1, bt4.2.1, bt4.2.2.1, t44, bt4.2.2.2.2.1, bt4.2.2.2.2.2.1, bt4.2.2.2.2.2.2.1, bt4.2.2.2.2.2.2.2)))) else (some (bt4.1, bt4.2.1, bt4.2.2.1, bt4.2.2.2.1, bt4.2.2.2.2.1, bt4.2.2.2.2.2.1, bt4.2.2.2.2.2.2.1, bt4.2.2.2.2.2.2.2)))))))))) else (some (bt4.1, bt4.2.1, bt4.2.2.1, bt4.2.2.2.1, bt4.2.2.2.2.1, bt4.2.2.2.2.2.1, bt4.2.2.2.2.2.2.1, bt4.2.2.2.2.2.2.2))))
theorem q11z.mono : ∀ a0 a1 a2 a3 a4 a5 a6 a7 a8 a9 a10 a11 k, LeO (q11z.f k a0 a1 a2 a3 a4 a5 a6 a7 a8 a9 a10 a11) (q11z.f (k + 1) a0 a1 a2 a3 a4 a5 a6 a7 a8 a9 a10 a11) := by
 intro a0 a1 a2 a3 a4 a5 a6 a7 a8 a9 a10 a11 k
 unfold q11z.f
 repeat' first
   | (with_reducible exact q7z.mono _ _ _ _ _)
   | (with_reducible exact q10z.mono _ _)
   | (with_reducible exact LeO.refl _)
   | (with_reducible exact LeO.none _)
   | (with_reducible refine LeO.ite ?_ ?_)
   | (with_reducible refine LeO.bind ?_ (fun _ => ?_))
   | exact q7z.mono _ _ _ _ _
   | exact q10z.mono _ _
   | exact LeO.none _
   | refine LeO.ite ?_ ?_
   | refine LeO.bind ?_ (fun _ => ?_)
set_option maxHeartbeats 8000000 in
set_option maxRecDepth 100000 in
theorem q11z.calls (k : Nat) (a0_0 : Int) (a0_1 : Int) (P0_2_ : Nat → Prop) (A0_2 : Option Addr) (c0_2 : Nat) (l0_2 : List Int) (A0_3 : Option Addr) (c0_3 : Nat) (l0_3 : List (S53)) (a1_0 : Int) (a1_1 : Int) (A1_2 : Option Addr) (c1_2 : Nat) (l1_2 : List Int) (A1_3 : Option Addr) (c1_3 : Nat) (l1_3 : List Int) (a1_4 : Int) (a1_5 : Int) (a1_6 : Int) (a1_7 : Int) (r1 : Int) (r2 : Int) (r3 : List Int) (r4 : List Int) (r5 : Int) (r6 : Int) (r7 : Int) (r8 : Int) (w : World) (hs0_2 : Kd.V (Kd.int .u32) 22 w w.heap.size (fun k_ => P0_2_ k_) (.slice A0_2 l0_2.length c0_2) l0_2) (hr0_3 : Kd.C k53 w A0_3 l0_3.length l0_3) (hc0_3 : l0_3.length ≤ c0_3) (hr1_2 : Kd.C (Kd.int .u32) w A1_2 l1_2.length l1_2) (hc1_2 : l1_2.length ≤ c1_2) (hr1_3 : Kd.C (Kd.int .u32) w A1_3 l1_3.length l1_3) (hc1_3 : l1_3.length ≤ c1_3) (h : q11z.f k a0_0 a0_1 l0_2 l0_3 a1_0 a1_1 l1_2 l1_3 a1_4 a1_5 a1_6 a1_7 = some (r1, r2, r3, r4, r5, r6, r7, r8)) :
  Calls Try.prog 13 #[.agg #[.int .i64 a0_0, .int .u32 a0_1, .slice A0_2 l0_2.length c0_2, .slice A0_3 l0_3.length c0_3], .agg #[.int .u32 a1_0, .int .i64 a1_1, .slice A1_2 l1_2.length c1_2, .slice A1_3 l1_3.length c1_3, .int .u32 a1_4, .int .u32 a1_5, .int .i64 a1_6, .int .u32 a1_7]] w fun e w' => ∃ v2_ v3_ : Value, e = .returned (.agg #[.int .u32 r1, .int .i64 r2, v2_, v3_, .int .u32 r5, .int .u32 r6, .int .i64 r7, .int .u32 r8]) ∧ Kd.R (Kd.int .u32) 22 w' w.heap.size (fun k_ => (w.heap.size ≤ k_) ∧ some k_ ≠ (v3_ : Value).ownBlock) v2_ r3 ∧ Kd.R (Kd.int .u32) 22 w' w.heap.size (fun k_ => (w.heap.size ≤ k_) ∧ some k_ ≠ (v2_ : Value).ownBlock) v3_ r4 ∧ Below w.heap.size w w' := by
 have hu26 := Try.underlying26
 have hu30 := Try.underlying30
 have HO0_2 := Aside0.mk (show Kd.V (Kd.int .u32) 22 w w.heap.size (fun k_ => (P0_2_ k_ ∨ w.heap.size ≤ k_)) (.slice A0_2 l0_2.length c0_2) l0_2 from Kd.V_mono hs0_2 (fun k_ hk => .inl hk))
 have HR0_3 := Aside0.mk hr0_3
 have HC0_3 := Aside0.mk hc0_3
 clear hr0_3 hc0_3
 have HR1_2 := Aside0.mk hr1_2
 have HC1_2 := Aside0.mk hc1_2
 clear hr1_2 hc1_2
 have HR1_3 := Aside0.mk hr1_3
 have HC1_3 := Aside0.mk hc1_3
 clear hr1_3 hc1_3
 have HB := Aside0.mk (Below.refl w.heap.size w)
 have H : ((q8z.f a1_0 a1_1 l1_2 l1_3 a1_4 a1_5 a1_6 a1_7).bind fun bt4 => ((q7z.f k a0_0 a0_1 l0_2 l0_3).bind fun t16 => (if t16 = true then (if a0_0 = 1 then (some (bt4.1, bt4.2.1, bt4.2.2.1, bt4.2.2.2.1, a0_1, bt4.2.2.2.2.2.1, bt4.2.2.2.2.2.2.1, bt4.2.2.2.2.2.2.2)) else (if a0_0 = 2 then (some (bt4.1, bt4.2.1, bt4.2.2.1, bt4.2.2.2.1, bt4.2.2.2.2.1, a0_1, bt4.2.2.2.2.2.2.1, bt4.2.2.2.2.2.2.2)) else (if a0_0 = 3 then (some (bt4.1, bt4.2.1, bt4.2.2.1, bt4.2.2.2.1, bt4.2.2.2.2.1, bt4.2.2.2.2.2.1, wrap64 (a0_1), bt4.2.2.2.2.2.2.2)) else (if a0_0 = 4 then (some (bt4.1, bt4.2.1, bt4.2.2.1, bt4.2.2.2.1, bt4.2.2.2.2.1, bt4.2.2.2.2.2.1, bt4.2.2.2.2.2.2.1, a0_1)) else (if a0_0 = 5 then ((q9z.f (([l0_2, bt4.2.2.1] : List (List Int)))).bind fun t20 => (some (bt4.1, bt4.2.1, t20, bt4.2.2.2.1, bt4.2.2.2.2.1, bt4.2.2.2.2.2.1, bt4.2.2.2.2.2.2.1, bt4.2.2.2.2.2.2.2))) else (if a0_0 = 6 then ((q9z.f (([bt4.2.2.2.1, l0_2] : List (List Int)))).bind fun t26 => ((q10z.f k t26).bind fun t29 => (some (bt4.1, bt4.2.1, bt4.2.2.1, t29, bt4.2.2.2.2.1, bt4.2.2.2.2.2.1, bt4.2.2.2.2.2.2.1, bt4.2.2.2.2.2.2.2)))) else (if a0_0 = 7 then ((q9z.f (([l0_2] : List (List Int)))).bind fun t35 => ((q10z.f k t35).bind fun t38 => (some (bt4.1, bt4.2.1, bt4.2.2.1, t38, bt4.2.2.2.2.1, bt4.2.2.2.2.2.1, bt4.2.2.2.2.2.2.1, bt4.2.2.2.2.2.2.2)))) else (if a0_0 = 8 then ((act_del.f bt4.2.2.2.1 l0_3).bind fun t41 => ((q10z.f k t41).bind fun t44 => (some (bt4.1, bt4.2.1, bt4.2.2.1, t44, bt4.2.2.2.2.1, bt4.2.2.2.2.2.1, bt4.2.2.2.2.2.2.1, bt4.2.2.2.2.2.2.2)))) else (some (bt4.1, bt4.2.1, bt4.2.2.1, bt4.2.2.2.1, bt4.2.2.2.2.1, bt4.2.2.2.2.2.1, bt4.2.2.2.2.2.2.1, bt4.2.2.2.2.2.2.2)))))))))) else (some (bt4.1, bt4.2.1, bt4.2.2.1, bt4.2.2.2.1, bt4.2.2.2.2.1, bt4.2.2.2.2.2.1, bt4.2.2.2.2.2.2.1, bt4.2.2.2.2.2.2.2))))) = some (r1, r2, r3, r4, r5, r6, r7, r8) := h
 clear h
 replace H := Option.bind_eq_some_iff.mp H
 obtain ⟨⟨t4, t5, t6, t9, t12, t13, t14, t15⟩, A30, H⟩ := H
 replace H : ((q7z.f k a0_0 a0_1 l0_2 l0_3).bind fun t16 => (if t16 = true then (if a0_0 = 1 then (some (t4, t5, t6, t9, a0_1, t13, t14, t15)) else (if a0_0 = 2 then (some (t4, t5, t6, t9, t12, a0_1, t14, t15)) else (if a0_0 = 3 then (some (t4, t5, t6, t9, t12, t13, wrap64 (a0_1), t15)) else (if a0_0 = 4 then (some (t4, t5, t6, t9, t12, t13, t14, a0_1)) else (if a0_0 = 5 then ((q9z.f (([l0_2, t6] : List (List Int)))).bind fun t20 => (some (t4, t5, t20, t9, t12, t13, t14, t15))) else (if a0_0 = 6 then ((q9z.f (([t9, l0_2] : List (List Int)))).bind fun t26 => ((q10z.f k t26).bind fun t29 => (some (t4, t5, t6, t29, t12, t13, t14, t15)))) else (if a0_0 = 7 then ((q9z.f (([l0_2] : List (List Int)))).bind fun t35 => ((q10z.f k t35).bind fun t38 => (some (t4, t5, t6, t38, t12, t13, t14, t15)))) else (if a0_0 = 8 then ((act_del.f t9 l0_3).bind fun t41 => ((q10z.f k t41).bind fun t44 => (some (t4, t5, t6, t44, t12, t13, t14, t15)))) else (some (t4, t5, t6, t9, t12, t13, t14, t15)))))))))) else (some (t4, t5, t6, t9, t12, t13, t14, t15)))) = some (r1, r2, r3, r4, r5, r6, r7, r8) := H
 have A3 := Aside0.mk A30
 clear A30
 replace H := Option.bind_eq_some_iff.mp H
 obtain ⟨t16, A40, H⟩ := H
 replace H : (if t16 = true then (if a0_0 = 1 then (some (t4, t5, t6, t9, a0_1, t13, t14, t15)) else (if a0_0 = 2 then (some (t4, t5, t6, t9, t12, a0_1, t14, t15)) else (if a0_0 = 3 then (some (t4, t5, t6, t9, t12, t13, wrap64 (a0_1), t15)) else (if a0_0 = 4 then (some (t4, t5, t6, t9, t12, t13, t14, a0_1)) else (if a0_0 = 5 then ((q9z.f (([l0_2, t6] : List (List Int)))).bind fun t20 => (some (t4, t5, t20, t9, t12, t13, t14, t15))) else (if a0_0 = 6 then ((q9z.f (([t9, l0_2] : List (List Int)))).bind fun t26 => ((q10z.f k t26).bind fun t29 => (some (t4, t5, t6, t29, t12, t13, t14, t15)))) else (if a0_0 = 7 then ((q9z.f (([l0_2] : List (List Int)))).bind fun t35 => ((q10z.f k t35).bind fun t38 => (some (t4, t5, t6, t38, t12, t13, t14, t15)))) else (if a0_0 = 8 then ((act_del.f t9 l0_3).bind fun t41 => ((q10z.f k t41).bind fun t44 => (some (t4, t5, t6, t44, t12, t13, t14, t15)))) else (some (t4, t5, t6, t9, t12, t13, t14, t15)))))))))) else (some (t4, t5, t6, t9, t12, t13, t14, t15))) = some (r1, r2, r3, r4, r5, r6, r7, r8) := H
 have A4 := Aside0.mk A40
 clear A40
 by_cases c5 : t16 = true
 ·
  subst c5
  have H1 : (if a0_0 = 1 then (some (t4, t5, t6, t9, a0_1, t13, t14, t15)) else (if a0_0 = 2 then (some (t4, t5, t6, t9, t12, a0_1, t14, t15)) else (if a0_0 = 3 then (some (t4, t5, t6, t9, t12, t13, wrap64 (a0_1), t15)) else (if a0_0 = 4 then (some (t4, t5, t6, t9, t12, t13, t14, a0_1)) else (if a0_0 = 5 then ((q9z.f (([l0_2, t6] : List (List Int)))).bind fun t20 => (some (t4, t5, t20, t9, t12, t13, t14, t15))) else (if a0_0 = 6 then ((q9z.f (([t9, l0_2] : List (List Int)))).bind fun t26 => ((q10z.f k t26).bind fun t29 => (some (t4, t5, t6, t29, t12, t13, t14, t15)))) else (if a0_0 = 7 then ((q9z.f (([l0_2] : List (List Int)))).bind fun t35 => ((q10z.f k t35).bind fun t38 => (some (t4, t5, t6, t38, t12, t13, t14, t15)))) else (if a0_0 = 8 then ((act_del.f t9 l0_3).bind fun t41 => ((q10z.f k t41).bind fun t44 => (some (t4, t5, t6, t44, t12, t13, t14, t15)))) else (some (t4, t5, t6, t9, t12, t13, t14, t15)))))))))) = some (r1, r2, r3, r4, r5, r6, r7, r8) := by rw [if_pos rfl] at H; exact H
  clear H
  have H := H1
  clear H1
  have HH_c6 := Aside0.mk H
  clear H
  go_enter Try.func13, Try.ntmps13
  go_upto_region 4 with (first | ((with_reducible refine gate_dst (N := 2) rfl ?_); refine box_event ?hg (N := 2) ?hd (cs := #[.int .i64 a0_0, .int .u32 a0_1, .slice A0_2 l0_2.length c0_2, .slice A0_3 l0_3.length c0_3]) (t := 26) ?hr ?_; (case hd => rfl); (case hg => rfl); (case hr => first | (go_simp; done) | (go_simp; rfl)); intro gb1 hg w7 hbox hb; have BK1 := Aside0.mk (hbox); have GW1 := gwS hg HB; have GE1 := gwS hg HB; replace HO0_2 := Aside0.mk (Kd.V_below (Kd.V_elderB (by (with_reducible repeat (first | apply Kd.V_alloc | apply Kd.V_drewN | apply Kd.V_drew)); exact HO0_2.out) gb1 (Nat.le_of_eq hg.symm)) hb); replace HB := hbS HB hb; clear hb hbox hg) | ((with_reducible refine gate_dst (N := 3) rfl ?_); refine box_event ?hg (N := 3) ?hd (cs := #[.int .u32 a1_0, .int .i64 a1_1, .slice A1_2 l1_2.length c1_2, .slice A1_3 l1_3.length c1_3, .int .u32 a1_4, .int .u32 a1_5, .int .i64 a1_6, .int .u32 a1_7]) (t := 30) ?hr ?_; (case hd => rfl); (case hg => rfl); (case hr => first | (go_simp; done) | (go_simp; rfl)); intro gb2 hg w8 hbox hb; have BK2 := Aside0.mk (hbox); have GW2 := gwS hg HB; have GE2 := gwS hg HB; have NB1_2 := nbL hg BK1; have NB2_1 := nbG hg BK1; replace HO0_2 := Aside0.mk (Kd.V_below (Kd.V_elderB (by (with_reducible repeat (first | apply Kd.V_alloc | apply Kd.V_drewN | apply Kd.V_drew)); exact HO0_2.out) gb2 (Nat.le_of_eq hg.symm)) hb); replace BK1 := bkB BK1 hb; replace HB := hbS HB hb; clear hb hbox hg) | ((with_reducible refine gate_dst (N := 4) rfl ?_); refine box_event ?hg (N := 4) ?hd (cs := #[.int .u32 0, .int .i64 0, .slice none 0 0, .slice none 0 0, .int .u32 0, .int .u32 0, .int .i64 0, .int .u32 0]) (t := 30) ?hr ?_; (case hd => rfl); (case hg => rfl); (case hr => first | (go_simp; done) | (go_simp; rfl)); intro gb3 hg w9 hbox hb; have BK3 := Aside0.mk (hbox); have GW3 := gwS hg HB; have GE3 := gwS hg HB; have NB1_3 := nbL hg BK1; have NB3_1 := nbG hg BK1; have NB2_3 := nbL hg BK2; have NB3_2 := nbG hg BK2; replace HO0_2 := Aside0.mk (Kd.V_below (Kd.V_elderB (by (with_reducible repeat (first | apply Kd.V_alloc | apply Kd.V_drewN | apply Kd.V_drew)); exact HO0_2.out) gb3 (Nat.le_of_eq hg.symm)) hb); replace BK1 := bkB BK1 hb; replace BK2 := bkB BK2 hb; replace HB := hbS HB hb; clear hb hbox hg; have hnb104 := NB2_1.out; have hnc104 := NB1_2.out; have hnb105 := NB2_3.out; have hnc105 := NB3_2.out; obtain ⟨hcz106_0, hcz106_1, hcz106_2, hcz106_3, hcz106_4, hcz106_5, hcz106_6, hcz106_7, hfz106_0, hfz106_1, hfz106_2, hfz106_3, hfz106_4, hfz106_5, hfz106_6, hfz106_7⟩ := bc8 BK2) | ((with_reducible refine gate_callee (f := 26) rfl ?_); refine goesL_ (some 6) rfl rfl Try.func26 (by kernel_rfl) rfl #[.agg #[.int .u32 a1_0, .int .i64 a1_1, .slice A1_2 l1_2.length c1_2, .slice A1_3 l1_3.length c1_3, .int .u32 a1_4, .int .u32 a1_5, .int .i64 a1_6, .int .u32 a1_7]] rfl (by (try simp only [List.map_toArray, List.map_cons, List.map_nil]); first | done | rfl | (simp only [List.length_drop, List.length_take]; rfl)) ?_; (with_reducible refine (q8z.calls a1_0 a1_1 _ _ l1_2 _ _ l1_3 a1_4 a1_5 a1_6 a1_7 t4 t5 t6 t9 t12 t13 t14 t15 _ ?side1 ?side2 ?side3 ?side4 A3.out).mono ?_); (case side1 => repeat (first | exact (Kd.C_below HR1_2.out HB.out) | (with_reducible refine Kd.C_alloc ?_ _) | (with_reducible refine Kd.C_drewN ?_ _) | (with_reducible refine Kd.C_drew ?_))); (case side2 => exact HC1_2.out); (case side3 => repeat (first | exact (Kd.C_below HR1_3.out HB.out) | (with_reducible refine Kd.C_alloc ?_ _) | (with_reducible refine Kd.C_drewN ?_ _) | (with_reducible refine Kd.C_drew ?_))); (case side4 => exact HC1_3.out); rintro e w13 ⟨v7, v10, rfl, ho0, ho1, hb⟩; refine ⟨_, rfl, ?_⟩; have HO8 := Aside0.mk (Kd.R_lower (Kd.R_newM (M := fun k_ => (w.heap.size ≤ k_)) ho0 (below_size (hbW HB)) (fun k_ h_ => h_)) (below_size (hbW HB))); have HO11 := Aside0.mk (Kd.R_lower (Kd.R_newM (M := fun k_ => (w.heap.size ≤ k_)) ho1 (below_size (hbW HB)) (fun k_ h_ => h_)) (below_size (hbW HB))); replace HO0_2 := Aside0.mk (Kd.V_mono (Kd.V_told (Kd.V_told (Kd.V_old (by (with_reducible repeat (first | apply Kd.V_alloc | apply Kd.V_drewN | apply Kd.V_drew)); exact HO0_2.out) hb) (Kd.R_base ho0)) (Kd.R_base ho1)) (fun _ h_ => h_.1)); replace BK1 := bkB BK1 hb; replace BK2 := bkB BK2 hb; replace BK3 := bkB BK3 hb; replace HB := hbS HB hb; (try clear hb); (try clear hk); (try clear ho0); (try clear ho1); obtain ⟨hcz14_0, hcz14_1, hcz14_2, hcz14_3, hcz14_4, hcz14_5, hcz14_6, hcz14_7, hfz14_0, hfz14_1, hfz14_2, hfz14_3, hfz14_4, hfz14_5, hfz14_6, hfz14_7⟩ := bc8 BK2; obtain ⟨Ao15, co15, eo15⟩ := Kd.R_slice HO8.out; subst eo15; obtain ⟨Ao16, co16, eo16⟩ := Kd.R_slice HO11.out; subst eo16; have hnb111 := NB1_3.out; have hnc111 := NB3_1.out; obtain ⟨hcz112_0, hcz112_1, hcz112_2, hcz112_3, hfz112_0, hfz112_1, hfz112_2, hfz112_3⟩ := bc4 BK1) | ((with_reducible refine gate_callee (f := 14) rfl ?_); refine goesL_ (some 8) rfl rfl Try.func14 (by kernel_rfl) rfl #[.agg #[.int .i64 a0_0, .int .u32 a0_1, .slice A0_2 l0_2.length c0_2, .slice A0_3 l0_3.length c0_3]] rfl (by (try simp only [List.map_toArray, List.map_cons, List.map_nil]); first | done | rfl | (simp only [List.length_drop, List.length_take]; rfl)) ?_; (with_reducible refine (q7z.calls k a0_0 a0_1 _ _ l0_2 _ _ l0_3 _ _ ?side1 ?side2 ?side3 ?side4 A4.out).mono ?_); (case side1 => refine (Kd.V_reads' (e := 22) (base := w.heap.size) (ok := fun k_ => ((((((P0_2_ k_ ∨ w.heap.size ≤ k_) ∧ k_ ≠ gb1) ∧ k_ ≠ gb2) ∧ k_ ≠ gb3) ∧ some k_ ≠ (.slice Ao15 t6.length co15 : Value).ownBlock) ∧ some k_ ≠ (.slice Ao16 t9.length co16 : Value).ownBlock)) (n := l0_2.length) (c := c0_2) ?_).2.2; exact (by (with_reducible repeat (first | apply Kd.V_alloc | apply Kd.V_drewN | apply Kd.V_drew)); exact (Kd.V_mono (Kd.V_far (p := ⟨gb2, 7, none⟩) (Kd.V_far (p := ⟨gb2, 6, none⟩) (Kd.V_far (p := ⟨gb2, 5, none⟩) (Kd.V_far (p := ⟨gb2, 4, none⟩) (Kd.V_far (p := ⟨gb2, 3, none⟩) (Kd.V_far (p := ⟨gb2, 2, none⟩) (Kd.V_far (p := ⟨gb2, 1, none⟩) (Kd.V_far (p := ⟨gb2, 0, none⟩) (Kd.V_mono HO0_2.out (fun k_ hk => (⟨hk, hk.1.1.1.2⟩ : _ ∧ k_ ≠ gb2))) (fun _ hk => hk.2) (.int .u32 t4)) (fun _ hk => hk.2) (.int .i64 t5)) (fun _ hk => hk.2) (.slice Ao15 t6.length co15)) (fun _ hk => hk.2) (.slice Ao16 t9.length co16)) (fun _ hk => hk.2) (.int .u32 t12)) (fun _ hk => hk.2) (.int .u32 t13)) (fun _ hk => hk.2) (.int .i64 t14)) (fun _ hk => hk.2) (.int .u32 t15)) (fun _ h_ => h_.1)))); (case side2 => exact (Kd.V_reads' HO0_2.out).2.1); (case side3 => exact Kd.C_below HR0_3.out (hbW HB)); (case side4 => exact HC0_3.out); rintro e w19 ⟨rfl, hb⟩; refine ⟨_, rfl, ?_⟩; replace HO0_2 := Aside0.mk (Kd.V_below (by (with_reducible repeat (first | apply Kd.V_alloc | apply Kd.V_drewN | apply Kd.V_drew)); exact (Kd.V_mono (Kd.V_far (p := ⟨gb2, 7, none⟩) (Kd.V_far (p := ⟨gb2, 6, none⟩) (Kd.V_far (p := ⟨gb2, 5, none⟩) (Kd.V_far (p := ⟨gb2, 4, none⟩) (Kd.V_far (p := ⟨gb2, 3, none⟩) (Kd.V_far (p := ⟨gb2, 2, none⟩) (Kd.V_far (p := ⟨gb2, 1, none⟩) (Kd.V_far (p := ⟨gb2, 0, none⟩) (Kd.V_mono HO0_2.out (fun k_ hk => (⟨hk, hk.1.1.1.2⟩ : _ ∧ k_ ≠ gb2))) (fun _ hk => hk.2) (.int .u32 t4)) (fun _ hk => hk.2) (.int .i64 t5)) (fun _ hk => hk.2) (.slice Ao15 t6.length co15)) (fun _ hk => hk.2) (.slice Ao16 t9.length co16)) (fun _ hk => hk.2) (.int .u32 t12)) (fun _ hk => hk.2) (.int .u32 t13)) (fun _ hk => hk.2) (.int .i64 t14)) (fun _ hk => hk.2) (.int .u32 t15)) (fun _ h_ => h_.1))) hb); replace HO8 := Aside0.mk (Kd.R_below (rW HO8) hb); replace HO11 := Aside0.mk (Kd.R_below (rW HO11) hb); replace BK1 := bvB BK1 hb; replace BK2 := Aside0.mk (blk_below (g := gb2) (o := .cells #[.int .u32 t4, .int .i64 t5, .slice Ao15 t6.length co15, .slice Ao16 t9.length co16, .int .u32 t12, .int .u32 t13, .int .i64 t14, .int .u32 t15] 30 (0, 0)) (bp8 BK2) hb); replace BK3 := bvB BK3 hb; replace HB := hbS HB hb; (try clear hb); (try clear hk); obtain ⟨hcz188_0, hcz188_1, hcz188_2, hcz188_3, hfz188_0, hfz188_1, hfz188_2, hfz188_3⟩ := bc4 BK1; obtain ⟨hcz189_0, hcz189_1, hcz189_2, hcz189_3, hcz189_4, hcz189_5, hcz189_6, hcz189_7, hfz189_0, hfz189_1, hfz189_2, hfz189_3, hfz189_4, hfz189_5, hfz189_6, hfz189_7⟩ := bc8 BK2; obtain ⟨hcz190_0, hcz190_1, hcz190_2, hcz190_3, hcz190_4, hcz190_5, hcz190_6, hcz190_7, hfz190_0, hfz190_1, hfz190_2, hfz190_3, hfz190_4, hfz190_5, hfz190_6, hfz190_7⟩ := bc8 BK3))
  have H := HH_c6.out
  clear HH_c6
  by_cases c6 : a0_0 = 1
  ·
   rw [if_pos c6] at H
   have c6b0 : (a0_0 == 1) = true := beq_iff_eq.mpr c6
   have c6b1 : (a0_0 != 1) = false := bne_eq_false_iff_eq.mpr c6
   clear c6
   simp only [Option.some.injEq, Prod.mk.injEq] at H
   obtain ⟨rfl, rfl, rfl, rfl, rfl, rfl, rfl, rfl⟩ := H
   go_wp2
   refine bodyPost_ret (results_cell_row rfl _ _ gb3 30 #[.int .u32 t4, .int .i64 t5, .slice Ao15 t6.length co15, .slice Ao16 t9.length co16, .int .u32 a0_1, .int .u32 t13, .int .i64 t14, .int .u32 t15] (0, 0) _ rfl (bp8 BK3) Try.underlying30 rfl (by kernel_rfl)) rfl ?_
   exact ⟨_, _, by first | rfl | (simp [errW_none, errW_some] <;> rfl) | (simp [*, errW_none, errW_some] <;> rfl), moR (rW HO8), moR (rW HO11), hbW HB⟩
  ·
   rw [if_neg c6] at H
   have c6b0 : (a0_0 == 1) = false := beq_eq_false_iff_ne.mpr c6
   have c6b1 : (a0_0 != 1) = true := bne_iff_ne.mpr c6
   by_cases c23 : a0_0 = 2
   ·
    rw [if_pos c23] at H
    have c23b0 : (a0_0 == 2) = true := beq_iff_eq.mpr c23
    have c23b1 : (a0_0 != 2) = false := bne_eq_false_iff_eq.mpr c23
    clear c23
    simp only [Option.some.injEq, Prod.mk.injEq] at H
    obtain ⟨rfl, rfl, rfl, rfl, rfl, rfl, rfl, rfl⟩ := H
    go_wp2
    refine bodyPost_ret (results_cell_row rfl _ _ gb3 30 #[.int .u32 t4, .int .i64 t5, .slice Ao15 t6.length co15, .slice Ao16 t9.length co16, .int .u32 t12, .int .u32 a0_1, .int .i64 t14, .int .u32 t15] (0, 0) _ rfl (bp8 BK3) Try.underlying30 rfl (by kernel_rfl)) rfl ?_
    exact ⟨_, _, by first | rfl | (simp [errW_none, errW_some] <;> rfl) | (simp [*, errW_none, errW_some] <;> rfl), moR (rW HO8), moR (rW HO11), hbW HB⟩
   ·
    rw [if_neg c23] at H
    have c23b0 : (a0_0 == 2) = false := beq_eq_false_iff_ne.mpr c23
    have c23b1 : (a0_0 != 2) = true := bne_iff_ne.mpr c23
    by_cases c40 : a0_0 = 3
    ·
     rw [if_pos c40] at H
     have c40b0 : (a0_0 == 3) = true := beq_iff_eq.mpr c40
     have c40b1 : (a0_0 != 3) = false := bne_eq_false_iff_eq.mpr c40
     clear c40
     simp only [Option.some.injEq, Prod.mk.injEq] at H
     obtain ⟨rfl, rfl, rfl, rfl, rfl, rfl, rfl, rfl⟩ := H
     go_wp2
     refine bodyPost_ret (results_cell_row rfl _ _ gb3 30 #[.int .u32 t4, .int .i64 t5, .slice Ao15 t6.length co15, .slice Ao16 t9.length co16, .int .u32 t12, .int .u32 t13, .int .i64 (wrap64 (a0_1)), .int .u32 t15] (0, 0) _ rfl (bp8 BK3) Try.underlying30 rfl (by kernel_rfl)) rfl ?_
     exact ⟨_, _, by first | rfl | (simp [errW_none, errW_some] <;> rfl) | (simp [*, errW_none, errW_some] <;> rfl), moR (rW HO8), moR (rW HO11), hbW HB⟩
    ·
     rw [if_neg c40] at H
     have c40b0 : (a0_0 == 3) = false := beq_eq_false_iff_ne.mpr c40
     have c40b1 : (a0_0 != 3) = true := bne_iff_ne.mpr c40
     by_cases c57 : a0_0 = 4
     ·
      rw [if_pos c57] at H
      have c57b0 : (a0_0 == 4) = true := beq_iff_eq.mpr c57
      have c57b1 : (a0_0 != 4) = false := bne_eq_false_iff_eq.mpr c57
      clear c57
      simp only [Option.some.injEq, Prod.mk.injEq] at H
      obtain ⟨rfl, rfl, rfl, rfl, rfl, rfl, rfl, rfl⟩ := H
      go_wp2
      refine bodyPost_ret (results_cell_row rfl _ _ gb3 30 #[.int .u32 t4, .int .i64 t5, .slice Ao15 t6.length co15, .slice Ao16 t9.length co16, .int .u32 t12, .int .u32 t13, .int .i64 t14, .int .u32 a0_1] (0, 0) _ rfl (bp8 BK3) Try.underlying30 rfl (by kernel_rfl)) rfl ?_
      exact ⟨_, _, by first | rfl | (simp [errW_none, errW_some] <;> rfl) | (simp [*, errW_none, errW_some] <;> rfl), moR (rW HO8), moR (rW HO11), hbW HB⟩
     ·
      rw [if_neg c57] at H
      have c57b0 : (a0_0 == 4) = false := beq_eq_false_iff_ne.mpr c57
      have c57b1 : (a0_0 != 4) = true := bne_iff_ne.mpr c57
      by_cases c74 : a0_0 = 5
      ·
       rw [if_pos c74] at H
       have c74b0 : (a0_0 == 5) = true := beq_iff_eq.mpr c74
       have c74b1 : (a0_0 != 5) = false := bne_eq_false_iff_eq.mpr c74
       clear c74
       obtain ⟨y17, hy17⟩ : ∃ y_ : List (List Int), y_ = (([l0_2, t6] : List (List Int))) := ⟨_, rfl⟩
       replace H : ((q9z.f y17).bind fun t20 => (some (t4, t5, t20, t9, t12, t13, t14, t15))) = some (r1, r2, r3, r4, r5, r6, r7, r8) := by first | (rw [hy17]; with_reducible exact H) | (have H2_ := (Option.bind_some _ _).symm.trans H; rw [hy17]; with_reducible exact H2_) | (have H2_ := (Option.bind_some _ _).symm.trans H; with_reducible exact H2_) | with_reducible exact H | (rw [hy17]; exact H) | exact H
       have Ny17 := Aside0.mk hy17
       clear hy17
       replace H := Option.bind_eq_some_iff.mp H
       obtain ⟨t20, A750, H⟩ := H
       replace H : (some (t4, t5, t20, t9, t12, t13, t14, t15)) = some (r1, r2, r3, r4, r5, r6, r7, r8) := H
       have A75 := Aside0.mk A750
       clear A750
       simp only [Option.some.injEq, Prod.mk.injEq] at H
       obtain ⟨rfl, rfl, rfl, rfl, rfl, rfl, rfl, rfl⟩ := H
       go_wp2_with (first | ((with_reducible refine gate_dst (N := 40) rfl ?_); refine Kd.N_lit (Kd.slice 22 (Kd.int .u32)) _ 23 ?hg (N' := 40) ?hd (xs := ([l0_2, t6] : List (List Int))) (inner := [.slice A0_2 l0_2.length c0_2, .slice Ao15 t6.length co15]) (ok := (fun k_ => (P0_2_ k_ ∨ w.heap.size ≤ k_) ∧ some k_ ≠ (.slice Ao16 t9.length co16 : Value).ownBlock ∧ k_ ≠ gb1 ∧ k_ ≠ gb2 ∧ k_ ≠ gb3)) (okp := (fun k_ => (P0_2_ k_ ∨ w.heap.size ≤ k_) ∧ some k_ ≠ (.slice Ao16 t9.length co16 : Value).ownBlock ∧ k_ ≠ gb1 ∧ k_ ≠ gb2 ∧ k_ ≠ gb3)) ?hr ?hp (fun _ hk => hk) ((show ∀ k_, w19.heap.size ≤ k_ → (fun k_ => (P0_2_ k_ ∨ w.heap.size ≤ k_) ∧ some k_ ≠ (.slice Ao16 t9.length co16 : Value).ownBlock ∧ k_ ≠ gb1 ∧ k_ ≠ gb2 ∧ k_ ≠ gb3) k_ from fun k_ hk => ⟨(.inr (Nat.le_trans (below_size (hbW HB)) hk)), Kd.fresh' (Kd.R_lt (rW HO11)) k_ hk, Kd.freshB (g := gb1) (o := .cells #[.int .i64 a0_0, .int .u32 a0_1, .slice A0_2 l0_2.length c0_2, .slice A0_3 l0_3.length c0_3] 26 (0, 0)) (bkW BK1) k_ hk, Kd.freshB (g := gb2) (o := .cells #[.int .u32 t4, .int .i64 t5, .slice Ao15 t6.length co15, .slice Ao16 t9.length co16, .int .u32 t12, .int .u32 t13, .int .i64 t14, .int .u32 t15] 30 (0, 0)) (bkW BK2) k_ hk, Kd.freshB (g := gb3) (o := .cells #[.int .u32 0, .int .i64 0, .slice none 0 0, .slice none 0 0, .int .u32 0, .int .u32 0, .int .i64 0, .int .u32 0] 30 (0, 0)) (bkW BK3) k_ hk⟩) _ (Nat.le_refl _)) (Below.refl _ _) (Nat.le_refl _) (by simp) ?_; (case hd => rfl); (case hg => rfl); (case hr => first | (go_simp; done) | (go_simp; rfl)); (case hp => exact (Reps.one (show Kd.FK (Kd.slice 22 (Kd.int .u32)) _ _ l0_2 [.slice A0_2 l0_2.length c0_2] from (Kd.FK_slice_mk (Kd.V_reads' (Kd.V_mono (ok' := (fun k_ => (P0_2_ k_ ∨ w.heap.size ≤ k_) ∧ some k_ ≠ (.slice Ao16 t9.length co16 : Value).ownBlock ∧ k_ ≠ gb1 ∧ k_ ≠ gb2 ∧ k_ ≠ gb3)) (HO0_2.out) (fun k_ hk => ⟨hk.1.1.1.1.1, ⟨hk.2, ⟨hk.1.1.1.1.2, ⟨hk.1.1.1.2, hk.1.1.2⟩⟩⟩⟩))).2.1 (Kd.V_F (Kd.V_mono (ok' := (fun k_ => (P0_2_ k_ ∨ w.heap.size ≤ k_) ∧ some k_ ≠ (.slice Ao16 t9.length co16 : Value).ownBlock ∧ k_ ≠ gb1 ∧ k_ ≠ gb2 ∧ k_ ≠ gb3)) (HO0_2.out) (fun k_ hk => ⟨hk.1.1.1.1.1, ⟨hk.2, ⟨hk.1.1.1.1.2, ⟨hk.1.1.1.2, hk.1.1.2⟩⟩⟩⟩))))) (Reps.one (show Kd.FK (Kd.slice 22 (Kd.int .u32)) _ _ t6 [.slice Ao15 t6.length co15] from (Kd.FK_slice_mk (Kd.R_reads' (Kd.R_mono (ok' := (fun k_ => (P0_2_ k_ ∨ w.heap.size ≤ k_) ∧ some k_ ≠ (.slice Ao16 t9.length co16 : Value).ownBlock ∧ k_ ≠ gb1 ∧ k_ ≠ gb2 ∧ k_ ≠ gb3)) (Kd.R_types (Kd.R_types (Kd.R_types (HO8.out) BK1.out (by decide)) BK2.out (by decide)) BK3.out (by decide)) (fun k_ hk => ⟨(.inr (hk.1.1.1.1)), ⟨hk.1.1.1.2, ⟨hk.1.1.2, ⟨hk.1.2, hk.2⟩⟩⟩⟩))).2.1 (Kd.R_F (Kd.R_mono (ok' := (fun k_ => (P0_2_ k_ ∨ w.heap.size ≤ k_) ∧ some k_ ≠ (.slice Ao16 t9.length co16 : Value).ownBlock ∧ k_ ≠ gb1 ∧ k_ ≠ gb2 ∧ k_ ≠ gb3)) (Kd.R_types (Kd.R_types (Kd.R_types (HO8.out) BK1.out (by decide)) BK2.out (by decide)) BK3.out (by decide)) (fun k_ hk => ⟨(.inr (hk.1.1.1.1)), ⟨hk.1.1.1.2, ⟨hk.1.1.2, ⟨hk.1.2, hk.2⟩⟩⟩⟩))))) (Reps.none _ _)))); intro v18 w91 ho92 hb hg_ hnew_; clear hg_ hnew_; (first | rw [← Ny17.out] at ho92 | (simp only [Int.reduceToNat] at ho92; rw [← Ny17.out] at ho92)); have n0_ := Aside0.mk (Kd.V_elder' (by (with_reducible repeat (first | apply Kd.V_alloc | apply Kd.V_drewN | apply Kd.V_drew)); exact HO0_2.out) (Kd.N_base ho92) hb); have n1_ := Aside0.mk (Kd.R_below (rW HO11) hb); have n2_ := Aside0.mk (Kd.N_lower ho92 (below_size (hbW HB))); have n3_ := bkB BK1 hb; have n4_ := bkB BK2 hb; have n5_ := bkB BK3 hb; have n6_ := hbS HB hb; clear HO0_2; clear HO11; clear BK1; clear BK2; clear BK3; clear HB; clear HO8; have HO0_2 := n0_; have HO11 := n1_; have HO19 := n2_; have BK1 := n3_; have BK2 := n4_; have BK3 := n5_; have HB := n6_; clear n0_ n1_ n2_ n3_ n4_ n5_ n6_; clear hb ho92; obtain ⟨Ao93, co93, eo93⟩ := Kd.N_slice HO19.out; subst eo93) | ((with_reducible refine gate_callee (f := 27) rfl ?_); refine goesL_ (some 41) rfl rfl Try.func27 (by kernel_rfl) rfl #[.slice Ao93 y17.length co93] rfl (by (try simp only [List.map_toArray, List.map_cons, List.map_nil]); first | done | rfl | (simp only [List.length_drop, List.length_take]; rfl)) ?_; (with_reducible refine (q9z.calls _ _ y17 t20 _ ?side1 ?side2 A75.out).mono ?_); (case side1 => repeat (first | exact (Kd.N_reads' HO19.out).2.2 | (with_reducible refine Kd.C_alloc ?_ _) | (with_reducible refine Kd.C_drewN ?_ _) | (with_reducible refine Kd.C_drew ?_))); (case side2 => exact (Kd.N_reads' HO19.out).2.1); rintro e w94 ⟨v21, rfl, ho0, hb⟩; refine ⟨_, rfl, ?_⟩; have HO22 := Aside0.mk (Kd.R_lower (Kd.R_new' (Kd.R_newM (M := fun k_ => (w.heap.size ≤ k_)) ho0 (below_size (hbW HB)) (fun k_ h_ => h_)) (Kd.R_lt (rW HO11))) (below_size (hbW HB))); replace HO0_2 := Aside0.mk (Kd.V_elder' (by (with_reducible repeat (first | apply Kd.V_alloc | apply Kd.V_drewN | apply Kd.V_drew)); exact HO0_2.out) (Kd.R_base ho0) hb); replace HO11 := Aside0.mk (Kd.R_elder' (rW HO11) (Kd.R_base ho0) hb); replace HO19 := Aside0.mk (Kd.N_elder' (by (with_reducible repeat (first | apply Kd.N_alloc | apply Kd.N_drewN | apply Kd.N_drew)); exact HO19.out) (Kd.R_base ho0) hb); replace BK1 := bkB BK1 hb; replace BK2 := bkB BK2 hb; replace BK3 := bkB BK3 hb; replace HB := hbS HB hb; (try clear hb); (try clear hk); (try clear ho0); obtain ⟨Ao95, co95, eo95⟩ := Kd.R_slice HO22.out; subst eo95; obtain ⟨hcz96_0, hcz96_1, hcz96_2, hcz96_3, hcz96_4, hcz96_5, hcz96_6, hcz96_7, hfz96_0, hfz96_1, hfz96_2, hfz96_3, hfz96_4, hfz96_5, hfz96_6, hfz96_7⟩ := bc8 BK2; obtain ⟨hcz97_0, hcz97_1, hcz97_2, hcz97_3, hcz97_4, hcz97_5, hcz97_6, hcz97_7, hfz97_0, hfz97_1, hfz97_2, hfz97_3, hfz97_4, hfz97_5, hfz97_6, hfz97_7⟩ := bc8 BK3))
       refine bodyPost_ret (results_cell_row rfl _ _ gb3 30 #[.int .u32 t4, .int .i64 t5, .slice Ao95 t20.length co95, .slice Ao16 t9.length co16, .int .u32 t12, .int .u32 t13, .int .i64 t14, .int .u32 t15] (0, 0) _ rfl (bp8 BK3) Try.underlying30 rfl (by kernel_rfl)) rfl ?_
       exact ⟨_, _, by first | rfl | (simp [errW_none, errW_some] <;> rfl) | (simp [*, errW_none, errW_some] <;> rfl), moR (rW HO22), moR (rW HO11), hbW HB⟩
      ·
       rw [if_neg c74] at H
       have c74b0 : (a0_0 == 5) = false := beq_eq_false_iff_ne.mpr c74
       have c74b1 : (a0_0 != 5) = true := bne_iff_ne.mpr c74
       by_cases c98 : a0_0 = 6
       ·
        rw [if_pos c98] at H
        have c98b0 : (a0_0 == 6) = true := beq_iff_eq.mpr c98
        have c98b1 : (a0_0 != 6) = false := bne_eq_false_iff_eq.mpr c98
        clear c98
        obtain ⟨y23, hy23⟩ : ∃ y_ : List (List Int), y_ = (([t9, l0_2] : List (List Int))) := ⟨_, rfl⟩
        replace H : ((q9z.f y23).bind fun t26 => ((q10z.f k t26).bind fun t29 => (some (t4, t5, t6, t29, t12, t13, t14, t15)))) = some (r1, r2, r3, r4, r5, r6, r7, r8) := by first | (rw [hy23]; with_reducible exact H) | (have H2_ := (Option.bind_some _ _).symm.trans H; rw [hy23]; with_reducible exact H2_) | (have H2_ := (Option.bind_some _ _).symm.trans H; with_reducible exact H2_) | with_reducible exact H | (rw [hy23]; exact H) | exact H
        have Ny23 := Aside0.mk hy23
        clear hy23
        replace H := Option.bind_eq_some_iff.mp H
        obtain ⟨t26, A990, H⟩ := H
        replace H : ((q10z.f k t26).bind fun t29 => (some (t4, t5, t6, t29, t12, t13, t14, t15))) = some (r1, r2, r3, r4, r5, r6, r7, r8) := H
        have A99 := Aside0.mk A990
        clear A990
        replace H := Option.bind_eq_some_iff.mp H
        obtain ⟨t29, A1000, H⟩ := H
        replace H : (some (t4, t5, t6, t29, t12, t13, t14, t15)) = some (r1, r2, r3, r4, r5, r6, r7, r8) := H
        have A100 := Aside0.mk A1000
        clear A1000
        simp only [Option.some.injEq, Prod.mk.injEq] at H
        obtain ⟨rfl, rfl, rfl, rfl, rfl, rfl, rfl, rfl⟩ := H
        go_wp2_with (first | ((with_reducible refine gate_dst (N := 49) rfl ?_); refine Kd.N_lit (Kd.slice 22 (Kd.int .u32)) _ 23 ?hg (N' := 49) ?hd (xs := ([t9, l0_2] : List (List Int))) (inner := [.slice Ao16 t9.length co16, .slice A0_2 l0_2.length c0_2]) (ok := (fun k_ => (P0_2_ k_ ∨ w.heap.size ≤ k_) ∧ some k_ ≠ (.slice Ao15 t6.length co15 : Value).ownBlock ∧ k_ ≠ gb1 ∧ k_ ≠ gb2 ∧ k_ ≠ gb3)) (okp := (fun k_ => (P0_2_ k_ ∨ w.heap.size ≤ k_) ∧ some k_ ≠ (.slice Ao15 t6.length co15 : Value).ownBlock ∧ k_ ≠ gb1 ∧ k_ ≠ gb2 ∧ k_ ≠ gb3)) ?hr ?hp (fun _ hk => hk) ((show ∀ k_, w19.heap.size ≤ k_ → (fun k_ => (P0_2_ k_ ∨ w.heap.size ≤ k_) ∧ some k_ ≠ (.slice Ao15 t6.length co15 : Value).ownBlock ∧ k_ ≠ gb1 ∧ k_ ≠ gb2 ∧ k_ ≠ gb3) k_ from fun k_ hk => ⟨(.inr (Nat.le_trans (below_size (hbW HB)) hk)), Kd.fresh' (Kd.R_lt (rW HO8)) k_ hk, Kd.freshB (g := gb1) (o := .cells #[.int .i64 a0_0, .int .u32 a0_1, .slice A0_2 l0_2.length c0_2, .slice A0_3 l0_3.length c0_3] 26 (0, 0)) (bkW BK1) k_ hk, Kd.freshB (g := gb2) (o := .cells #[.int .u32 t4, .int .i64 t5, .slice Ao15 t6.length co15, .slice Ao16 t9.length co16, .int .u32 t12, .int .u32 t13, .int .i64 t14, .int .u32 t15] 30 (0, 0)) (bkW BK2) k_ hk, Kd.freshB (g := gb3) (o := .cells #[.int .u32 0, .int .i64 0, .slice none 0 0, .slice none 0 0, .int .u32 0, .int .u32 0, .int .i64 0, .int .u32 0] 30 (0, 0)) (bkW BK3) k_ hk⟩) _ (Nat.le_refl _)) (Below.refl _ _) (Nat.le_refl _) (by simp) ?_; (case hd => rfl); (case hg => rfl); (case hr => first | (go_simp; done) | (go_simp; rfl)); (case hp => exact (Reps.one (show Kd.FK (Kd.slice 22 (Kd.int .u32)) _ _ t9 [.slice Ao16 t9.length co16] from (Kd.FK_slice_mk (Kd.R_reads' (Kd.R_mono (ok' := (fun k_ => (P0_2_ k_ ∨ w.heap.size ≤ k_) ∧ some k_ ≠ (.slice Ao15 t6.length co15 : Value).ownBlock ∧ k_ ≠ gb1 ∧ k_ ≠ gb2 ∧ k_ ≠ gb3)) (Kd.R_types (Kd.R_types (Kd.R_types (HO11.out) BK1.out (by decide)) BK2.out (by decide)) BK3.out (by decide)) (fun k_ hk => ⟨(.inr (hk.1.1.1.1)), ⟨hk.1.1.1.2, ⟨hk.1.1.2, ⟨hk.1.2, hk.2⟩⟩⟩⟩))).2.1 (Kd.R_F (Kd.R_mono (ok' := (fun k_ => (P0_2_ k_ ∨ w.heap.size ≤ k_) ∧ some k_ ≠ (.slice Ao15 t6.length co15 : Value).ownBlock ∧ k_ ≠ gb1 ∧ k_ ≠ gb2 ∧ k_ ≠ gb3)) (Kd.R_types (Kd.R_types (Kd.R_types (HO11.out) BK1.out (by decide)) BK2.out (by decide)) BK3.out (by decide)) (fun k_ hk => ⟨(.inr (hk.1.1.1.1)), ⟨hk.1.1.1.2, ⟨hk.1.1.2, ⟨hk.1.2, hk.2⟩⟩⟩⟩))))) (Reps.one (show Kd.FK (Kd.slice 22 (Kd.int .u32)) _ _ l0_2 [.slice A0_2 l0_2.length c0_2] from (Kd.FK_slice_mk (Kd.V_reads' (Kd.V_mono (ok' := (fun k_ => (P0_2_ k_ ∨ w.heap.size ≤ k_) ∧ some k_ ≠ (.slice Ao15 t6.length co15 : Value).ownBlock ∧ k_ ≠ gb1 ∧ k_ ≠ gb2 ∧ k_ ≠ gb3)) (HO0_2.out) (fun k_ hk => ⟨hk.1.1.1.1.1, ⟨hk.1.2, ⟨hk.1.1.1.1.2, ⟨hk.1.1.1.2, hk.1.1.2⟩⟩⟩⟩))).2.1 (Kd.V_F (Kd.V_mono (ok' := (fun k_ => (P0_2_ k_ ∨ w.heap.size ≤ k_) ∧ some k_ ≠ (.slice Ao15 t6.length co15 : Value).ownBlock ∧ k_ ≠ gb1 ∧ k_ ≠ gb2 ∧ k_ ≠ gb3)) (HO0_2.out) (fun k_ hk => ⟨hk.1.1.1.1.1, ⟨hk.1.2, ⟨hk.1.1.1.1.2, ⟨hk.1.1.1.2, hk.1.1.2⟩⟩⟩⟩))))) (Reps.none _ _)))); intro v24 w116 ho117 hb hg_ hnew_; clear hg_ hnew_; (first | rw [← Ny23.out] at ho117 | (simp only [Int.reduceToNat] at ho117; rw [← Ny23.out] at ho117)); have n0_ := Aside0.mk (Kd.V_elder' (by (with_reducible repeat (first | apply Kd.V_alloc | apply Kd.V_drewN | apply Kd.V_drew)); exact HO0_2.out) (Kd.N_base ho117) hb); have n1_ := Aside0.mk (Kd.R_below (rW HO8) hb); have n2_ := Aside0.mk (Kd.N_lower ho117 (below_size (hbW HB))); have n3_ := bkB BK1 hb; have n4_ := bkB BK2 hb; have n5_ := bkB BK3 hb; have n6_ := hbS HB hb; clear HO0_2; clear HO8; clear BK1; clear BK2; clear BK3; clear HB; clear HO11; have HO0_2 := n0_; have HO8 := n1_; have HO25 := n2_; have BK1 := n3_; have BK2 := n4_; have BK3 := n5_; have HB := n6_; clear n0_ n1_ n2_ n3_ n4_ n5_ n6_; clear hb ho117; obtain ⟨Ao118, co118, eo118⟩ := Kd.N_slice HO25.out; subst eo118) | ((with_reducible refine gate_callee (f := 27) rfl ?_); refine goesL_ (some 50) rfl rfl Try.func27 (by kernel_rfl) rfl #[.slice Ao118 y23.length co118] rfl (by (try simp only [List.map_toArray, List.map_cons, List.map_nil]); first | done | rfl | (simp only [List.length_drop, List.length_take]; rfl)) ?_; (with_reducible refine (q9z.calls _ _ y23 t26 _ ?side1 ?side2 A99.out).mono ?_); (case side1 => repeat (first | exact (Kd.N_reads' HO25.out).2.2 | (with_reducible refine Kd.C_alloc ?_ _) | (with_reducible refine Kd.C_drewN ?_ _) | (with_reducible refine Kd.C_drew ?_))); (case side2 => exact (Kd.N_reads' HO25.out).2.1); rintro e w119 ⟨v27, rfl, ho0, hb⟩; refine ⟨_, rfl, ?_⟩; have HO28 := Aside0.mk (Kd.R_lower (Kd.R_new' (Kd.R_newM (M := fun k_ => (w.heap.size ≤ k_)) ho0 (below_size (hbW HB)) (fun k_ h_ => h_)) (Kd.R_lt (rW HO8))) (below_size (hbW HB))); replace HO0_2 := Aside0.mk (Kd.V_elder' (by (with_reducible repeat (first | apply Kd.V_alloc | apply Kd.V_drewN | apply Kd.V_drew)); exact HO0_2.out) (Kd.R_base ho0) hb); replace HO8 := Aside0.mk (Kd.R_elder' (rW HO8) (Kd.R_base ho0) hb); replace HO25 := Aside0.mk (Kd.N_elder' (by (with_reducible repeat (first | apply Kd.N_alloc | apply Kd.N_drewN | apply Kd.N_drew)); exact HO25.out) (Kd.R_base ho0) hb); replace BK1 := bkB BK1 hb; replace BK2 := bkB BK2 hb; replace BK3 := bkB BK3 hb; replace HB := hbS HB hb; (try clear hb); (try clear hk); (try clear ho0); obtain ⟨Ao120, co120, eo120⟩ := Kd.R_slice HO28.out; subst eo120) | ((with_reducible refine gate_callee (f := 28) rfl ?_); refine goesL_ (some 51) rfl rfl Try.func28 (by kernel_rfl) rfl #[.slice Ao120 t26.length co120] rfl (by (try simp only [List.map_toArray, List.map_cons, List.map_nil]); first | done | rfl | (simp only [List.length_drop, List.length_take]; rfl)) ?_; (with_reducible refine (q10z.calls k (fun k_ => some k_ = (.slice Ao120 t26.length co120 : Value).ownBlock) (.slice Ao120 t26.length co120) t26 t29 w _ ?side1 ?side2 A100.out).mono ?_); (case side1 => exact hbW HB); (case side2 => exact Kd.R_tight rfl HO28.out); rintro e w121 ⟨v30, rfl, ho0, hb, hkp⟩; refine ⟨_, rfl, ?_⟩; have n0_ := Aside0.mk (Kd.V_mono (ok' := fun k_ => (P0_2_ k_ ∨ w.heap.size ≤ k_) ∧ some k_ ≠ (.slice Ao15 t6.length co15 : Value).ownBlock ∧ some k_ ≠ (.slice Ao118 y23.length co118 : Value).ownBlock ∧ k_ ≠ gb1 ∧ k_ ≠ gb2 ∧ k_ ≠ gb3 ∧ some k_ ≠ (v30 : Value).ownBlock) (Kd.V_keptB (HO0_2.out) hkp (fun k_ hk_ hs_ => (hk_.2) hs_)) (fun k_ hk_ => ⟨hk_.1.1.1.1.1.1.1.1, hk_.1.1.1.1.2, hk_.1.1.2, hk_.1.1.1.1.1.1.1.2, hk_.1.1.1.1.1.1.2, hk_.1.1.1.1.1.2, fun e_ => Or.elim (ho0.1 k_ e_.symm) (fun hs_ => hk_.2.1 hs_) (fun hn_ => Nat.not_le.2 hk_.2.2 hn_)⟩)); have n1_ := Aside0.mk (blk_kept (bkW BK1) hkp (fun hs_ => (fun e_ => (Kd.R_ne HO28.out BK1.out (by decide)) e_) hs_)); have n2_ := Aside0.mk (blk_kept (bkW BK2) hkp (fun hs_ => (fun e_ => (Kd.R_ne HO28.out BK2.out (by decide)) e_) hs_)); have n3_ := Aside0.mk (blk_kept (bkW BK3) hkp (fun hs_ => (fun e_ => (Kd.R_ne HO28.out BK3.out (by decide)) e_) hs_)); have n4_ := Aside0.mk (Kd.R_mono (ok' := fun k_ => (w.heap.size ≤ k_) ∧ some k_ ≠ (v30 : Value).ownBlock) (Kd.R_keptB (HO8.out) hkp (fun k_ hk_ hs_ => (hk_.2) hs_)) (fun k_ hk_ => ⟨hk_.1.1.1, fun e_ => Or.elim (ho0.1 k_ e_.symm) (fun hs_ => hk_.2.1 hs_) (fun hn_ => Nat.not_le.2 hk_.2.2 hn_)⟩)); have n5_ := Aside0.mk (Kd.N_mono (ok' := fun k_ => (P0_2_ k_ ∨ w.heap.size ≤ k_) ∧ some k_ ≠ (.slice Ao15 t6.length co15 : Value).ownBlock ∧ k_ ≠ gb1 ∧ k_ ≠ gb2 ∧ k_ ≠ gb3 ∧ some k_ ≠ (v30 : Value).ownBlock) (Kd.N_keptB (HO25.out) hkp (fun k_ hk_ hs_ => (hk_.2) hs_)) (fun k_ hk_ => ⟨hk_.1.1.1, hk_.1.1.2.1, hk_.1.1.2.2.1, hk_.1.1.2.2.2.1, hk_.1.1.2.2.2.2, fun e_ => Or.elim (ho0.1 k_ e_.symm) (fun hs_ => hk_.2.1 hs_) (fun hn_ => Nat.not_le.2 hk_.2.2 hn_)⟩)); have n6_ := Aside0.mk (Kd.R_mono (ok' := fun k_ => (w.heap.size ≤ k_) ∧ some k_ ≠ (.slice Ao15 t6.length co15 : Value).ownBlock) ho0 (fun k_ hk_ => ⟨Or.elim hk_ (fun hs_ => (HO28.out.1 k_ (hs_).symm).1.1) (fun hn_ => (Nat.le_trans (below_size (hbW HB)) hn_)), Or.elim hk_ (fun hs_ => fun e_ => (((HO8.out).1 k_ e_.symm).2) hs_) (fun hn_ => (Kd.fresh' (Kd.R_lt (rW HO8)) k_ hn_))⟩)); have n7_ := Aside0.mk (hb); clear HO0_2; clear BK1; clear BK2; clear BK3; clear HO8; clear HO25; clear HB; clear HO28; have HO0_2 := n0_; have BK1 := n1_; have BK2 := n2_; have BK3 := n3_; have HO8 := n4_; have HO25 := n5_; have HO31 := n6_; have HB := n7_; clear n0_ n1_ n2_ n3_ n4_ n5_ n6_ n7_; (try clear hb); (try clear hkp); (try clear ho0); obtain ⟨Ao122, co122, eo122⟩ := Kd.R_slice HO31.out; subst eo122; obtain ⟨hcz123_0, hcz123_1, hcz123_2, hcz123_3, hcz123_4, hcz123_5, hcz123_6, hcz123_7, hfz123_0, hfz123_1, hfz123_2, hfz123_3, hfz123_4, hfz123_5, hfz123_6, hfz123_7⟩ := bc8 BK2; obtain ⟨hcz124_0, hcz124_1, hcz124_2, hcz124_3, hcz124_4, hcz124_5, hcz124_6, hcz124_7, hfz124_0, hfz124_1, hfz124_2, hfz124_3, hfz124_4, hfz124_5, hfz124_6, hfz124_7⟩ := bc8 BK3))
        refine bodyPost_ret (results_cell_row rfl _ _ gb3 30 #[.int .u32 t4, .int .i64 t5, .slice Ao15 t6.length co15, .slice Ao122 t29.length co122, .int .u32 t12, .int .u32 t13, .int .i64 t14, .int .u32 t15] (0, 0) _ rfl (bp8 BK3) Try.underlying30 rfl (by kernel_rfl)) rfl ?_
        exact ⟨_, _, by first | rfl | (simp [errW_none, errW_some] <;> rfl) | (simp [*, errW_none, errW_some] <;> rfl), moR (rW HO8), moR (rW HO31), hbW HB⟩
       ·
        rw [if_neg c98] at H
        have c98b0 : (a0_0 == 6) = false := beq_eq_false_iff_ne.mpr c98
        have c98b1 : (a0_0 != 6) = true := bne_iff_ne.mpr c98
        by_cases c125 : a0_0 = 7
        ·
         rw [if_pos c125] at H
         have c125b0 : (a0_0 == 7) = true := beq_iff_eq.mpr c125
         have c125b1 : (a0_0 != 7) = false := bne_eq_false_iff_eq.mpr c125
         clear c125
         obtain ⟨y32, hy32⟩ : ∃ y_ : List (List Int), y_ = (([l0_2] : List (List Int))) := ⟨_, rfl⟩
         replace H : ((q9z.f y32).bind fun t35 => ((q10z.f k t35).bind fun t38 => (some (t4, t5, t6, t38, t12, t13, t14, t15)))) = some (r1, r2, r3, r4, r5, r6, r7, r8) := by first | (rw [hy32]; with_reducible exact H) | (have H2_ := (Option.bind_some _ _).symm.trans H; rw [hy32]; with_reducible exact H2_) | (have H2_ := (Option.bind_some _ _).symm.trans H; with_reducible exact H2_) | with_reducible exact H | (rw [hy32]; exact H) | exact H
         have Ny32 := Aside0.mk hy32
         clear hy32
         replace H := Option.bind_eq_some_iff.mp H
         obtain ⟨t35, A1260, H⟩ := H
         replace H : ((q10z.f k t35).bind fun t38 => (some (t4, t5, t6, t38, t12, t13, t14, t15))) = some (r1, r2, r3, r4, r5, r6, r7, r8) := H
         have A126 := Aside0.mk A1260
         clear A1260
         replace H := Option.bind_eq_some_iff.mp H
         obtain ⟨t38, A1270, H⟩ := H
         replace H : (some (t4, t5, t6, t38, t12, t13, t14, t15)) = some (r1, r2, r3, r4, r5, r6, r7, r8) := H
         have A127 := Aside0.mk A1270
         clear A1270
         simp only [Option.some.injEq, Prod.mk.injEq] at H
         obtain ⟨rfl, rfl, rfl, rfl, rfl, rfl, rfl, rfl⟩ := H
         go_wp2_with (first | ((with_reducible refine gate_dst (N := 57) rfl ?_); refine Kd.N_lit (Kd.slice 22 (Kd.int .u32)) _ 23 ?hg (N' := 57) ?hd (xs := ([l0_2] : List (List Int))) (inner := [.slice A0_2 l0_2.length c0_2]) (ok := (fun k_ => (P0_2_ k_ ∨ w.heap.size ≤ k_) ∧ some k_ ≠ (.slice Ao15 t6.length co15 : Value).ownBlock ∧ some k_ ≠ (.slice Ao16 t9.length co16 : Value).ownBlock ∧ k_ ≠ gb1 ∧ k_ ≠ gb2 ∧ k_ ≠ gb3)) (okp := (fun k_ => (P0_2_ k_ ∨ w.heap.size ≤ k_) ∧ some k_ ≠ (.slice Ao15 t6.length co15 : Value).ownBlock ∧ some k_ ≠ (.slice Ao16 t9.length co16 : Value).ownBlock ∧ k_ ≠ gb1 ∧ k_ ≠ gb2 ∧ k_ ≠ gb3)) ?hr ?hp (fun _ hk => hk) ((show ∀ k_, w19.heap.size ≤ k_ → (fun k_ => (P0_2_ k_ ∨ w.heap.size ≤ k_) ∧ some k_ ≠ (.slice Ao15 t6.length co15 : Value).ownBlock ∧ some k_ ≠ (.slice Ao16 t9.length co16 : Value).ownBlock ∧ k_ ≠ gb1 ∧ k_ ≠ gb2 ∧ k_ ≠ gb3) k_ from fun k_ hk => ⟨(.inr (Nat.le_trans (below_size (hbW HB)) hk)), Kd.fresh' (Kd.R_lt (rW HO8)) k_ hk, Kd.fresh' (Kd.R_lt (rW HO11)) k_ hk, Kd.freshB (g := gb1) (o := .cells #[.int .i64 a0_0, .int .u32 a0_1, .slice A0_2 l0_2.length c0_2, .slice A0_3 l0_3.length c0_3] 26 (0, 0)) (bkW BK1) k_ hk, Kd.freshB (g := gb2) (o := .cells #[.int .u32 t4, .int .i64 t5, .slice Ao15 t6.length co15, .slice Ao16 t9.length co16, .int .u32 t12, .int .u32 t13, .int .i64 t14, .int .u32 t15] 30 (0, 0)) (bkW BK2) k_ hk, Kd.freshB (g := gb3) (o := .cells #[.int .u32 0, .int .i64 0, .slice none 0 0, .slice none 0 0, .int .u32 0, .int .u32 0, .int .i64 0, .int .u32 0] 30 (0, 0)) (bkW BK3) k_ hk⟩) _ (Nat.le_refl _)) (Below.refl _ _) (Nat.le_refl _) (by simp) ?_; (case hd => rfl); (case hg => rfl); (case hr => first | (go_simp; done) | (go_simp; rfl)); (case hp => exact (Reps.one (show Kd.FK (Kd.slice 22 (Kd.int .u32)) _ _ l0_2 [.slice A0_2 l0_2.length c0_2] from (Kd.FK_slice_mk (Kd.V_reads' (Kd.V_mono (ok' := (fun k_ => (P0_2_ k_ ∨ w.heap.size ≤ k_) ∧ some k_ ≠ (.slice Ao15 t6.length co15 : Value).ownBlock ∧ some k_ ≠ (.slice Ao16 t9.length co16 : Value).ownBlock ∧ k_ ≠ gb1 ∧ k_ ≠ gb2 ∧ k_ ≠ gb3)) (HO0_2.out) (fun k_ hk => ⟨hk.1.1.1.1.1, ⟨hk.1.2, ⟨hk.2, ⟨hk.1.1.1.1.2, ⟨hk.1.1.1.2, hk.1.1.2⟩⟩⟩⟩⟩))).2.1 (Kd.V_F (Kd.V_mono (ok' := (fun k_ => (P0_2_ k_ ∨ w.heap.size ≤ k_) ∧ some k_ ≠ (.slice Ao15 t6.length co15 : Value).ownBlock ∧ some k_ ≠ (.slice Ao16 t9.length co16 : Value).ownBlock ∧ k_ ≠ gb1 ∧ k_ ≠ gb2 ∧ k_ ≠ gb3)) (HO0_2.out) (fun k_ hk => ⟨hk.1.1.1.1.1, ⟨hk.1.2, ⟨hk.2, ⟨hk.1.1.1.1.2, ⟨hk.1.1.1.2, hk.1.1.2⟩⟩⟩⟩⟩))))) (Reps.none _ _))); intro v33 w142 ho143 hb hg_ hnew_; clear hg_ hnew_; (first | rw [← Ny32.out] at ho143 | (simp only [Int.reduceToNat] at ho143; rw [← Ny32.out] at ho143)); have HO34 := Aside0.mk (Kd.N_lower ho143 (below_size (hbW HB))); replace HO0_2 := Aside0.mk (Kd.V_elder' (by (with_reducible repeat (first | apply Kd.V_alloc | apply Kd.V_drewN | apply Kd.V_drew)); exact HO0_2.out) (Kd.N_base ho143) hb); replace HO8 := Aside0.mk (Kd.R_below (rW HO8) hb); replace HO11 := Aside0.mk (Kd.R_below (rW HO11) hb); replace BK1 := bkB BK1 hb; replace BK2 := bkB BK2 hb; replace BK3 := bkB BK3 hb; replace HB := hbS HB hb; clear hb ho143; obtain ⟨Ao144, co144, eo144⟩ := Kd.N_slice HO34.out; subst eo144) | ((with_reducible refine gate_callee (f := 27) rfl ?_); refine goesL_ (some 58) rfl rfl Try.func27 (by kernel_rfl) rfl #[.slice Ao144 y32.length co144] rfl (by (try simp only [List.map_toArray, List.map_cons, List.map_nil]); first | done | rfl | (simp only [List.length_drop, List.length_take]; rfl)) ?_; (with_reducible refine (q9z.calls _ _ y32 t35 _ ?side1 ?side2 A126.out).mono ?_); (case side1 => repeat (first | exact (Kd.N_reads' HO34.out).2.2 | (with_reducible refine Kd.C_alloc ?_ _) | (with_reducible refine Kd.C_drewN ?_ _) | (with_reducible refine Kd.C_drew ?_))); (case side2 => exact (Kd.N_reads' HO34.out).2.1); rintro e w145 ⟨v36, rfl, ho0, hb⟩; refine ⟨_, rfl, ?_⟩; have HO37 := Aside0.mk (Kd.R_lower (Kd.R_new' (Kd.R_new' (Kd.R_newM (M := fun k_ => (w.heap.size ≤ k_)) ho0 (below_size (hbW HB)) (fun k_ h_ => h_)) (Kd.R_lt (rW HO8))) (Kd.R_lt (rW HO11))) (below_size (hbW HB))); replace HO0_2 := Aside0.mk (Kd.V_elder' (by (with_reducible repeat (first | apply Kd.V_alloc | apply Kd.V_drewN | apply Kd.V_drew)); exact HO0_2.out) (Kd.R_base ho0) hb); replace HO8 := Aside0.mk (Kd.R_elder' (rW HO8) (Kd.R_base ho0) hb); replace HO11 := Aside0.mk (Kd.R_elder' (rW HO11) (Kd.R_base ho0) hb); replace HO34 := Aside0.mk (Kd.N_elder' (by (with_reducible repeat (first | apply Kd.N_alloc | apply Kd.N_drewN | apply Kd.N_drew)); exact HO34.out) (Kd.R_base ho0) hb); replace BK1 := bkB BK1 hb; replace BK2 := bkB BK2 hb; replace BK3 := bkB BK3 hb; replace HB := hbS HB hb; (try clear hb); (try clear hk); (try clear ho0); obtain ⟨Ao146, co146, eo146⟩ := Kd.R_slice HO37.out; subst eo146) | ((with_reducible refine gate_callee (f := 28) rfl ?_); refine goesL_ (some 59) rfl rfl Try.func28 (by kernel_rfl) rfl #[.slice Ao146 t35.length co146] rfl (by (try simp only [List.map_toArray, List.map_cons, List.map_nil]); first | done | rfl | (simp only [List.length_drop, List.length_take]; rfl)) ?_; (with_reducible refine (q10z.calls k (fun k_ => some k_ = (.slice Ao146 t35.length co146 : Value).ownBlock) (.slice Ao146 t35.length co146) t35 t38 w _ ?side1 ?side2 A127.out).mono ?_); (case side1 => exact hbW HB); (case side2 => exact Kd.R_tight rfl HO37.out); rintro e w147 ⟨v39, rfl, ho0, hb, hkp⟩; refine ⟨_, rfl, ?_⟩; have n0_ := Aside0.mk (Kd.V_mono (ok' := fun k_ => (P0_2_ k_ ∨ w.heap.size ≤ k_) ∧ some k_ ≠ (.slice Ao15 t6.length co15 : Value).ownBlock ∧ some k_ ≠ (.slice Ao16 t9.length co16 : Value).ownBlock ∧ some k_ ≠ (.slice Ao144 y32.length co144 : Value).ownBlock ∧ k_ ≠ gb1 ∧ k_ ≠ gb2 ∧ k_ ≠ gb3 ∧ some k_ ≠ (v39 : Value).ownBlock) (Kd.V_keptB (HO0_2.out) hkp (fun k_ hk_ hs_ => (hk_.2) hs_)) (fun k_ hk_ => ⟨hk_.1.1.1.1.1.1.1.1, hk_.1.1.1.1.2, hk_.1.1.1.2, hk_.1.1.2, hk_.1.1.1.1.1.1.1.2, hk_.1.1.1.1.1.1.2, hk_.1.1.1.1.1.2, fun e_ => Or.elim (ho0.1 k_ e_.symm) (fun hs_ => hk_.2.1 hs_) (fun hn_ => Nat.not_le.2 hk_.2.2 hn_)⟩)); have n1_ := Aside0.mk (blk_kept (bkW BK1) hkp (fun hs_ => (fun e_ => (Kd.R_ne HO37.out BK1.out (by decide)) e_) hs_)); have n2_ := Aside0.mk (blk_kept (bkW BK2) hkp (fun hs_ => (fun e_ => (Kd.R_ne HO37.out BK2.out (by decide)) e_) hs_)); have n3_ := Aside0.mk (blk_kept (bkW BK3) hkp (fun hs_ => (fun e_ => (Kd.R_ne HO37.out BK3.out (by decide)) e_) hs_)); have n4_ := Aside0.mk (Kd.R_mono (ok' := fun k_ => (w.heap.size ≤ k_) ∧ some k_ ≠ (.slice Ao16 t9.length co16 : Value).ownBlock ∧ some k_ ≠ (v39 : Value).ownBlock) (Kd.R_keptB (HO8.out) hkp (fun k_ hk_ hs_ => (hk_.2) hs_)) (fun k_ hk_ => ⟨hk_.1.1.1, hk_.1.1.2, fun e_ => Or.elim (ho0.1 k_ e_.symm) (fun hs_ => hk_.2.1 hs_) (fun hn_ => Nat.not_le.2 hk_.2.2 hn_)⟩)); have n5_ := Aside0.mk (Kd.R_mono (ok' := fun k_ => (w.heap.size ≤ k_) ∧ some k_ ≠ (.slice Ao15 t6.length co15 : Value).ownBlock ∧ some k_ ≠ (v39 : Value).ownBlock) (Kd.R_keptB (HO11.out) hkp (fun k_ hk_ hs_ => (hk_.2) hs_)) (fun k_ hk_ => ⟨hk_.1.1.1, hk_.1.1.2, fun e_ => Or.elim (ho0.1 k_ e_.symm) (fun hs_ => hk_.2.1 hs_) (fun hn_ => Nat.not_le.2 hk_.2.2 hn_)⟩)); have n6_ := Aside0.mk (Kd.N_mono (ok' := fun k_ => (P0_2_ k_ ∨ w.heap.size ≤ k_) ∧ some k_ ≠ (.slice Ao15 t6.length co15 : Value).ownBlock ∧ some k_ ≠ (.slice Ao16 t9.length co16 : Value).ownBlock ∧ k_ ≠ gb1 ∧ k_ ≠ gb2 ∧ k_ ≠ gb3 ∧ some k_ ≠ (v39 : Value).ownBlock) (Kd.N_keptB (HO34.out) hkp (fun k_ hk_ hs_ => (hk_.2) hs_)) (fun k_ hk_ => ⟨hk_.1.1.1, hk_.1.1.2.1, hk_.1.1.2.2.1, hk_.1.1.2.2.2.1, hk_.1.1.2.2.2.2.1, hk_.1.1.2.2.2.2.2, fun e_ => Or.elim (ho0.1 k_ e_.symm) (fun hs_ => hk_.2.1 hs_) (fun hn_ => Nat.not_le.2 hk_.2.2 hn_)⟩)); have n7_ := Aside0.mk (Kd.R_mono (ok' := fun k_ => (w.heap.size ≤ k_) ∧ some k_ ≠ (.slice Ao15 t6.length co15 : Value).ownBlock ∧ some k_ ≠ (.slice Ao16 t9.length co16 : Value).ownBlock) ho0 (fun k_ hk_ => ⟨Or.elim hk_ (fun hs_ => (HO37.out.1 k_ (hs_).symm).1.1.1) (fun hn_ => (Nat.le_trans (below_size (hbW HB)) hn_)), Or.elim hk_ (fun hs_ => fun e_ => (((HO8.out).1 k_ e_.symm).2) hs_) (fun hn_ => (Kd.fresh' (Kd.R_lt (rW HO8)) k_ hn_)), Or.elim hk_ (fun hs_ => fun e_ => (((HO11.out).1 k_ e_.symm).2) hs_) (fun hn_ => (Kd.fresh' (Kd.R_lt (rW HO11)) k_ hn_))⟩)); have n8_ := Aside0.mk (hb); clear HO0_2; clear BK1; clear BK2; clear BK3; clear HO8; clear HO11; clear HO34; clear HB; clear HO37; have HO0_2 := n0_; have BK1 := n1_; have BK2 := n2_; have BK3 := n3_; have HO8 := n4_; have HO11 := n5_; have HO34 := n6_; have HO40 := n7_; have HB := n8_; clear n0_ n1_ n2_ n3_ n4_ n5_ n6_ n7_ n8_; (try clear hb); (try clear hkp); (try clear ho0); obtain ⟨Ao148, co148, eo148⟩ := Kd.R_slice HO40.out; subst eo148; obtain ⟨hcz149_0, hcz149_1, hcz149_2, hcz149_3, hcz149_4, hcz149_5, hcz149_6, hcz149_7, hfz149_0, hfz149_1, hfz149_2, hfz149_3, hfz149_4, hfz149_5, hfz149_6, hfz149_7⟩ := bc8 BK2; obtain ⟨hcz150_0, hcz150_1, hcz150_2, hcz150_3, hcz150_4, hcz150_5, hcz150_6, hcz150_7, hfz150_0, hfz150_1, hfz150_2, hfz150_3, hfz150_4, hfz150_5, hfz150_6, hfz150_7⟩ := bc8 BK3))
         refine bodyPost_ret (results_cell_row rfl _ _ gb3 30 #[.int .u32 t4, .int .i64 t5, .slice Ao15 t6.length co15, .slice Ao148 t38.length co148, .int .u32 t12, .int .u32 t13, .int .i64 t14, .int .u32 t15] (0, 0) _ rfl (bp8 BK3) Try.underlying30 rfl (by kernel_rfl)) rfl ?_
         exact ⟨_, _, by first | rfl | (simp [errW_none, errW_some] <;> rfl) | (simp [*, errW_none, errW_some] <;> rfl), moR (rW HO8), moR (rW HO40), hbW HB⟩
        ·
         rw [if_neg c125] at H
         have c125b0 : (a0_0 == 7) = false := beq_eq_false_iff_ne.mpr c125
         have c125b1 : (a0_0 != 7) = true := bne_iff_ne.mpr c125
         by_cases c151 : a0_0 = 8
         ·
          rw [if_pos c151] at H
          have c151b0 : (a0_0 == 8) = true := beq_iff_eq.mpr c151
          have c151b1 : (a0_0 != 8) = false := bne_eq_false_iff_eq.mpr c151
          clear c151
          replace H := Option.bind_eq_some_iff.mp H
          obtain ⟨t41, A1520, H⟩ := H
          replace H : ((q10z.f k t41).bind fun t44 => (some (t4, t5, t6, t44, t12, t13, t14, t15))) = some (r1, r2, r3, r4, r5, r6, r7, r8) := H
          have A152 := Aside0.mk A1520
          clear A1520
          replace H := Option.bind_eq_some_iff.mp H
          obtain ⟨t44, A1530, H⟩ := H
          replace H : (some (t4, t5, t6, t44, t12, t13, t14, t15)) = some (r1, r2, r3, r4, r5, r6, r7, r8) := H
          have A153 := Aside0.mk A1530
          clear A1530
          simp only [Option.some.injEq, Prod.mk.injEq] at H
          obtain ⟨rfl, rfl, rfl, rfl, rfl, rfl, rfl, rfl⟩ := H
          go_wp2_with (first | ((with_reducible refine gate_callee (f := 29) rfl ?_); refine goesL_ (some 66) rfl rfl Try.func29 (by kernel_rfl) rfl #[.slice Ao16 t9.length co16, .func (.func 30) #[] #[.pointer (some ⟨gb1, 0, none⟩)]] rfl (by (try simp only [List.map_toArray, List.map_cons, List.map_nil]); first | done | rfl | (simp only [List.length_drop, List.length_take]; rfl)) ?_; (with_reducible refine (act_del.calls gb1 #[.int .i64 a0_0, .int .u32 a0_1, .slice A0_2 l0_2.length c0_2, .slice A0_3 l0_3.length c0_3] (fun k_ => some k_ = (.slice Ao16 t9.length co16 : Value).ownBlock) (.slice Ao16 t9.length co16) t9 A0_3 c0_3 l0_3 t41 w _ ?side1 ?side2 ?side3 ?side4 ?sideB ?sideC ?sideG A152.out).mono ?_); (case sideB => exact (bkW BK1)); (case sideC => exact rfl); (case sideG => exact (fun hs_ => (Kd.R_ne HO11.out BK1.out (by decide)) hs_)); (case side1 => exact hbW HB); (case side2 => exact Kd.R_tight rfl HO11.out); (case side3 => exact Kd.C_kept_came k53_heap HR0_3.out (hbW HB) (fun k_ hs_ => (fun e_ => Kd.R_base HO11.out k_ e_.symm) hs_)); (case side4 => exact HC0_3.out); rintro e w169 ⟨v42, rfl, ho0, hb, hkp⟩; refine ⟨_, rfl, ?_⟩; have n0_ := Aside0.mk (Kd.V_mono (ok' := fun k_ => (P0_2_ k_ ∨ w.heap.size ≤ k_) ∧ some k_ ≠ (.slice Ao15 t6.length co15 : Value).ownBlock ∧ k_ ≠ gb1 ∧ k_ ≠ gb2 ∧ k_ ≠ gb3 ∧ some k_ ≠ (v42 : Value).ownBlock) (Kd.V_keptB (HO0_2.out) hkp (fun k_ hk_ hs_ => (hk_.2) hs_)) (fun k_ hk_ => ⟨hk_.1.1.1.1.1.1, hk_.1.1.2, hk_.1.1.1.1.1.2, hk_.1.1.1.1.2, hk_.1.1.1.2, fun e_ => Or.elim (ho0.1 k_ e_.symm) (fun hs_ => hk_.2.1 hs_) (fun hn_ => Nat.not_le.2 hk_.2.2 hn_)⟩)); have n1_ := Aside0.mk (blk_kept (bkW BK1) hkp (fun hs_ => (fun e_ => (Kd.R_ne HO11.out BK1.out (by decide)) e_) hs_)); have n2_ := Aside0.mk (blk_kept (bkW BK2) hkp (fun hs_ => (fun e_ => (Kd.R_ne HO11.out BK2.out (by decide)) e_) hs_)); have n3_ := Aside0.mk (blk_kept (bkW BK3) hkp (fun hs_ => (fun e_ => (Kd.R_ne HO11.out BK3.out (by decide)) e_) hs_)); have n4_ := Aside0.mk (Kd.R_mono (ok' := fun k_ => (w.heap.size ≤ k_) ∧ some k_ ≠ (v42 : Value).ownBlock) (Kd.R_keptB (HO8.out) hkp (fun k_ hk_ hs_ => (hk_.2) hs_)) (fun k_ hk_ => ⟨hk_.1.1, fun e_ => Or.elim (ho0.1 k_ e_.symm) (fun hs_ => hk_.2.1 hs_) (fun hn_ => Nat.not_le.2 hk_.2.2 hn_)⟩)); have n5_ := Aside0.mk (Kd.R_mono (ok' := fun k_ => (w.heap.size ≤ k_) ∧ some k_ ≠ (.slice Ao15 t6.length co15 : Value).ownBlock) ho0 (fun k_ hk_ => ⟨Or.elim hk_ (fun hs_ => (HO11.out.1 k_ (hs_).symm).1) (fun hn_ => (Nat.le_trans (below_size (hbW HB)) hn_)), Or.elim hk_ (fun hs_ => fun e_ => (((HO8.out).1 k_ e_.symm).2) hs_) (fun hn_ => (Kd.fresh' (Kd.R_lt (rW HO8)) k_ hn_))⟩)); have n6_ := Aside0.mk (hb); clear HO0_2; clear BK1; clear BK2; clear BK3; clear HO8; clear HB; clear HO11; have HO0_2 := n0_; have BK1 := n1_; have BK2 := n2_; have BK3 := n3_; have HO8 := n4_; have HO43 := n5_; have HB := n6_; clear n0_ n1_ n2_ n3_ n4_ n5_ n6_; (try clear hb); (try clear hkp); (try clear ho0); obtain ⟨Ao170, co170, eo170⟩ := Kd.R_slice HO43.out; subst eo170) | ((with_reducible refine gate_callee (f := 28) rfl ?_); refine goesL_ (some 67) rfl rfl Try.func28 (by kernel_rfl) rfl #[.slice Ao170 t41.length co170] rfl (by (try simp only [List.map_toArray, List.map_cons, List.map_nil]); first | done | rfl | (simp only [List.length_drop, List.length_take]; rfl)) ?_; (with_reducible refine (q10z.calls k (fun k_ => some k_ = (.slice Ao170 t41.length co170 : Value).ownBlock) (.slice Ao170 t41.length co170) t41 t44 w _ ?side1 ?side2 A153.out).mono ?_); (case side1 => exact hbW HB); (case side2 => exact Kd.R_tight rfl HO43.out); rintro e w171 ⟨v45, rfl, ho0, hb, hkp⟩; refine ⟨_, rfl, ?_⟩; have n0_ := Aside0.mk (Kd.V_mono (ok' := fun k_ => (P0_2_ k_ ∨ w.heap.size ≤ k_) ∧ some k_ ≠ (.slice Ao15 t6.length co15 : Value).ownBlock ∧ k_ ≠ gb1 ∧ k_ ≠ gb2 ∧ k_ ≠ gb3 ∧ some k_ ≠ (v45 : Value).ownBlock) (Kd.V_keptB (HO0_2.out) hkp (fun k_ hk_ hs_ => (hk_.2.2.2.2.2) hs_)) (fun k_ hk_ => ⟨hk_.1.1, hk_.1.2.1, hk_.1.2.2.1, hk_.1.2.2.2.1, hk_.1.2.2.2.2.1, fun e_ => Or.elim (ho0.1 k_ e_.symm) (fun hs_ => hk_.2.1 hs_) (fun hn_ => Nat.not_le.2 hk_.2.2 hn_)⟩)); have n1_ := Aside0.mk (blk_kept (bkW BK1) hkp (fun hs_ => (fun e_ => (Kd.R_ne HO43.out BK1.out (by decide)) e_) hs_)); have n2_ := Aside0.mk (blk_kept (bkW BK2) hkp (fun hs_ => (fun e_ => (Kd.R_ne HO43.out BK2.out (by decide)) e_) hs_)); have n3_ := Aside0.mk (blk_kept (bkW BK3) hkp (fun hs_ => (fun e_ => (Kd.R_ne HO43.out BK3.out (by decide)) e_) hs_)); have n4_ := Aside0.mk (Kd.R_mono (ok' := fun k_ => (w.heap.size ≤ k_) ∧ some k_ ≠ (v45 : Value).ownBlock) (Kd.R_keptB (HO8.out) hkp (fun k_ hk_ hs_ => (hk_.2) hs_)) (fun k_ hk_ => ⟨hk_.1.1, fun e_ => Or.elim (ho0.1 k_ e_.symm) (fun hs_ => hk_.2.1 hs_) (fun hn_ => Nat.not_le.2 hk_.2.2 hn_)⟩)); have n5_ := Aside0.mk (Kd.R_mono (ok' := fun k_ => (w.heap.size ≤ k_) ∧ some k_ ≠ (.slice Ao15 t6.length co15 : Value).ownBlock) ho0 (fun k_ hk_ => ⟨Or.elim hk_ (fun hs_ => (HO43.out.1 k_ (hs_).symm).1) (fun hn_ => (Nat.le_trans (below_size (hbW HB)) hn_)), Or.elim hk_ (fun hs_ => fun e_ => (((HO8.out).1 k_ e_.symm).2) hs_) (fun hn_ => (Kd.fresh' (Kd.R_lt (rW HO8)) k_ hn_))⟩)); have n6_ := Aside0.mk (hb); clear HO0_2; clear BK1; clear BK2; clear BK3; clear HO8; clear HB; clear HO43; have HO0_2 := n0_; have BK1 := n1_; have BK2 := n2_; have BK3 := n3_; have HO8 := n4_; have HO46 := n5_; have HB := n6_; clear n0_ n1_ n2_ n3_ n4_ n5_ n6_; (try clear hb); (try clear hkp); (try clear ho0); obtain ⟨Ao172, co172, eo172⟩ := Kd.R_slice HO46.out; subst eo172; obtain ⟨hcz173_0, hcz173_1, hcz173_2, hcz173_3, hcz173_4, hcz173_5, hcz173_6, hcz173_7, hfz173_0, hfz173_1, hfz173_2, hfz173_3, hfz173_4, hfz173_5, hfz173_6, hfz173_7⟩ := bc8 BK2; obtain ⟨hcz174_0, hcz174_1, hcz174_2, hcz174_3, hcz174_4, hcz174_5, hcz174_6, hcz174_7, hfz174_0, hfz174_1, hfz174_2, hfz174_3, hfz174_4, hfz174_5, hfz174_6, hfz174_7⟩ := bc8 BK3))
          refine bodyPost_ret (results_cell_row rfl _ _ gb3 30 #[.int .u32 t4, .int .i64 t5, .slice Ao15 t6.length co15, .slice Ao172 t44.length co172, .int .u32 t12, .int .u32 t13, .int .i64 t14, .int .u32 t15] (0, 0) _ rfl (bp8 BK3) Try.underlying30 rfl (by kernel_rfl)) rfl ?_
          exact ⟨_, _, by first | rfl | (simp [errW_none, errW_some] <;> rfl) | (simp [*, errW_none, errW_some] <;> rfl), moR (rW HO8), moR (rW HO46), hbW HB⟩
         ·
          rw [if_neg c151] at H
          have c151b0 : (a0_0 == 8) = false := beq_eq_false_iff_ne.mpr c151
          have c151b1 : (a0_0 != 8) = true := bne_iff_ne.mpr c151
          simp only [Option.some.injEq, Prod.mk.injEq] at H
          obtain ⟨rfl, rfl, rfl, rfl, rfl, rfl, rfl, rfl⟩ := H
          go_wp2
          refine bodyPost_ret (results_cell_row rfl _ _ gb3 30 #[.int .u32 t4, .int .i64 t5, .slice Ao15 t6.length co15, .slice Ao16 t9.length co16, .int .u32 t12, .int .u32 t13, .int .i64 t14, .int .u32 t15] (0, 0) _ rfl (bp8 BK3) Try.underlying30 rfl (by kernel_rfl)) rfl ?_
          exact ⟨_, _, by first | rfl | (simp [errW_none, errW_some] <;> rfl) | (simp [*, errW_none, errW_some] <;> rfl), moR (rW HO8), moR (rW HO11), hbW HB⟩
 ·
  replace c5 := Bool.eq_false_iff.mpr c5
  subst c5
  have H1 : (some (t4, t5, t6, t9, t12, t13, t14, t15)) = some (r1, r2, r3, r4, r5, r6, r7, r8) := by rw [if_neg (show ¬ (false = true) by decide)] at H; exact H
  clear H
  have H := H1
  clear H1
  simp only [Option.some.injEq, Prod.mk.injEq] at H
  obtain ⟨rfl, rfl, rfl, rfl, rfl, rfl, rfl, rfl⟩ := H
  go_enter Try.func13, Try.ntmps13
  go_wp2_with (first | ((with_reducible refine gate_dst (N := 2) rfl ?_); refine box_event ?hg (N := 2) ?hd (cs := #[.int .i64 a0_0, .int .u32 a0_1, .slice A0_2 l0_2.length c0_2, .slice A0_3 l0_3.length c0_3]) (t := 26) ?hr ?_; (case hd => rfl); (case hg => rfl); (case hr => first | (go_simp; done) | (go_simp; rfl)); intro gb1 hg w191 hbox hb; have BK1 := Aside0.mk (hbox); have GW1 := gwS hg HB; have GE1 := gwS hg HB; replace HO0_2 := Aside0.mk (Kd.V_below (Kd.V_elderB (by (with_reducible repeat (first | apply Kd.V_alloc | apply Kd.V_drewN | apply Kd.V_drew)); exact HO0_2.out) gb1 (Nat.le_of_eq hg.symm)) hb); replace HB := hbS HB hb; clear hb hbox hg) | ((with_reducible refine gate_dst (N := 3) rfl ?_); refine box_event ?hg (N := 3) ?hd (cs := #[.int .u32 a1_0, .int .i64 a1_1, .slice A1_2 l1_2.length c1_2, .slice A1_3 l1_3.length c1_3, .int .u32 a1_4, .int .u32 a1_5, .int .i64 a1_6, .int .u32 a1_7]) (t := 30) ?hr ?_; (case hd => rfl); (case hg => rfl); (case hr => first | (go_simp; done) | (go_simp; rfl)); intro gb2 hg w192 hbox hb; have BK2 := Aside0.mk (hbox); have GW2 := gwS hg HB; have GE2 := gwS hg HB; have NB1_2 := nbL hg BK1; have NB2_1 := nbG hg BK1; replace HO0_2 := Aside0.mk (Kd.V_below (Kd.V_elderB (by (with_reducible repeat (first | apply Kd.V_alloc | apply Kd.V_drewN | apply Kd.V_drew)); exact HO0_2.out) gb2 (Nat.le_of_eq hg.symm)) hb); replace BK1 := bkB BK1 hb; replace HB := hbS HB hb; clear hb hbox hg) | ((with_reducible refine gate_dst (N := 4) rfl ?_); refine box_event ?hg (N := 4) ?hd (cs := #[.int .u32 0, .int .i64 0, .slice none 0 0, .slice none 0 0, .int .u32 0, .int .u32 0, .int .i64 0, .int .u32 0]) (t := 30) ?hr ?_; (case hd => rfl); (case hg => rfl); (case hr => first | (go_simp; done) | (go_simp; rfl)); intro gb3 hg w193 hbox hb; have BK3 := Aside0.mk (hbox); have GW3 := gwS hg HB; have GE3 := gwS hg HB; have NB1_3 := nbL hg BK1; have NB3_1 := nbG hg BK1; have NB2_3 := nbL hg BK2; have NB3_2 := nbG hg BK2; replace HO0_2 := Aside0.mk (Kd.V_below (Kd.V_elderB (by (with_reducible repeat (first | apply Kd.V_alloc | apply Kd.V_drewN | apply Kd.V_drew)); exact HO0_2.out) gb3 (Nat.le_of_eq hg.symm)) hb); replace BK1 := bkB BK1 hb; replace BK2 := bkB BK2 hb; replace HB := hbS HB hb; clear hb hbox hg; have hnb194 := NB2_1.out; have hnc194 := NB1_2.out; have hnb195 := NB2_3.out; have hnc195 := NB3_2.out; obtain ⟨hcz196_0, hcz196_1, hcz196_2, hcz196_3, hcz196_4, hcz196_5, hcz196_6, hcz196_7, hfz196_0, hfz196_1, hfz196_2, hfz196_3, hfz196_4, hfz196_5, hfz196_6, hfz196_7⟩ := bc8 BK2) | ((with_reducible refine gate_callee (f := 26) rfl ?_); refine goesL_ (some 6) rfl rfl Try.func26 (by kernel_rfl) rfl #[.agg #[.int .u32 a1_0, .int .i64 a1_1, .slice A1_2 l1_2.length c1_2, .slice A1_3 l1_3.length c1_3, .int .u32 a1_4, .int .u32 a1_5, .int .i64 a1_6, .int .u32 a1_7]] rfl (by (try simp only [List.map_toArray, List.map_cons, List.map_nil]); first | done | rfl | (simp only [List.length_drop, List.length_take]; rfl)) ?_; (with_reducible refine (q8z.calls a1_0 a1_1 _ _ l1_2 _ _ l1_3 a1_4 a1_5 a1_6 a1_7 t4 t5 t6 t9 t12 t13 t14 t15 _ ?side1 ?side2 ?side3 ?side4 A3.out).mono ?_); (case side1 => repeat (first | exact (Kd.C_below HR1_2.out HB.out) | (with_reducible refine Kd.C_alloc ?_ _) | (with_reducible refine Kd.C_drewN ?_ _) | (with_reducible refine Kd.C_drew ?_))); (case side2 => exact HC1_2.out); (case side3 => repeat (first | exact (Kd.C_below HR1_3.out HB.out) | (with_reducible refine Kd.C_alloc ?_ _) | (with_reducible refine Kd.C_drewN ?_ _) | (with_reducible refine Kd.C_drew ?_))); (case side4 => exact HC1_3.out); rintro e w197 ⟨v7, v10, rfl, ho0, ho1, hb⟩; refine ⟨_, rfl, ?_⟩; have HO8 := Aside0.mk (Kd.R_lower (Kd.R_newM (M := fun k_ => (w.heap.size ≤ k_)) ho0 (below_size (hbW HB)) (fun k_ h_ => h_)) (below_size (hbW HB))); have HO11 := Aside0.mk (Kd.R_lower (Kd.R_newM (M := fun k_ => (w.heap.size ≤ k_)) ho1 (below_size (hbW HB)) (fun k_ h_ => h_)) (below_size (hbW HB))); replace HO0_2 := Aside0.mk (Kd.V_mono (Kd.V_told (Kd.V_told (Kd.V_old (by (with_reducible repeat (first | apply Kd.V_alloc | apply Kd.V_drewN | apply Kd.V_drew)); exact HO0_2.out) hb) (Kd.R_base ho0)) (Kd.R_base ho1)) (fun _ h_ => h_.1)); replace BK1 := bkB BK1 hb; replace BK2 := bkB BK2 hb; replace BK3 := bkB BK3 hb; replace HB := hbS HB hb; (try clear hb); (try clear hk); (try clear ho0); (try clear ho1); obtain ⟨hcz198_0, hcz198_1, hcz198_2, hcz198_3, hcz198_4, hcz198_5, hcz198_6, hcz198_7, hfz198_0, hfz198_1, hfz198_2, hfz198_3, hfz198_4, hfz198_5, hfz198_6, hfz198_7⟩ := bc8 BK2; obtain ⟨Ao199, co199, eo199⟩ := Kd.R_slice HO8.out; subst eo199; obtain ⟨Ao200, co200, eo200⟩ := Kd.R_slice HO11.out; subst eo200; have hnb201 := NB1_3.out; have hnc201 := NB3_1.out; obtain ⟨hcz202_0, hcz202_1, hcz202_2, hcz202_3, hfz202_0, hfz202_1, hfz202_2, hfz202_3⟩ := bc4 BK1) | ((with_reducible refine gate_callee (f := 14) rfl ?_); refine goesL_ (some 8) rfl rfl Try.func14 (by kernel_rfl) rfl #[.agg #[.int .i64 a0_0, .int .u32 a0_1, .slice A0_2 l0_2.length c0_2, .slice A0_3 l0_3.length c0_3]] rfl (by (try simp only [List.map_toArray, List.map_cons, List.map_nil]); first | done | rfl | (simp only [List.length_drop, List.length_take]; rfl)) ?_; (with_reducible refine (q7z.calls k a0_0 a0_1 _ _ l0_2 _ _ l0_3 false _ ?side1 ?side2 ?side3 ?side4 A4.out).mono ?_); (case side1 => refine (Kd.V_reads' (e := 22) (base := w.heap.size) (ok := fun k_ => ((((((P0_2_ k_ ∨ w.heap.size ≤ k_) ∧ k_ ≠ gb1) ∧ k_ ≠ gb2) ∧ k_ ≠ gb3) ∧ some k_ ≠ (.slice Ao199 t6.length co199 : Value).ownBlock) ∧ some k_ ≠ (.slice Ao200 t9.length co200 : Value).ownBlock)) (n := l0_2.length) (c := c0_2) ?_).2.2; exact (by (with_reducible repeat (first | apply Kd.V_alloc | apply Kd.V_drewN | apply Kd.V_drew)); exact (Kd.V_mono (Kd.V_far (p := ⟨gb2, 7, none⟩) (Kd.V_far (p := ⟨gb2, 6, none⟩) (Kd.V_far (p := ⟨gb2, 5, none⟩) (Kd.V_far (p := ⟨gb2, 4, none⟩) (Kd.V_far (p := ⟨gb2, 3, none⟩) (Kd.V_far (p := ⟨gb2, 2, none⟩) (Kd.V_far (p := ⟨gb2, 1, none⟩) (Kd.V_far (p := ⟨gb2, 0, none⟩) (Kd.V_mono HO0_2.out (fun k_ hk => (⟨hk, hk.1.1.1.2⟩ : _ ∧ k_ ≠ gb2))) (fun _ hk => hk.2) (.int .u32 t4)) (fun _ hk => hk.2) (.int .i64 t5)) (fun _ hk => hk.2) (.slice Ao199 t6.length co199)) (fun _ hk => hk.2) (.slice Ao200 t9.length co200)) (fun _ hk => hk.2) (.int .u32 t12)) (fun _ hk => hk.2) (.int .u32 t13)) (fun _ hk => hk.2) (.int .i64 t14)) (fun _ hk => hk.2) (.int .u32 t15)) (fun _ h_ => h_.1)))); (case side2 => exact (Kd.V_reads' HO0_2.out).2.1); (case side3 => exact Kd.C_below HR0_3.out (hbW HB)); (case side4 => exact HC0_3.out); rintro e w203 ⟨rfl, hb⟩; refine ⟨_, rfl, ?_⟩; replace HO0_2 := Aside0.mk (Kd.V_below (by (with_reducible repeat (first | apply Kd.V_alloc | apply Kd.V_drewN | apply Kd.V_drew)); exact (Kd.V_mono (Kd.V_far (p := ⟨gb2, 7, none⟩) (Kd.V_far (p := ⟨gb2, 6, none⟩) (Kd.V_far (p := ⟨gb2, 5, none⟩) (Kd.V_far (p := ⟨gb2, 4, none⟩) (Kd.V_far (p := ⟨gb2, 3, none⟩) (Kd.V_far (p := ⟨gb2, 2, none⟩) (Kd.V_far (p := ⟨gb2, 1, none⟩) (Kd.V_far (p := ⟨gb2, 0, none⟩) (Kd.V_mono HO0_2.out (fun k_ hk => (⟨hk, hk.1.1.1.2⟩ : _ ∧ k_ ≠ gb2))) (fun _ hk => hk.2) (.int .u32 t4)) (fun _ hk => hk.2) (.int .i64 t5)) (fun _ hk => hk.2) (.slice Ao199 t6.length co199)) (fun _ hk => hk.2) (.slice Ao200 t9.length co200)) (fun _ hk => hk.2) (.int .u32 t12)) (fun _ hk => hk.2) (.int .u32 t13)) (fun _ hk => hk.2) (.int .i64 t14)) (fun _ hk => hk.2) (.int .u32 t15)) (fun _ h_ => h_.1))) hb); replace HO8 := Aside0.mk (Kd.R_below (rW HO8) hb); replace HO11 := Aside0.mk (Kd.R_below (rW HO11) hb); replace BK1 := bvB BK1 hb; replace BK2 := Aside0.mk (blk_below (g := gb2) (o := .cells #[.int .u32 t4, .int .i64 t5, .slice Ao199 t6.length co199, .slice Ao200 t9.length co200, .int .u32 t12, .int .u32 t13, .int .i64 t14, .int .u32 t15] 30 (0, 0)) (bp8 BK2) hb); replace BK3 := bvB BK3 hb; replace HB := hbS HB hb; (try clear hb); (try clear hk); obtain ⟨hcz204_0, hcz204_1, hcz204_2, hcz204_3, hcz204_4, hcz204_5, hcz204_6, hcz204_7, hfz204_0, hfz204_1, hfz204_2, hfz204_3, hfz204_4, hfz204_5, hfz204_6, hfz204_7⟩ := bc8 BK2; obtain ⟨hcz205_0, hcz205_1, hcz205_2, hcz205_3, hcz205_4, hcz205_5, hcz205_6, hcz205_7, hfz205_0, hfz205_1, hfz205_2, hfz205_3, hfz205_4, hfz205_5, hfz205_6, hfz205_7⟩ := bc8 BK3))
  refine bodyPost_ret (results_cell_row rfl _ _ gb3 30 #[.int .u32 t4, .int .i64 t5, .slice Ao199 t6.length co199, .slice Ao200 t9.length co200, .int .u32 t12, .int .u32 t13, .int .i64 t14, .int .u32 t15] (0, 0) _ rfl (bp8 BK3) Try.underlying30 rfl (by kernel_rfl)) rfl ?_
  exact ⟨_, _, by first | rfl | (simp [errW_none, errW_some] <;> rfl) | (simp [*, errW_none, errW_some] <;> rfl), moR (rW HO8), moR (rW HO11), hbW HB⟩

/-! ### dragomanref11_CommsRight: function 34 -/
def q12z.l0 : Nat → List (S53) → Int → Int → Option (Bool)
 | 0, _, _, _ => none
 | k + 1, x8, x9, x10 => if x10 < x9 then (if 0 ≤ x10 then (if x10 < (x8.length : Int) then (if (((rd_T53 x8 x10).f1).length : Int) > 64 then (some false) else (q12z.l0 k x8 x9 (wrap64 (x10 + 1)))) else (none)) else (none)) else (some true)
def q12z.f (k : Nat) (l0 : List (S53)) : Option (Bool) := if (l0.length : Int) > 64 then (some false) else (q12z.l0 k l0 (l0.length : Int) 0)
theorem q12z.mono_l : ∀ k, (∀ y0 y1 y2, LeO (q12z.l0 k y0 y1 y2) (q12z.l0 (k + 1) y0 y1 y2))
 | 0 => fun _ _ _ r h => by simp [q12z.l0] at h
 | k + 1 => by
  have ih0 := q12z.mono_l k
  ·
   intro y0 y1 y2
   unfold q12z.l0
   repeat' first
   | (with_reducible exact ih0 _ _ _)
   | (with_reducible exact LeO.refl _)
   | (with_reducible exact LeO.none _)
   | (with_reducible refine LeO.ite ?_ ?_)
   | (with_reducible refine LeO.bind ?_ (fun _ => ?_))
   | exact ih0 _ _ _
   | exact LeO.none _
   | refine LeO.ite ?_ ?_
   | refine LeO.bind ?_ (fun _ => ?_)
theorem q12z.mono : ∀ a0 k, LeO (q12z.f k a0) (q12z.f (k + 1) a0) := by
 intro a0 k
 have ih0 := q12z.mono_l k
 unfold q12z.f
 repeat' first
   | (with_reducible exact ih0 _ _ _)
   | (with_reducible exact LeO.refl _)
   | (with_reducible exact LeO.none _)
   | (with_reducible refine LeO.ite ?_ ?_)
   | (with_reducible refine LeO.bind ?_ (fun _ => ?_))
   | exact ih0 _ _ _
   | exact LeO.none _
   | refine LeO.ite ?_ ?_
   | refine LeO.bind ?_ (fun _ => ?_)
set_option maxHeartbeats 8000000 in
set_option maxRecDepth 100000 in
theorem q12z.calls (k : Nat) (A0 : Option Addr) (c0 : Nat) (l0 : List (S53)) (r : Bool) (w : World) (hr0 : Kd.C k53 w A0 l0.length l0) (hc0 : l0.length ≤ c0) (h : q12z.f k l0 = some r) :
  Calls Try.prog 34 #[.slice A0 l0.length c0] w fun e w' => e = .returned (.bool r) ∧ Below w.heap.size w w' := by
 have hu53 := Try.underlying53
 have HR0 := Aside0.mk hr0
 have HC0 := Aside0.mk hc0
 clear hr0 hc0
 have HB := Aside0.mk (Below.refl w.heap.size w)
 have H : (if (l0.length : Int) > 64 then (some false) else (q12z.l0 k l0 (l0.length : Int) 0)) = some r := h
 clear h
 by_cases c2 : (l0.length : Int) > 64
 ·
  rw [if_pos c2] at H
  have c2b0 : decide (64 < (l0.length : Int)) = true := decide_eq_true c2
  have c2b1 : decide (64 < l0.length) = true := decide_eq_true (by omega)
  clear c2
  obtain rfl := Option.some.inj H
  go_enter Try.func34, Try.ntmps34
  go_wp2
  go_ret
  exact ⟨by first | rfl | (simp [errW_none, errW_some] <;> rfl) | (simp [*, errW_none, errW_some] <;> rfl), hbW HB⟩
 ·
  rw [if_neg c2] at H
  have c2b0 : decide (64 < (l0.length : Int)) = false := decide_eq_false c2
  have c2b1 : decide (64 < l0.length) = false := decide_eq_false (by omega)
  clear c2
  have H' := Aside0.mk H
  clear H
  go_enter Try.func34, Try.ntmps34
  go_wp2
  go_loopg [10] k (fun kq v10 w' => ∃ (x10_1 : Int), v10 = .int .i64 x10_1 ∧ Aside0 (q12z.l0 kq l0 (l0.length : Int) x10_1 = some r) ∧ Aside0 (kq ≤ k) ∧ Aside0 (Below w.heap.size w w'))
  case atStart => exact ⟨(0), (by first | rfl | (simp; done) | (simp [*]; done)), H', ⟨Nat.le_refl _⟩, ⟨hbW HB⟩⟩
  case round =>
   clear H'
   try clear c2
   try clear c2b0
   try clear c2b1
   try clear p2
   obtain ⟨x10_1, rfl, HA, HK1, HB⟩ := hrel
   cases gk with
   | zero => exact absurd HA.out (by simp [q12z.l0])
   | succ k1 =>
    have H := HA.out
    clear HA
    simp only [q12z.l0] at H
    by_cases c3 : x10_1 < (l0.length : Int)
    ·
     rw [if_pos c3] at H
     have c3b0 : decide (x10_1 < (l0.length : Int)) = true := decide_eq_true c3
     clear c3
     by_cases c4 : 0 ≤ x10_1
     ·
      rw [if_pos c4] at H
      have c4b0 : decide (0 ≤ x10_1) = true := decide_eq_true c4
      clear c4
      by_cases c5 : x10_1 < (l0.length : Int)
      ·
       rw [if_pos c5] at H
       have c5b0 : decide (x10_1 < (l0.length : Int)) = true := decide_eq_true c5
       clear c5
       by_cases c6 : (((rd_T53 l0 x10_1).f1).length : Int) > 64
       ·
        rw [if_pos c6] at H
        have c6b0 : decide (64 < (((rd_T53 l0 x10_1).f1).length : Int)) = true := decide_eq_true c6
        have c6b1 : decide (64 < ((rd_T53 l0 x10_1).f1).length) = true := decide_eq_true (by omega)
        clear c6
        obtain rfl := Option.some.inj H
        have p1 : 0 ≤ (x10_1 : Int) := of_decide_eq_true (by first | (with_reducible assumption) | assumption)
        have q1 : x10_1 < (l0.length : Int) := of_decide_eq_true (by first | (with_reducible assumption) | assumption)
        obtain ⟨ad1, A1_1, c1_1, e1, hx1_0, hx1_1, hl1_1, hi1_1⟩ := at_T53 HR0.out x10_1 p1 q1
        cases e1
        replace hx1_0 := (HB.out.cell (World.block_lt_of_cell? w _ hx1_0)).trans hx1_0
        replace hx1_1 := (HB.out.cell (World.block_lt_of_cell? w _ hx1_1)).trans hx1_1
        have HR1_1 := Aside0.mk hi1_1
        have HC1_1 := Aside0.mk hl1_1
        clear hi1_1 hl1_1
        replace p1 := eq_true p1
        replace q1 := eq_true q1
        go_wp2_with (first | ((with_reducible refine gate_dst (N := 4) rfl ?_); refine box_event ?hg (N := 4) ?hd (cs := #[.bool false, .slice none 0 0]) (t := 53) ?hr ?_; (case hd => rfl); (case hg => rfl); (case hr => first | (go_simp; done) | (go_simp; rfl)); intro gb2 hg w7 hbox hb; have BK2 := Aside0.mk (hbox); have GW2 := gwS hg HB; have GE2 := gwS hg HB; replace HB := hbS HB hb; clear hb hbox hg; obtain ⟨hcz8_0, hcz8_1, hfz8_0, hfz8_1⟩ := bc2 BK2))
        go_ret
        exact ⟨by first | rfl | (simp [errW_none, errW_some] <;> rfl) | (simp [*, errW_none, errW_some] <;> rfl), hbW HB⟩
       ·
        rw [if_neg c6] at H
        have c6b0 : decide (64 < (((rd_T53 l0 x10_1).f1).length : Int)) = false := decide_eq_false c6
        have c6b1 : decide (64 < ((rd_T53 l0 x10_1).f1).length) = false := decide_eq_false (by omega)
        clear c6
        have H' := Aside0.mk H
        clear H
        have p1 : 0 ≤ (x10_1 : Int) := of_decide_eq_true (by first | (with_reducible assumption) | assumption)
        have q1 : x10_1 < (l0.length : Int) := of_decide_eq_true (by first | (with_reducible assumption) | assumption)
        obtain ⟨ad1, A1_1, c1_1, e1, hx1_0, hx1_1, hl1_1, hi1_1⟩ := at_T53 HR0.out x10_1 p1 q1
        cases e1
        replace hx1_0 := (HB.out.cell (World.block_lt_of_cell? w _ hx1_0)).trans hx1_0
        replace hx1_1 := (HB.out.cell (World.block_lt_of_cell? w _ hx1_1)).trans hx1_1
        have HR1_1 := Aside0.mk hi1_1
        have HC1_1 := Aside0.mk hl1_1
        clear hi1_1 hl1_1
        replace p1 := eq_true p1
        replace q1 := eq_true q1
        go_wp2_with (first | ((with_reducible refine gate_dst (N := 4) rfl ?_); refine box_event ?hg (N := 4) ?hd (cs := #[.bool false, .slice none 0 0]) (t := 53) ?hr ?_; (case hd => rfl); (case hg => rfl); (case hr => first | (go_simp; done) | (go_simp; rfl)); intro gb2 hg w9 hbox hb; have BK2 := Aside0.mk (hbox); have GW2 := gwS hg HB; have GE2 := gwS hg HB; replace HB := hbS HB hb; clear hb hbox hg; obtain ⟨hcz10_0, hcz10_1, hfz10_0, hfz10_1⟩ := bc2 BK2))
        go_roundg k1
        case measure => have := HK1.out; omega
        case rel => exact ⟨(wrap64 (x10_1 + 1)), (by first | rfl | (simp; done) | (simp [*]; done)), H', ⟨by have := HK1.out; omega⟩, ⟨hbW HB⟩⟩
      ·
       rw [if_neg c5] at H
       exact absurd H (by simp)
     ·
      rw [if_neg c4] at H
      exact absurd H (by simp)
    ·
     rw [if_neg c3] at H
     have c3b0 : decide (x10_1 < (l0.length : Int)) = false := decide_eq_false c3
     clear c3
     obtain rfl := Option.some.inj H
     go_wp2
     go_ret
     exact ⟨by first | rfl | (simp [errW_none, errW_some] <;> rfl) | (simp [*, errW_none, errW_some] <;> rfl), hbW HB⟩

/-! ### dragomanref12_Right: function 15 -/
mutual
def q13z.j0 : Nat → Int → Bool → Int → Int → List Int → List (S53) → Option (Bool)
 | 0, _, _, _, _, _, _ => none
 | k + 1, x6, x7, x2000, x2001, x2002, x2003 => if x7 = true then (some true) else (if x6 = 3 then (some (decide (x2001 ≤ 2))) else (if x6 = 5 then (q13z.l0 k x2002 (x2002.length : Int) 0 x2000 x2001 x2002 x2003) else (if x6 = 6 then (q13z.j2 k x6 (x6 == 6) x2000 x2001 x2002 x2003) else (q13z.j2 k x6 (x6 == 7) x2000 x2001 x2002 x2003))))
def q13z.l0 : Nat → List Int → Int → Int → Int → Int → List Int → List (S53) → Option (Bool)
 | 0, _, _, _, _, _, _, _ => none
 | k + 1, x19, x20, x21, x2000, x2001, x2002, x2003 => if x21 < x20 then (if 0 ≤ x21 then (if x21 < (x19.length : Int) then (if (rd x19 x21) = 0 then (some false) else (q13z.l0 k x19 x20 (wrap64 (x21 + 1)) x2000 x2001 x2002 x2003)) else (none)) else (none)) else (some (decide ((x2002.length : Int) ≤ 64)))
def q13z.j2 : Nat → Int → Bool → Int → Int → List Int → List (S53) → Option (Bool)
 | 0, _, _, _, _, _, _ => none
 | k + 1, x6, x32, x2000, x2001, x2002, x2003 => if x32 = true then (some (decide ((x2002.length : Int) ≤ 64))) else (if x6 = 8 then ((q12z.f k x2003).bind fun t3 => (some t3)) else (some false))
end
def q13z.f (k : Nat) (a0_0 : Int) (a0_1 : Int) (l0_2 : List Int) (l0_3 : List (S53)) : Option (Bool) := if a0_0 = 1 then (q13z.j0 k a0_0 (a0_0 == 1) a0_0 a0_1 l0_2 l0_3) else (if a0_0 = 2 then (q13z.j0 k a0_0 (a0_0 == 2) a0_0 a0_1 l0_2 l0_3) else (q13z.j0 k a0_0 (a0_0 == 4) a0_0 a0_1 l0_2 l0_3))
theorem q13z.mono_l : ∀ k, (∀ y0 y1 y2 y3 y4 y5, LeO (q13z.j0 k y0 y1 y2 y3 y4 y5) (q13z.j0 (k + 1) y0 y1 y2 y3 y4 y5)) ∧ (∀ y0 y1 y2 y3 y4 y5 y6, LeO (q13z.l0 k y0 y1 y2 y3 y4 y5 y6) (q13z.l0 (k + 1) y0 y1 y2 y3 y4 y5 y6)) ∧ (∀ y0 y1 y2 y3 y4 y5, LeO (q13z.j2 k y0 y1 y2 y3 y4 y5) (q13z.j2 (k + 1) y0 y1 y2 y3 y4 y5))
 | 0 => ⟨fun _ _ _ _ _ _ r h => by simp [q13z.j0] at h, fun _ _ _ _ _ _ _ r h => by simp [q13z.l0] at h, fun _ _ _ _ _ _ r h => by simp [q13z.j2] at h⟩
 | k + 1 => by
  obtain ⟨ih0, ih1, ih2⟩ := q13z.mono_l k
  refine ⟨?_, ?_, ?_⟩
  ·
   intro y0 y1 y2 y3 y4 y5
   unfold q13z.j0
   repeat' first
   | (with_reducible exact ih0 _ _ _ _ _ _)
   | (with_reducible exact ih1 _ _ _ _ _ _ _)
   | (with_reducible exact ih2 _ _ _ _ _ _)
   | (with_reducible exact q12z.mono _ _)
   | (with_reducible exact LeO.refl _)
   | (with_reducible exact LeO.none _)
   | (with_reducible refine LeO.ite ?_ ?_)
   | (with_reducible refine LeO.bind ?_ (fun _ => ?_))
   | exact ih0 _ _ _ _ _ _
   | exact ih1 _ _ _ _ _ _ _
   | exact ih2 _ _ _ _ _ _
   | exact q12z.mono _ _
   | exact LeO.none _
   | refine LeO.ite ?_ ?_
   | refine LeO.bind ?_ (fun _ => ?_)
  ·
   intro y0 y1 y2 y3 y4 y5 y6
   unfold q13z.l0
   repeat' first
   | (with_reducible exact ih0 _ _ _ _ _ _)
   | (with_reducible exact ih1 _ _ _ _ _ _ _)
   | (with_reducible exact ih2 _ _ _ _ _ _)
   | (with_reducible exact q12z.mono _ _)
   | (with_reducible exact LeO.refl _)
   | (with_reducible exact LeO.none _)
   | (with_reducible refine LeO.ite ?_ ?_)
   | (with_reducible refine LeO.bind ?_ (fun _ => ?_))
   | exact ih0 _ _ _ _ _ _
   | exact ih1 _ _ _ _ _ _ _
   | exact ih2 _ _ _ _ _ _
   | exact q12z.mono _ _
   | exact LeO.none _
   | refine LeO.ite ?_ ?_
   | refine LeO.bind ?_ (fun _ => ?_)
  ·
   intro y0 y1 y2 y3 y4 y5
   unfold q13z.j2
   repeat' first
   | (with_reducible exact ih0 _ _ _ _ _ _)
   | (with_reducible exact ih1 _ _ _ _ _ _ _)
   | (with_reducible exact ih2 _ _ _ _ _ _)
   | (with_reducible exact q12z.mono _ _)
   | (with_reducible exact LeO.refl _)
   | (with_reducible exact LeO.none _)
   | (with_reducible refine LeO.ite ?_ ?_)
   | (with_reducible refine LeO.bind ?_ (fun _ => ?_))
   | exact ih0 _ _ _ _ _ _
   | exact ih1 _ _ _ _ _ _ _
   | exact ih2 _ _ _ _ _ _
   | exact q12z.mono _ _
   | exact LeO.none _
   | refine LeO.ite ?_ ?_
   | refine LeO.bind ?_ (fun _ => ?_)
theorem q13z.mono : ∀ a0 a1 a2 a3 k, LeO (q13z.f k a0 a1 a2 a3) (q13z.f (k + 1) a0 a1 a2 a3) := by
 intro a0 a1 a2 a3 k
 obtain ⟨ih0, ih1, ih2⟩ := q13z.mono_l k
 unfold q13z.f
 repeat' first
   | (with_reducible exact ih0 _ _ _ _ _ _)
   | (with_reducible exact ih1 _ _ _ _ _ _ _)
   | (with_reducible exact ih2 _ _ _ _ _ _)
   | (with_reducible exact q12z.mono _ _)
   | (with_reducible exact LeO.refl _)
   | (with_reducible exact LeO.none _)
   | (with_reducible refine LeO.ite ?_ ?_)
   | (with_reducible refine LeO.bind ?_ (fun _ => ?_))
   | exact ih0 _ _ _ _ _ _
   | exact ih1 _ _ _ _ _ _ _
   | exact ih2 _ _ _ _ _ _
   | exact q12z.mono _ _
   | exact LeO.none _
   | refine LeO.ite ?_ ?_
   | refine LeO.bind ?_ (fun _ => ?_)
set_option maxHeartbeats 8000000 in
set_option maxRecDepth 100000 in
theorem q13z.calls (k : Nat) (a0_0 : Int) (a0_1 : Int) (A0_2 : Option Addr) (c0_2 : Nat) (l0_2 : List Int) (A0_3 : Option Addr) (c0_3 : Nat) (l0_3 : List (S53)) (r : Bool) (w : World) (hr0_2 : Kd.C (Kd.int .u32) w A0_2 l0_2.length l0_2) (hc0_2 : l0_2.length ≤ c0_2) (hr0_3 : Kd.C k53 w A0_3 l0_3.length l0_3) (hc0_3 : l0_3.length ≤ c0_3) (h : q13z.f k a0_0 a0_1 l0_2 l0_3 = some r) :
  Calls Try.prog 15 #[.agg #[.int .i64 a0_0, .int .u32 a0_1, .slice A0_2 l0_2.length c0_2, .slice A0_3 l0_3.length c0_3]] w fun e w' => e = .returned (.bool r) ∧ Below w.heap.size w w' := by
 have hu26 := Try.underlying26
 have HR0_2 := Aside0.mk hr0_2
 have HC0_2 := Aside0.mk hc0_2
 clear hr0_2 hc0_2
 have HR0_3 := Aside0.mk hr0_3
 have HC0_3 := Aside0.mk hc0_3
 clear hr0_3 hc0_3
 have HB := Aside0.mk (Below.refl w.heap.size w)
 have H : (if a0_0 = 1 then (q13z.j0 k a0_0 (a0_0 == 1) a0_0 a0_1 l0_2 l0_3) else (if a0_0 = 2 then (q13z.j0 k a0_0 (a0_0 == 2) a0_0 a0_1 l0_2 l0_3) else (q13z.j0 k a0_0 (a0_0 == 4) a0_0 a0_1 l0_2 l0_3))) = some r := h
 clear h
 have HC2 := Aside0.mk H
 clear H
 go_enter Try.func15, Try.ntmps15
 go_upto_if 7 with (first | ((with_reducible refine gate_dst (N := 1) rfl ?_); refine box_event ?hg (N := 1) ?hd (cs := #[.int .i64 a0_0, .int .u32 a0_1, .slice A0_2 l0_2.length c0_2, .slice A0_3 l0_3.length c0_3]) (t := 26) ?hr ?_; (case hd => rfl); (case hg => rfl); (case hr => first | (go_simp; done) | (go_simp; rfl)); intro gb1 hg w3 hbox hb; have BK1 := Aside0.mk (hbox); have GW1 := gwS hg HB; have GE1 := gwS hg HB; replace HB := hbS HB hb; clear hb hbox hg; obtain ⟨hcz4_0, hcz4_1, hcz4_2, hcz4_3, hfz4_0, hfz4_1, hfz4_2, hfz4_3⟩ := bc4 BK1))
 (try simp only [Act.put, List.setIfInBounds_toArray, List.set_cons_zero, List.set_cons_succ])
 go_cut [7] (fun v7 wc => ∃ (kq : Nat) (x7_1 : Bool), v7 = .bool x7_1 ∧ Aside0 (q13z.j0 kq a0_0 x7_1 a0_0 a0_1 l0_2 l0_3 = some r) ∧ Aside0 (kq ≤ k) ∧ Aside0 (wc.heap[gb1]? = some (.cells #[.int .i64 a0_0, .int .u32 a0_1, (.slice A0_2 l0_2.length c0_2), (.slice A0_3 l0_3.length c0_3)] 26 (0, 0))) ∧ Aside0 (Below w.heap.size w wc))
 case first =>
  have H := HC2.out
  clear HC2
  by_cases c5 : a0_0 = 1
  ·
   rw [if_pos c5] at H
   have c5b0 : (a0_0 == 1) = true := beq_iff_eq.mpr c5
   have c5b1 : (a0_0 != 1) = false := bne_eq_false_iff_eq.mpr c5
   clear c5
   (first | rw [c5b0] | (simp only [i64_w, i32_w, IntKind.wrap_u32]; rw [c5b0]) | skip)
   have H' := Aside0.mk H
   clear H
   go_wp2
   go_meet
   case rel => exact ⟨_, ((a0_0 == 1)), (by first | rfl | (simp; done) | (simp [*]; done)), H', ⟨by first | omega | exact Nat.le_refl _⟩, ⟨by (with_reducible repeat (first | refine blk_drewN ?_ _ | refine blk_drew ?_ | refine blk_alloc ?_ _)); exact BK1.out⟩, ⟨hbW HB⟩⟩
  ·
   rw [if_neg c5] at H
   have c5b0 : (a0_0 == 1) = false := beq_eq_false_iff_ne.mpr c5
   have c5b1 : (a0_0 != 1) = true := bne_iff_ne.mpr c5
   (first | rw [c5b0] | (simp only [i64_w, i32_w, IntKind.wrap_u32]; rw [c5b0]) | skip)
   by_cases c6 : a0_0 = 2
   ·
    rw [if_pos c6] at H
    have c6b0 : (a0_0 == 2) = true := beq_iff_eq.mpr c6
    have c6b1 : (a0_0 != 2) = false := bne_eq_false_iff_eq.mpr c6
    clear c6
    have H' := Aside0.mk H
    clear H
    go_wp2
    go_meet
    case rel => exact ⟨_, ((a0_0 == 2)), (by first | rfl | (simp; done) | (simp [*]; done)), H', ⟨by first | omega | exact Nat.le_refl _⟩, ⟨by (with_reducible repeat (first | refine blk_drewN ?_ _ | refine blk_drew ?_ | refine blk_alloc ?_ _)); exact BK1.out⟩, ⟨hbW HB⟩⟩
   ·
    rw [if_neg c6] at H
    have c6b0 : (a0_0 == 2) = false := beq_eq_false_iff_ne.mpr c6
    have c6b1 : (a0_0 != 2) = true := bne_iff_ne.mpr c6
    have H' := Aside0.mk H
    clear H
    go_wp2
    go_meet
    case rel => exact ⟨_, ((a0_0 == 4)), (by first | rfl | (simp; done) | (simp [*]; done)), H', ⟨by first | omega | exact Nat.le_refl _⟩, ⟨by (with_reducible repeat (first | refine blk_drewN ?_ _ | refine blk_drew ?_ | refine blk_alloc ?_ _)); exact BK1.out⟩, ⟨hbW HB⟩⟩
 case rest =>
  clear HC2
  try clear c1
  try clear p2
  try clear c5
  try clear c5b0
  try clear c5b1
  try clear c6
  try clear c6b0
  try clear c6b1
  try clear hcz4_0 hcz4_1 hcz4_2 hcz4_3
  try clear hfz4_0 hfz4_1 hfz4_2 hfz4_3
  obtain ⟨kq, x7_1, rfl, HA, HJ1, BK1, HB⟩ := hcut
  cases kq with
  | zero => exact absurd HA.out (by simp [q13z.j0])
  | succ kj1 =>
   have H := HA.out
   clear HA
   simp only [q13z.j0] at H
   by_cases c7 : x7_1 = true
   ·
    subst c7
    have H1 : (some true) = some r := by rw [if_pos rfl] at H; exact H
    clear H
    have H := H1
    clear H1
    obtain rfl := Option.some.inj H
    go_wp2
    go_ret
    exact ⟨by first | rfl | (simp [errW_none, errW_some] <;> rfl) | (simp [*, errW_none, errW_some] <;> rfl), hbW HB⟩
   ·
    replace c7 := Bool.eq_false_iff.mpr c7
    subst c7
    have H1 : (if a0_0 = 3 then (some (decide (a0_1 ≤ 2))) else (if a0_0 = 5 then (q13z.l0 kj1 l0_2 (l0_2.length : Int) 0 a0_0 a0_1 l0_2 l0_3) else (if a0_0 = 6 then (q13z.j2 kj1 a0_0 (a0_0 == 6) a0_0 a0_1 l0_2 l0_3) else (q13z.j2 kj1 a0_0 (a0_0 == 7) a0_0 a0_1 l0_2 l0_3)))) = some r := by rw [if_neg (show ¬ (false = true) by decide)] at H; exact H
    clear H
    have H := H1
    clear H1
    by_cases c8 : a0_0 = 3
    ·
     rw [if_pos c8] at H
     have c8b0 : (a0_0 == 3) = true := beq_iff_eq.mpr c8
     have c8b1 : (a0_0 != 3) = false := bne_eq_false_iff_eq.mpr c8
     clear c8
     obtain rfl := Option.some.inj H
     obtain ⟨hcz9_0, hcz9_1, hcz9_2, hcz9_3, hfz9_0, hfz9_1, hfz9_2, hfz9_3⟩ := bc4 BK1
     go_wp2
     go_ret
     exact ⟨by first | rfl | (simp [errW_none, errW_some] <;> rfl) | (simp [*, errW_none, errW_some] <;> rfl), hbW HB⟩
    ·
     rw [if_neg c8] at H
     have c8b0 : (a0_0 == 3) = false := beq_eq_false_iff_ne.mpr c8
     have c8b1 : (a0_0 != 3) = true := bne_iff_ne.mpr c8
     by_cases c10 : a0_0 = 5
     ·
      rw [if_pos c10] at H
      have c10b0 : (a0_0 == 5) = true := beq_iff_eq.mpr c10
      have c10b1 : (a0_0 != 5) = false := bne_eq_false_iff_eq.mpr c10
      clear c10
      have H' := Aside0.mk H
      clear H
      obtain ⟨hcz11_0, hcz11_1, hcz11_2, hcz11_3, hfz11_0, hfz11_1, hfz11_2, hfz11_3⟩ := bc4 BK1
      go_wp2
      go_loopg [21] kj1 (fun kq v21 w' => ∃ (x21_2 : Int), v21 = .int .i64 x21_2 ∧ Aside0 (q13z.l0 kq l0_2 (l0_2.length : Int) x21_2 a0_0 a0_1 l0_2 l0_3 = some r) ∧ Aside0 (kq ≤ kj1) ∧ Aside0 (w'.heap[gb1]? = some (.cells #[.int .i64 a0_0, .int .u32 a0_1, (.slice A0_2 l0_2.length c0_2), (.slice A0_3 l0_3.length c0_3)] 26 (0, 0))) ∧ Aside0 (Below w.heap.size w w'))
      case atStart => exact ⟨(0), (by first | rfl | (simp; done) | (simp [*]; done)), H', ⟨Nat.le_refl _⟩, ⟨by (with_reducible repeat (first | refine blk_drewN ?_ _ | refine blk_drew ?_ | refine blk_alloc ?_ _)); exact BK1.out⟩, ⟨hbW HB⟩⟩
      case round =>
       clear H'
       try clear c1
       try clear p2
       try clear c5
       try clear c5b0
       try clear c5b1
       try clear c6
       try clear c6b0
       try clear c6b1
       try clear c7
       try clear c8
       try clear c8b0
       try clear c8b1
       try clear c10
       try clear c10b0
       try clear c10b1
       try clear hcz4_0 hcz4_1 hcz4_2 hcz4_3
       try clear hfz4_0 hfz4_1 hfz4_2 hfz4_3
       try clear p2
       obtain ⟨x21_2, rfl, HA, HK2, BK1, HB⟩ := hrel
       cases gk with
       | zero => exact absurd HA.out (by simp [q13z.l0])
       | succ k2 =>
        have H := HA.out
        clear HA
        simp only [q13z.l0] at H
        by_cases c12 : x21_2 < (l0_2.length : Int)
        ·
         rw [if_pos c12] at H
         have c12b0 : decide (x21_2 < (l0_2.length : Int)) = true := decide_eq_true c12
         clear c12
         by_cases c13 : 0 ≤ x21_2
         ·
          rw [if_pos c13] at H
          have c13b0 : decide (0 ≤ x21_2) = true := decide_eq_true c13
          clear c13
          by_cases c14 : x21_2 < (l0_2.length : Int)
          ·
           rw [if_pos c14] at H
           have c14b0 : decide (x21_2 < (l0_2.length : Int)) = true := decide_eq_true c14
           clear c14
           by_cases c15 : (rd l0_2 x21_2) = 0
           ·
            rw [if_pos c15] at H
            have c15b0 : ((rd l0_2 x21_2) == 0) = true := beq_iff_eq.mpr c15
            have c15b1 : ((rd l0_2 x21_2) != 0) = false := bne_eq_false_iff_eq.mpr c15
            clear c15
            obtain rfl := Option.some.inj H
            have p2 : 0 ≤ (x21_2 : Int) := of_decide_eq_true (by first | (with_reducible assumption) | assumption)
            have q2 : x21_2 < (l0_2.length : Int) := of_decide_eq_true (by first | (with_reducible assumption) | assumption)
            obtain ⟨ad2, e2, hx2_0⟩ := Kd.at_int HR0_2.out x21_2 p2 q2
            cases e2
            replace hx2_0 := (HB.out.cell (World.block_lt_of_cell? w _ hx2_0)).trans hx2_0
            replace p2 := eq_true p2
            replace q2 := eq_true q2
            go_wp2
            go_ret
            exact ⟨by first | rfl | (simp [errW_none, errW_some] <;> rfl) | (simp [*, errW_none, errW_some] <;> rfl), hbW HB⟩
           ·
            rw [if_neg c15] at H
            have c15b0 : ((rd l0_2 x21_2) == 0) = false := beq_eq_false_iff_ne.mpr c15
            have c15b1 : ((rd l0_2 x21_2) != 0) = true := bne_iff_ne.mpr c15
            have H' := Aside0.mk H
            clear H
            have p2 : 0 ≤ (x21_2 : Int) := of_decide_eq_true (by first | (with_reducible assumption) | assumption)
            have q2 : x21_2 < (l0_2.length : Int) := of_decide_eq_true (by first | (with_reducible assumption) | assumption)
            obtain ⟨ad2, e2, hx2_0⟩ := Kd.at_int HR0_2.out x21_2 p2 q2
            cases e2
            replace hx2_0 := (HB.out.cell (World.block_lt_of_cell? w _ hx2_0)).trans hx2_0
            replace p2 := eq_true p2
            replace q2 := eq_true q2
            go_wp2
            go_roundg k2
            case measure => have := HJ1.out; have := HK2.out; omega
            case rel => exact ⟨(wrap64 (x21_2 + 1)), (by first | rfl | (simp; done) | (simp [*]; done)), H', ⟨by have := HJ1.out; have := HK2.out; omega⟩, ⟨by (with_reducible repeat (first | refine blk_drewN ?_ _ | refine blk_drew ?_ | refine blk_alloc ?_ _)); exact BK1.out⟩, ⟨hbW HB⟩⟩
          ·
           rw [if_neg c14] at H
           exact absurd H (by simp)
         ·
          rw [if_neg c13] at H
          exact absurd H (by simp)
        ·
         rw [if_neg c12] at H
         have c12b0 : decide (x21_2 < (l0_2.length : Int)) = false := decide_eq_false c12
         clear c12
         obtain rfl := Option.some.inj H
         obtain ⟨hcz16_0, hcz16_1, hcz16_2, hcz16_3, hfz16_0, hfz16_1, hfz16_2, hfz16_3⟩ := bc4 BK1
         go_wp2
         go_ret
         exact ⟨by first | rfl | (simp [errW_none, errW_some] <;> rfl) | (simp [*, errW_none, errW_some] <;> rfl), hbW HB⟩
     ·
      rw [if_neg c10] at H
      have c10b0 : (a0_0 == 5) = false := beq_eq_false_iff_ne.mpr c10
      have c10b1 : (a0_0 != 5) = true := bne_iff_ne.mpr c10
      have HC17 := Aside0.mk H
      clear H
      go_upto_if 32 with (fail)
      go_cut [32] (fun v32 wc => ∃ (kq : Nat) (x32_16 : Bool), v32 = .bool x32_16 ∧ Aside0 (q13z.j2 kq a0_0 x32_16 a0_0 a0_1 l0_2 l0_3 = some r) ∧ Aside0 (kq ≤ kj1) ∧ Aside0 (wc.heap[gb1]? = some (.cells #[.int .i64 a0_0, .int .u32 a0_1, (.slice A0_2 l0_2.length c0_2), (.slice A0_3 l0_3.length c0_3)] 26 (0, 0))) ∧ Aside0 (Below w.heap.size w wc))
      case first =>
       have H := HC17.out
       clear HC17
       by_cases c18 : a0_0 = 6
       ·
        rw [if_pos c18] at H
        have c18b0 : (a0_0 == 6) = true := beq_iff_eq.mpr c18
        have c18b1 : (a0_0 != 6) = false := bne_eq_false_iff_eq.mpr c18
        clear c18
        (first | rw [c18b0] | (simp only [i64_w, i32_w, IntKind.wrap_u32]; rw [c18b0]) | skip)
        have H' := Aside0.mk H
        clear H
        go_wp2
        go_meet
        case rel => exact ⟨_, ((a0_0 == 6)), (by first | rfl | (simp; done) | (simp [*]; done)), H', ⟨by have := HJ1.out; first | omega | exact Nat.le_refl _⟩, ⟨by (with_reducible repeat (first | refine blk_drewN ?_ _ | refine blk_drew ?_ | refine blk_alloc ?_ _)); exact BK1.out⟩, ⟨hbW HB⟩⟩
       ·
        rw [if_neg c18] at H
        have c18b0 : (a0_0 == 6) = false := beq_eq_false_iff_ne.mpr c18
        have c18b1 : (a0_0 != 6) = true := bne_iff_ne.mpr c18
        (first | rw [c18b0] | (simp only [i64_w, i32_w, IntKind.wrap_u32]; rw [c18b0]) | skip)
        have H' := Aside0.mk H
        clear H
        go_wp2
        go_meet
        case rel => exact ⟨_, ((a0_0 == 7)), (by first | rfl | (simp; done) | (simp [*]; done)), H', ⟨by have := HJ1.out; first | omega | exact Nat.le_refl _⟩, ⟨by (with_reducible repeat (first | refine blk_drewN ?_ _ | refine blk_drew ?_ | refine blk_alloc ?_ _)); exact BK1.out⟩, ⟨hbW HB⟩⟩
      case rest =>
       clear HC17
       try clear c1
       try clear p2
       try clear q2
       try clear hx2
       try clear c5
       try clear c5b0
       try clear c5b1
       try clear c6
       try clear c6b0
       try clear c6b1
       try clear p6
       try clear c7
       try clear c8
       try clear c8b0
       try clear c8b1
       try clear c10
       try clear c10b0
       try clear c10b1
       try clear c12
       try clear c12b0
       try clear c13
       try clear c13b0
       try clear c14
       try clear c14b0
       try clear c15
       try clear c15b0
       try clear c15b1
       try clear c18
       try clear c18b0
       try clear c18b1
       try clear hcz11_0 hcz11_1 hcz11_2 hcz11_3
       try clear hcz16_0 hcz16_1 hcz16_2 hcz16_3
       try clear hcz4_0 hcz4_1 hcz4_2 hcz4_3
       try clear hcz9_0 hcz9_1 hcz9_2 hcz9_3
       try clear hfz11_0 hfz11_1 hfz11_2 hfz11_3
       try clear hfz16_0 hfz16_1 hfz16_2 hfz16_3
       try clear hfz4_0 hfz4_1 hfz4_2 hfz4_3
       try clear hfz9_0 hfz9_1 hfz9_2 hfz9_3
       try clear hx2_0
       try clear p2
       try clear q2
       obtain ⟨kq, x32_16, rfl, HA, HJ16, BK1, HB⟩ := hcut
       cases kq with
       | zero => exact absurd HA.out (by simp [q13z.j2])
       | succ kj16 =>
        have H := HA.out
        clear HA
        simp only [q13z.j2] at H
        by_cases c19 : x32_16 = true
        ·
         subst c19
         have H1 : (some (decide ((l0_2.length : Int) ≤ 64))) = some r := by rw [if_pos rfl] at H; exact H
         clear H
         have H := H1
         clear H1
         obtain rfl := Option.some.inj H
         obtain ⟨hcz20_0, hcz20_1, hcz20_2, hcz20_3, hfz20_0, hfz20_1, hfz20_2, hfz20_3⟩ := bc4 BK1
         go_wp2
         go_ret
         exact ⟨by first | rfl | (simp [errW_none, errW_some] <;> rfl) | (simp [*, errW_none, errW_some] <;> rfl), hbW HB⟩
        ·
         replace c19 := Bool.eq_false_iff.mpr c19
         subst c19
         have H1 : (if a0_0 = 8 then ((q12z.f kj16 l0_3).bind fun t3 => (some t3)) else (some false)) = some r := by rw [if_neg (show ¬ (false = true) by decide)] at H; exact H
         clear H
         have H := H1
         clear H1
         by_cases c21 : a0_0 = 8
         ·
          rw [if_pos c21] at H
          have c21b0 : (a0_0 == 8) = true := beq_iff_eq.mpr c21
          have c21b1 : (a0_0 != 8) = false := bne_eq_false_iff_eq.mpr c21
          clear c21
          replace H := Option.bind_eq_some_iff.mp H
          obtain ⟨t3, A220, H⟩ := H
          replace H : (some t3) = some r := H
          have A22 := Aside0.mk A220
          clear A220
          obtain rfl := Option.some.inj H
          obtain ⟨hcz23_0, hcz23_1, hcz23_2, hcz23_3, hfz23_0, hfz23_1, hfz23_2, hfz23_3⟩ := bc4 BK1
          go_wp2_with (first | ((with_reducible refine gate_callee (f := 34) rfl ?_); refine goesL_ (some 43) rfl rfl Try.func34 (by kernel_rfl) rfl #[.slice A0_3 l0_3.length c0_3] rfl (by (try simp only [List.map_toArray, List.map_cons, List.map_nil]); first | done | rfl | (simp only [List.length_drop, List.length_take]; rfl)) ?_; (with_reducible refine (q12z.calls kj16 _ _ l0_3 t3 _ ?side1 ?side2 A22.out).mono ?_); (case side1 => repeat (first | exact (Kd.C_below HR0_3.out HB.out) | (with_reducible refine Kd.C_alloc ?_ _) | (with_reducible refine Kd.C_drewN ?_ _) | (with_reducible refine Kd.C_drew ?_))); (case side2 => exact HC0_3.out); rintro e w24 ⟨rfl, hb⟩; refine ⟨_, rfl, ?_⟩; replace BK1 := bkB BK1 hb; replace HB := hbS HB hb; (try clear hb)))
          go_ret
          exact ⟨by first | rfl | (simp [errW_none, errW_some] <;> rfl) | (simp [*, errW_none, errW_some] <;> rfl), hbW HB⟩
         ·
          rw [if_neg c21] at H
          have c21b0 : (a0_0 == 8) = false := beq_eq_false_iff_ne.mpr c21
          have c21b1 : (a0_0 != 8) = true := bne_iff_ne.mpr c21
          obtain rfl := Option.some.inj H
          go_wp2
          go_ret
          exact ⟨by first | rfl | (simp [errW_none, errW_some] <;> rfl) | (simp [*, errW_none, errW_some] <;> rfl), hbW HB⟩

/-! ### dragomanref03_number: function 35 -/
def q14z.f (a0 : Int) (a1 : Int) : Option (Int) := if a0 < a1 then (some (-1)) else (if a0 > a1 then (some 1) else (some 0))
set_option maxHeartbeats 8000000 in
set_option maxRecDepth 100000 in
theorem q14z.calls (a0 : Int) (a1 : Int) (r : Int) (w : World) (h : q14z.f a0 a1 = some r) :
  Calls Try.prog 35 #[.int .i64 a0, .int .i64 a1] w fun e w' => e = .returned (.int .i64 r) ∧ Drawn0 w w' := by
 have H : (if a0 < a1 then (some (-1)) else (if a0 > a1 then (some 1) else (some 0))) = some r := h
 clear h
 by_cases c3 : a0 < a1
 ·
  rw [if_pos c3] at H
  have c3b0 : decide (a0 < a1) = true := decide_eq_true c3
  clear c3
  obtain rfl := Option.some.inj H
  go_enter Try.func35, Try.ntmps35
  go_wp2
  go_ret
  exact ⟨by first | rfl | (simp; done) | (simp [*]; done), by repeat (first | exact Drawn0.refl _ | apply Drawn0.step)⟩
 ·
  rw [if_neg c3] at H
  have c3b0 : decide (a0 < a1) = false := decide_eq_false c3
  clear c3
  by_cases c4 : a0 > a1
  ·
   rw [if_pos c4] at H
   have c4b0 : decide (a1 < a0) = true := decide_eq_true c4
   clear c4
   obtain rfl := Option.some.inj H
   go_enter Try.func35, Try.ntmps35
   go_wp2
   go_ret
   exact ⟨by first | rfl | (simp; done) | (simp [*]; done), by repeat (first | exact Drawn0.refl _ | apply Drawn0.step)⟩
  ·
   rw [if_neg c4] at H
   have c4b0 : decide (a1 < a0) = false := decide_eq_false c4
   clear c4
   obtain rfl := Option.some.inj H
   go_enter Try.func35, Try.ntmps35
   go_wp2
   go_ret
   exact ⟨by first | rfl | (simp; done) | (simp [*]; done), by repeat (first | exact Drawn0.refl _ | apply Drawn0.step)⟩

/-! ### dragomanref03_list: function 36 -/
mutual
def q15z.l0 : Nat → List Int → List Int → Int → Option (Int)
 | 0, _, _, _ => none
 | k + 1, x0, x1, x5 => if x5 < (x0.length : Int) then (q15z.j1 k x0 x1 x5 (decide (x5 < (x1.length : Int)))) else (q15z.j1 k x0 x1 x5 false)
def q15z.j1 : Nat → List Int → List Int → Int → Bool → Option (Int)
 | 0, _, _, _, _ => none
 | k + 1, x0, x1, x5, x15 => if x15 = true then (if 0 ≤ x5 then (if x5 < (x0.length : Int) then (if x5 < (x1.length : Int) then (if (rd x0 x5) = (rd x1 x5) then (q15z.l0 k x0 x1 (wrap64 (x5 + 1))) else ((q14z.f (wrap64 (rd x0 x5)) (wrap64 (rd x1 x5))).bind fun t5 => (some t5))) else (none)) else (none)) else (none)) else ((q14z.f (x0.length : Int) (x1.length : Int)).bind fun t6 => (some t6))
end
def q15z.f (k : Nat) (l0 : List Int) (l1 : List Int) : Option (Int) := q15z.l0 k l0 l1 0
theorem q15z.mono_l : ∀ k, (∀ y0 y1 y2, LeO (q15z.l0 k y0 y1 y2) (q15z.l0 (k + 1) y0 y1 y2)) ∧ (∀ y0 y1 y2 y3, LeO (q15z.j1 k y0 y1 y2 y3) (q15z.j1 (k + 1) y0 y1 y2 y3))
 | 0 => ⟨fun _ _ _ r h => by simp [q15z.l0] at h, fun _ _ _ _ r h => by simp [q15z.j1] at h⟩
 | k + 1 => by
  obtain ⟨ih0, ih1⟩ := q15z.mono_l k
  refine ⟨?_, ?_⟩
  ·
   intro y0 y1 y2
   unfold q15z.l0
   repeat' first
   | (with_reducible exact ih0 _ _ _)
   | (with_reducible exact ih1 _ _ _ _)
   | (with_reducible exact LeO.refl _)
   | (with_reducible exact LeO.none _)
   | (with_reducible refine LeO.ite ?_ ?_)
   | (with_reducible refine LeO.bind ?_ (fun _ => ?_))
   | exact ih0 _ _ _
   | exact ih1 _ _ _ _
   | exact LeO.none _
   | refine LeO.ite ?_ ?_
   | refine LeO.bind ?_ (fun _ => ?_)
  ·
   intro y0 y1 y2 y3
   unfold q15z.j1
   repeat' first
   | (with_reducible exact ih0 _ _ _)
   | (with_reducible exact ih1 _ _ _ _)
   | (with_reducible exact LeO.refl _)
   | (with_reducible exact LeO.none _)
   | (with_reducible refine LeO.ite ?_ ?_)
   | (with_reducible refine LeO.bind ?_ (fun _ => ?_))
   | exact ih0 _ _ _
   | exact ih1 _ _ _ _
   | exact LeO.none _
   | refine LeO.ite ?_ ?_
   | refine LeO.bind ?_ (fun _ => ?_)
theorem q15z.mono : ∀ a0 a1 k, LeO (q15z.f k a0 a1) (q15z.f (k + 1) a0 a1) := by
 intro a0 a1 k
 obtain ⟨ih0, ih1⟩ := q15z.mono_l k
 unfold q15z.f
 repeat' first
   | (with_reducible exact ih0 _ _ _)
   | (with_reducible exact ih1 _ _ _ _)
   | (with_reducible exact LeO.refl _)
   | (with_reducible exact LeO.none _)
   | (with_reducible refine LeO.ite ?_ ?_)
   | (with_reducible refine LeO.bind ?_ (fun _ => ?_))
   | exact ih0 _ _ _
   | exact ih1 _ _ _ _
   | exact LeO.none _
   | refine LeO.ite ?_ ?_
   | refine LeO.bind ?_ (fun _ => ?_)
set_option maxHeartbeats 8000000 in
set_option maxRecDepth 100000 in
theorem q15z.calls (k : Nat) (A0 : Option Addr) (c0 : Nat) (l0 : List Int) (A1 : Option Addr) (c1 : Nat) (l1 : List Int) (r : Int) (w : World) (hr0 : Kd.C (Kd.int .u32) w A0 l0.length l0) (hc0 : l0.length ≤ c0) (hr1 : Kd.C (Kd.int .u32) w A1 l1.length l1) (hc1 : l1.length ≤ c1) (h : q15z.f k l0 l1 = some r) :
  Calls Try.prog 36 #[.slice A0 l0.length c0, .slice A1 l1.length c1] w fun e w' => e = .returned (.int .i64 r) ∧ Drawn0 w w' := by
 have HR0 := Aside0.mk hr0
 have HC0 := Aside0.mk hc0
 clear hr0 hc0
 have HR1 := Aside0.mk hr1
 have HC1 := Aside0.mk hc1
 clear hr1 hc1
 have H : (q15z.l0 k l0 l1 0) = some r := h
 clear h
 have H' := Aside0.mk H
 clear H
 go_enter Try.func36, Try.ntmps36
 go_wp2
 repeat (go_quiet (fail); try go_wp2)
 go_loopg [5] k (fun kq v5 w' => ∃ (x5_1 : Int), v5 = .int .i64 x5_1 ∧ Aside0 (q15z.l0 kq l0 l1 x5_1 = some r) ∧ Aside0 (kq ≤ k) ∧ Drawn0 w w')
 case atStart => exact ⟨(0), (by first | rfl | (simp; done) | (simp [*]; done)), H', ⟨Nat.le_refl _⟩, by repeat (first | exact Drawn0.refl _ | apply Drawn0.step)⟩
 case round =>
  clear H'
  try clear c1
  try clear p2
  obtain ⟨x5_1, rfl, HA, HK1, ⟨m1, rfl⟩⟩ := hrel
  cases gk with
  | zero => exact absurd HA.out (by simp [q15z.l0])
  | succ k1 =>
   have H := HA.out
   clear HA
   simp only [q15z.l0] at H
   have HC3 := Aside0.mk H
   clear H
   go_upto_region 2 with (fail)
   repeat (go_quiet (fail); go_upto_region 2 with (fail))
   go_cut [15] (fun v15 wc => ∃ (kq : Nat) (x15_2 : Bool), v15 = .bool x15_2 ∧ Aside0 (q15z.j1 kq l0 l1 x5_1 x15_2 = some r) ∧ Aside0 (kq ≤ k1) ∧ Drawn0 w wc)
   case first =>
    have H := HC3.out
    clear HC3
    by_cases c4 : x5_1 < (l0.length : Int)
    ·
     rw [if_pos c4] at H
     have c4b0 : decide (x5_1 < (l0.length : Int)) = true := decide_eq_true c4
     clear c4
     (first | rw [c4b0] | (simp only [i64_w, i32_w, IntKind.wrap_u32]; rw [c4b0]) | skip)
     have H' := Aside0.mk H
     clear H
     go_wp2
     repeat (go_quiet (fail); try go_wp2)
     go_meet
     case rel => exact ⟨_, (decide (x5_1 < (l1.length : Int))), (by first | rfl | (simp; done) | (simp [*]; done)), H', ⟨by have := HK1.out; first | omega | exact Nat.le_refl _⟩, by repeat (first | exact Drawn0.refl _ | apply Drawn0.step)⟩
    ·
     rw [if_neg c4] at H
     have c4b0 : decide (x5_1 < (l0.length : Int)) = false := decide_eq_false c4
     clear c4
     (first | rw [c4b0] | (simp only [i64_w, i32_w, IntKind.wrap_u32]; rw [c4b0]) | skip)
     have H' := Aside0.mk H
     clear H
     go_wp2
     repeat (go_quiet (fail); try go_wp2)
     go_meet
     case rel => exact ⟨_, (false), (by first | rfl | (simp; done) | (simp [*]; done)), H', ⟨by have := HK1.out; first | omega | exact Nat.le_refl _⟩, by repeat (first | exact Drawn0.refl _ | apply Drawn0.step)⟩
   case rest =>
    clear HC3
    try clear c1
    try clear p2
    try clear c3
    try clear c4
    try clear c4b0
    try clear p2
    obtain ⟨kq, x15_2, rfl, HA, HJ2, ⟨mc2, rfl⟩⟩ := hcut
    cases kq with
    | zero => exact absurd HA.out (by simp [q15z.j1])
    | succ kj2 =>
     have H := HA.out
     clear HA
     simp only [q15z.j1] at H
     by_cases c5 : x15_2 = true
     ·
      subst c5
      have H1 : (if 0 ≤ x5_1 then (if x5_1 < (l0.length : Int) then (if x5_1 < (l1.length : Int) then (if (rd l0 x5_1) = (rd l1 x5_1) then (q15z.l0 kj2 l0 l1 (wrap64 (x5_1 + 1))) else ((q14z.f (wrap64 (rd l0 x5_1)) (wrap64 (rd l1 x5_1))).bind fun t5 => (some t5))) else (none)) else (none)) else (none)) = some r := by rw [if_pos rfl] at H; exact H
      clear H
      have H := H1
      clear H1
      by_cases c6 : 0 ≤ x5_1
      ·
       rw [if_pos c6] at H
       have c6b0 : decide (0 ≤ x5_1) = true := decide_eq_true c6
       clear c6
       by_cases c7 : x5_1 < (l0.length : Int)
       ·
        rw [if_pos c7] at H
        have c7b0 : decide (x5_1 < (l0.length : Int)) = true := decide_eq_true c7
        clear c7
        by_cases c8 : x5_1 < (l1.length : Int)
        ·
         rw [if_pos c8] at H
         have c8b0 : decide (x5_1 < (l1.length : Int)) = true := decide_eq_true c8
         clear c8
         by_cases c9 : (rd l0 x5_1) = (rd l1 x5_1)
         ·
          rw [if_pos c9] at H
          have c9b0 : ((rd l0 x5_1) == (rd l1 x5_1)) = true := beq_iff_eq.mpr c9
          have c9b1 : ((rd l0 x5_1) != (rd l1 x5_1)) = false := bne_eq_false_iff_eq.mpr c9
          clear c9
          have H' := Aside0.mk H
          clear H
          have p1 : 0 ≤ (x5_1 : Int) := of_decide_eq_true (by first | (with_reducible assumption) | assumption)
          have q1 : x5_1 < (l0.length : Int) := of_decide_eq_true (by first | (with_reducible assumption) | assumption)
          obtain ⟨ad1, e1, hx1_0⟩ := Kd.at_int HR0.out x5_1 p1 q1
          cases e1
          replace p1 := eq_true p1
          replace q1 := eq_true q1
          have p2 : 0 ≤ (x5_1 : Int) := of_decide_eq_true (by first | (with_reducible assumption) | assumption)
          have q2 : x5_1 < (l1.length : Int) := of_decide_eq_true (by first | (with_reducible assumption) | assumption)
          obtain ⟨ad2, e2, hx2_0⟩ := Kd.at_int HR1.out x5_1 p2 q2
          cases e2
          replace p2 := eq_true p2
          replace q2 := eq_true q2
          go_wp2
          repeat (go_quiet (fail); try go_wp2)
          go_roundg kj2
          case measure => have := HK1.out; have := HJ2.out; omega
          case rel => exact ⟨(wrap64 (x5_1 + 1)), (by first | rfl | (simp; done) | (simp [*]; done)), H', ⟨by have := HK1.out; have := HJ2.out; omega⟩, by repeat (first | exact Drawn0.refl _ | apply Drawn0.step)⟩
         ·
          rw [if_neg c9] at H
          have c9b0 : ((rd l0 x5_1) == (rd l1 x5_1)) = false := beq_eq_false_iff_ne.mpr c9
          have c9b1 : ((rd l0 x5_1) != (rd l1 x5_1)) = true := bne_iff_ne.mpr c9
          replace H := Option.bind_eq_some_iff.mp H
          obtain ⟨t5, A100, H⟩ := H
          replace H : (some t5) = some r := H
          have A10 := Aside0.mk A100
          clear A100
          obtain rfl := Option.some.inj H
          have p1 : 0 ≤ (x5_1 : Int) := of_decide_eq_true (by first | (with_reducible assumption) | assumption)
          have q1 : x5_1 < (l0.length : Int) := of_decide_eq_true (by first | (with_reducible assumption) | assumption)
          obtain ⟨ad1, e1, hx1_0⟩ := Kd.at_int HR0.out x5_1 p1 q1
          cases e1
          replace p1 := eq_true p1
          replace q1 := eq_true q1
          have p2 : 0 ≤ (x5_1 : Int) := of_decide_eq_true (by first | (with_reducible assumption) | assumption)
          have q2 : x5_1 < (l1.length : Int) := of_decide_eq_true (by first | (with_reducible assumption) | assumption)
          obtain ⟨ad2, e2, hx2_0⟩ := Kd.at_int HR1.out x5_1 p2 q2
          cases e2
          replace p2 := eq_true p2
          replace q2 := eq_true q2
          have p3 : 0 ≤ (x5_1 : Int) := of_decide_eq_true (by first | (with_reducible assumption) | assumption)
          have q3 : x5_1 < (l0.length : Int) := of_decide_eq_true (by first | (with_reducible assumption) | assumption)
          obtain ⟨ad3, e3, hx3_0⟩ := Kd.at_int HR0.out x5_1 p3 q3
          obtain rfl : ad1 = ad3 := (by injection e3)
          replace p3 := eq_true p3
          replace q3 := eq_true q3
          have p4 : 0 ≤ (x5_1 : Int) := of_decide_eq_true (by first | (with_reducible assumption) | assumption)
          have q4 : x5_1 < (l1.length : Int) := of_decide_eq_true (by first | (with_reducible assumption) | assumption)
          obtain ⟨ad4, e4, hx4_0⟩ := Kd.at_int HR1.out x5_1 p4 q4
          obtain rfl : ad2 = ad4 := (by injection e4)
          replace p4 := eq_true p4
          replace q4 := eq_true q4
          go_wp2_with (first | (go_at_call 35; (with_reducible refine (q14z.calls (wrap64 (rd l0 x5_1)) (wrap64 (rd l1 x5_1)) t5 _ A10.out).mono ?_); rintro e w' ⟨rfl, ⟨nd, rfl⟩⟩; (try first | exact ⟨rfl, _, World.drewN_drewN _ _ _⟩ | exact ⟨rfl, _, Eq.trans (World.drewN_drewN _ _ _) (congrArg (World.drewN _) (Nat.add_assoc _ _ _))⟩)))
          repeat (go_quiet (first | (go_at_call 35; (with_reducible refine (q14z.calls (wrap64 (rd l0 x5_1)) (wrap64 (rd l1 x5_1)) t5 _ A10.out).mono ?_); rintro e w' ⟨rfl, ⟨nd, rfl⟩⟩; (try first | exact ⟨rfl, _, World.drewN_drewN _ _ _⟩ | exact ⟨rfl, _, Eq.trans (World.drewN_drewN _ _ _) (congrArg (World.drewN _) (Nat.add_assoc _ _ _))⟩))); try go_wp2_with (first | (go_at_call 35; (with_reducible refine (q14z.calls (wrap64 (rd l0 x5_1)) (wrap64 (rd l1 x5_1)) t5 _ A10.out).mono ?_); rintro e w' ⟨rfl, ⟨nd, rfl⟩⟩; (try first | exact ⟨rfl, _, World.drewN_drewN _ _ _⟩ | exact ⟨rfl, _, Eq.trans (World.drewN_drewN _ _ _) (congrArg (World.drewN _) (Nat.add_assoc _ _ _))⟩))))
          go_ret
          exact ⟨by first | rfl | (simp; done) | (simp [*]; done), by repeat (first | exact Drawn0.refl _ | apply Drawn0.step)⟩
        ·
         rw [if_neg c8] at H
         exact absurd H (by simp)
       ·
        rw [if_neg c7] at H
        exact absurd H (by simp)
      ·
       rw [if_neg c6] at H
       exact absurd H (by simp)
     ·
      replace c5 := Bool.eq_false_iff.mpr c5
      subst c5
      have H1 : ((q14z.f (l0.length : Int) (l1.length : Int)).bind fun t6 => (some t6)) = some r := by rw [if_neg (show ¬ (false = true) by decide)] at H; exact H
      clear H
      have H := H1
      clear H1
      replace H := Option.bind_eq_some_iff.mp H
      obtain ⟨t6, A110, H⟩ := H
      replace H : (some t6) = some r := H
      have A11 := Aside0.mk A110
      clear A110
      obtain rfl := Option.some.inj H
      go_wp2_with (first | (go_at_call 35; (with_reducible refine (q14z.calls (l0.length : Int) (l1.length : Int) t6 _ A11.out).mono ?_); rintro e w' ⟨rfl, ⟨nd, rfl⟩⟩; (try first | exact ⟨rfl, _, World.drewN_drewN _ _ _⟩ | exact ⟨rfl, _, Eq.trans (World.drewN_drewN _ _ _) (congrArg (World.drewN _) (Nat.add_assoc _ _ _))⟩)))
      repeat (go_quiet (first | (go_at_call 35; (with_reducible refine (q14z.calls (l0.length : Int) (l1.length : Int) t6 _ A11.out).mono ?_); rintro e w' ⟨rfl, ⟨nd, rfl⟩⟩; (try first | exact ⟨rfl, _, World.drewN_drewN _ _ _⟩ | exact ⟨rfl, _, Eq.trans (World.drewN_drewN _ _ _) (congrArg (World.drewN _) (Nat.add_assoc _ _ _))⟩))); try go_wp2_with (first | (go_at_call 35; (with_reducible refine (q14z.calls (l0.length : Int) (l1.length : Int) t6 _ A11.out).mono ?_); rintro e w' ⟨rfl, ⟨nd, rfl⟩⟩; (try first | exact ⟨rfl, _, World.drewN_drewN _ _ _⟩ | exact ⟨rfl, _, Eq.trans (World.drewN_drewN _ _ _) (congrArg (World.drewN _) (Nat.add_assoc _ _ _))⟩))))
      go_ret
      exact ⟨by first | rfl | (simp; done) | (simp [*]; done), by repeat (first | exact Drawn0.refl _ | apply Drawn0.step)⟩

/-! ### dragomanref03_Cmp: function 16 -/
def q16z.l0 : Nat → Int → Int → Int → Int → Int → Int → Int → Int → Int → Option (Int)
 | 0, _, _, _, _, _, _, _, _, _ => none
 | k + 1, x60, x800, x801, x802, x803, x804, x805, x806, x807 => if x60 < 8 then (if 0 ≤ x60 then (if (arrA68 x800 x801 x802 x803 x804 x805 x806 x807 x60) = 0 then (q16z.l0 k (wrap64 (x60 + 1)) x800 x801 x802 x803 x804 x805 x806 x807) else (some (arrA68 x800 x801 x802 x803 x804 x805 x806 x807 x60))) else (none)) else (some 0)
def q16z.f (k : Nat) (a0_0 : Int) (a0_1 : Int) (l0_2 : List Int) (l0_3 : List Int) (a0_4 : Int) (a0_5 : Int) (a0_6 : Int) (a0_7 : Int) (a1_0 : Int) (a1_1 : Int) (l1_2 : List Int) (l1_3 : List Int) (a1_4 : Int) (a1_5 : Int) (a1_6 : Int) (a1_7 : Int) : Option (Int) := (q14z.f (wrap64 (a0_0)) (wrap64 (a1_0))).bind fun t3 => ((q14z.f a0_1 a1_1).bind fun t4 => ((q15z.f k l0_2 l1_2).bind fun t5 => ((q15z.f k l0_3 l1_3).bind fun t6 => ((q14z.f (wrap64 (a0_4)) (wrap64 (a1_4))).bind fun t7 => ((q14z.f (wrap64 (a0_5)) (wrap64 (a1_5))).bind fun t8 => ((q14z.f a0_6 a1_6).bind fun t9 => ((q14z.f (wrap64 (a0_7)) (wrap64 (a1_7))).bind fun t10 => (q16z.l0 k 0 t3 t4 t5 t6 t7 t8 t9 t10))))))))
theorem q16z.mono_l : ∀ k, (∀ y0 y1 y2 y3 y4 y5 y6 y7 y8, LeO (q16z.l0 k y0 y1 y2 y3 y4 y5 y6 y7 y8) (q16z.l0 (k + 1) y0 y1 y2 y3 y4 y5 y6 y7 y8))
 | 0 => fun _ _ _ _ _ _ _ _ _ r h => by simp [q16z.l0] at h
 | k + 1 => by
  have ih0 := q16z.mono_l k
  ·
   intro y0 y1 y2 y3 y4 y5 y6 y7 y8
   unfold q16z.l0
   repeat' first
   | (with_reducible exact ih0 _ _ _ _ _ _ _ _ _)
   | (with_reducible exact q15z.mono _ _ _)
   | (with_reducible exact LeO.refl _)
   | (with_reducible exact LeO.none _)
   | (with_reducible refine LeO.ite ?_ ?_)
   | (with_reducible refine LeO.bind ?_ (fun _ => ?_))
   | exact ih0 _ _ _ _ _ _ _ _ _
   | exact q15z.mono _ _ _
   | exact LeO.none _
   | refine LeO.ite ?_ ?_
   | refine LeO.bind ?_ (fun _ => ?_)
theorem q16z.mono : ∀ a0 a1 a2 a3 a4 a5 a6 a7 a8 a9 a10 a11 a12 a13 a14 a15 k, LeO (q16z.f k a0 a1 a2 a3 a4 a5 a6 a7 a8 a9 a10 a11 a12 a13 a14 a15) (q16z.f (k + 1) a0 a1 a2 a3 a4 a5 a6 a7 a8 a9 a10 a11 a12 a13 a14 a15) := by
 intro a0 a1 a2 a3 a4 a5 a6 a7 a8 a9 a10 a11 a12 a13 a14 a15 k
 have ih0 := q16z.mono_l k
 unfold q16z.f
 repeat' first
   | (with_reducible exact ih0 _ _ _ _ _ _ _ _ _)
   | (with_reducible exact q15z.mono _ _ _)
   | (with_reducible exact LeO.refl _)
   | (with_reducible exact LeO.none _)
   | (with_reducible refine LeO.ite ?_ ?_)
   | (with_reducible refine LeO.bind ?_ (fun _ => ?_))
   | exact ih0 _ _ _ _ _ _ _ _ _
   | exact q15z.mono _ _ _
   | exact LeO.none _
   | refine LeO.ite ?_ ?_
   | refine LeO.bind ?_ (fun _ => ?_)
def q16z.T1 : Bool × List (List Nat × List Nat) := (true, [([], []), ([0], [0]), ([1], [1]), ([2], [2]), ([], []), ([4], [4]), ([5], [5]), ([6], [6]), ([3, 7], [3, 7]), ([], []), ([9], [9]), ([10], [10]), ([], []), ([12], [12]), ([13], [13]), ([11, 14, 8], [11, 14]), ([], []), ([16], [16]), ([], []), ([18], [18]), ([17, 19, 15], [17, 19]), ([], []), ([21], [21]), ([], []), ([23], [23]), ([22, 24, 20], [22, 24]), ([], []), ([26], [26]), ([27], [27]), ([], []), ([29], [29]), ([30], [30]), ([28, 31, 25], [28, 31]), ([], []), ([33], [33]), ([34], [34]), ([], []), ([36], [36]), ([37], [37]), ([35, 38, 32], [35, 38]), ([], []), ([40], [40]), ([], []), ([42], [42]), ([41, 43, 39], [41, 43]), ([], []), ([45], [45]), ([46], [46]), ([], []), ([48], [48]), ([49], [49]), ([47, 50, 44], [47, 50]), ([8, 15, 20, 25, 32, 39, 44, 51], [8, 15, 20, 25, 32, 39, 44, 51]), ([], [])])
def q16z.B1 : List Nat := [0, 1, 3, 7, 0, 16, 48, 112, 255, 0, 512, 1536, 0, 4096, 12288, 32767, 0, 65536, 0, 262144, 1048575, 0, 2097152, 0, 8388608, 33554431, 0, 67108864, 201326592, 0, 536870912, 1610612736, 4294967295, 0, 8589934592, 25769803776, 0, 68719476736, 206158430208, 549755813887, 0, 1099511627776, 0, 4398046511104, 17592186044415, 0, 35184372088832, 105553116266496, 0, 281474976710656, 844424930131968, 2251799813685247, 4503599627370495, 0]
theorem q16z.tab1 : rtab .any (opsOf Try.f16 1) = q16z.T1 := by kernel_rfl
theorem q16z.bits1 : waitsOk q16z.T1.2 q16z.B1 = true := by kernel_rfl
set_option maxHeartbeats 8000000 in
set_option maxRecDepth 100000 in
theorem q16z.calls (k : Nat) (a0_0 : Int) (a0_1 : Int) (A0_2 : Option Addr) (c0_2 : Nat) (l0_2 : List Int) (A0_3 : Option Addr) (c0_3 : Nat) (l0_3 : List Int) (a0_4 : Int) (a0_5 : Int) (a0_6 : Int) (a0_7 : Int) (a1_0 : Int) (a1_1 : Int) (A1_2 : Option Addr) (c1_2 : Nat) (l1_2 : List Int) (A1_3 : Option Addr) (c1_3 : Nat) (l1_3 : List Int) (a1_4 : Int) (a1_5 : Int) (a1_6 : Int) (a1_7 : Int) (r : Int) (w : World) (hr0_2 : Kd.C (Kd.int .u32) w A0_2 l0_2.length l0_2) (hc0_2 : l0_2.length ≤ c0_2) (hr0_3 : Kd.C (Kd.int .u32) w A0_3 l0_3.length l0_3) (hc0_3 : l0_3.length ≤ c0_3) (hr1_2 : Kd.C (Kd.int .u32) w A1_2 l1_2.length l1_2) (hc1_2 : l1_2.length ≤ c1_2) (hr1_3 : Kd.C (Kd.int .u32) w A1_3 l1_3.length l1_3) (hc1_3 : l1_3.length ≤ c1_3) (h : q16z.f k a0_0 a0_1 l0_2 l0_3 a0_4 a0_5 a0_6 a0_7 a1_0 a1_1 l1_2 l1_3 a1_4 a1_5 a1_6 a1_7 = some r) :
  Calls Try.prog 16 #[.agg #[.int .u32 a0_0, .int .i64 a0_1, .slice A0_2 l0_2.length c0_2, .slice A0_3 l0_3.length c0_3, .int .u32 a0_4, .int .u32 a0_5, .int .i64 a0_6, .int .u32 a0_7], .agg #[.int .u32 a1_0, .int .i64 a1_1, .slice A1_2 l1_2.length c1_2, .slice A1_3 l1_3.length c1_3, .int .u32 a1_4, .int .u32 a1_5, .int .i64 a1_6, .int .u32 a1_7]] w fun e w' => e = .returned (.int .i64 r) ∧ Below w.heap.size w w' := by
 have hu30 := Try.underlying30
 have hu68 := Try.underlying68
 have HR0_2 := Aside0.mk hr0_2
 have HC0_2 := Aside0.mk hc0_2
 clear hr0_2 hc0_2
 have HR0_3 := Aside0.mk hr0_3
 have HC0_3 := Aside0.mk hc0_3
 clear hr0_3 hc0_3
 have HR1_2 := Aside0.mk hr1_2
 have HC1_2 := Aside0.mk hc1_2
 clear hr1_2 hc1_2
 have HR1_3 := Aside0.mk hr1_3
 have HC1_3 := Aside0.mk hc1_3
 clear hr1_3 hc1_3
 have HB := Aside0.mk (Below.refl w.heap.size w)
 have H : ((q14z.f (wrap64 (a0_0)) (wrap64 (a1_0))).bind fun t3 => ((q14z.f a0_1 a1_1).bind fun t4 => ((q15z.f k l0_2 l1_2).bind fun t5 => ((q15z.f k l0_3 l1_3).bind fun t6 => ((q14z.f (wrap64 (a0_4)) (wrap64 (a1_4))).bind fun t7 => ((q14z.f (wrap64 (a0_5)) (wrap64 (a1_5))).bind fun t8 => ((q14z.f a0_6 a1_6).bind fun t9 => ((q14z.f (wrap64 (a0_7)) (wrap64 (a1_7))).bind fun t10 => (q16z.l0 k 0 t3 t4 t5 t6 t7 t8 t9 t10))))))))) = some r := h
 clear h
 replace H := Option.bind_eq_some_iff.mp H
 obtain ⟨t3, A30, H⟩ := H
 replace H : ((q14z.f a0_1 a1_1).bind fun t4 => ((q15z.f k l0_2 l1_2).bind fun t5 => ((q15z.f k l0_3 l1_3).bind fun t6 => ((q14z.f (wrap64 (a0_4)) (wrap64 (a1_4))).bind fun t7 => ((q14z.f (wrap64 (a0_5)) (wrap64 (a1_5))).bind fun t8 => ((q14z.f a0_6 a1_6).bind fun t9 => ((q14z.f (wrap64 (a0_7)) (wrap64 (a1_7))).bind fun t10 => (q16z.l0 k 0 t3 t4 t5 t6 t7 t8 t9 t10)))))))) = some r := H
 have A3 := Aside0.mk A30
 clear A30
 replace H := Option.bind_eq_some_iff.mp H
 obtain ⟨t4, A40, H⟩ := H
 replace H : ((q15z.f k l0_2 l1_2).bind fun t5 => ((q15z.f k l0_3 l1_3).bind fun t6 => ((q14z.f (wrap64 (a0_4)) (wrap64 (a1_4))).bind fun t7 => ((q14z.f (wrap64 (a0_5)) (wrap64 (a1_5))).bind fun t8 => ((q14z.f a0_6 a1_6).bind fun t9 => ((q14z.f (wrap64 (a0_7)) (wrap64 (a1_7))).bind fun t10 => (q16z.l0 k 0 t3 t4 t5 t6 t7 t8 t9 t10))))))) = some r := H
 have A4 := Aside0.mk A40
 clear A40
 replace H := Option.bind_eq_some_iff.mp H
 obtain ⟨t5, A50, H⟩ := H
 replace H : ((q15z.f k l0_3 l1_3).bind fun t6 => ((q14z.f (wrap64 (a0_4)) (wrap64 (a1_4))).bind fun t7 => ((q14z.f (wrap64 (a0_5)) (wrap64 (a1_5))).bind fun t8 => ((q14z.f a0_6 a1_6).bind fun t9 => ((q14z.f (wrap64 (a0_7)) (wrap64 (a1_7))).bind fun t10 => (q16z.l0 k 0 t3 t4 t5 t6 t7 t8 t9 t10)))))) = some r := H
 have A5 := Aside0.mk A50
 clear A50
 replace H := Option.bind_eq_some_iff.mp H
 obtain ⟨t6, A60, H⟩ := H
 replace H : ((q14z.f (wrap64 (a0_4)) (wrap64 (a1_4))).bind fun t7 => ((q14z.f (wrap64 (a0_5)) (wrap64 (a1_5))).bind fun t8 => ((q14z.f a0_6 a1_6).bind fun t9 => ((q14z.f (wrap64 (a0_7)) (wrap64 (a1_7))).bind fun t10 => (q16z.l0 k 0 t3 t4 t5 t6 t7 t8 t9 t10))))) = some r := H
 have A6 := Aside0.mk A60
 clear A60
 replace H := Option.bind_eq_some_iff.mp H
 obtain ⟨t7, A70, H⟩ := H
 replace H : ((q14z.f (wrap64 (a0_5)) (wrap64 (a1_5))).bind fun t8 => ((q14z.f a0_6 a1_6).bind fun t9 => ((q14z.f (wrap64 (a0_7)) (wrap64 (a1_7))).bind fun t10 => (q16z.l0 k 0 t3 t4 t5 t6 t7 t8 t9 t10)))) = some r := H
 have A7 := Aside0.mk A70
 clear A70
 replace H := Option.bind_eq_some_iff.mp H
 obtain ⟨t8, A80, H⟩ := H
 replace H : ((q14z.f a0_6 a1_6).bind fun t9 => ((q14z.f (wrap64 (a0_7)) (wrap64 (a1_7))).bind fun t10 => (q16z.l0 k 0 t3 t4 t5 t6 t7 t8 t9 t10))) = some r := H
 have A8 := Aside0.mk A80
 clear A80
 replace H := Option.bind_eq_some_iff.mp H
 obtain ⟨t9, A90, H⟩ := H
 replace H : ((q14z.f (wrap64 (a0_7)) (wrap64 (a1_7))).bind fun t10 => (q16z.l0 k 0 t3 t4 t5 t6 t7 t8 t9 t10)) = some r := H
 have A9 := Aside0.mk A90
 clear A90
 replace H := Option.bind_eq_some_iff.mp H
 obtain ⟨t10, A100, H⟩ := H
 replace H : (q16z.l0 k 0 t3 t4 t5 t6 t7 t8 t9 t10) = some r := H
 have A10 := Aside0.mk A100
 clear A100
 have H' := Aside0.mk H
 clear H
 go_enter Try.func16, Try.ntmps16
 try go_wp2_with (first | ((with_reducible refine gate_dst (N := 2) rfl ?_); refine box_event ?hg (N := 2) ?hd (cs := #[.int .u32 a0_0, .int .i64 a0_1, .slice A0_2 l0_2.length c0_2, .slice A0_3 l0_3.length c0_3, .int .u32 a0_4, .int .u32 a0_5, .int .i64 a0_6, .int .u32 a0_7]) (t := 30) ?hr ?_; (case hd => rfl); (case hg => rfl); (case hr => first | (go_simp; done) | (go_simp; rfl)); intro gb1 hg w11 hbox hb; have BK1 := Aside0.mk (hbox); have GW1 := gwS hg HB; have GE1 := gwS hg HB; replace HB := hbS HB hb; clear hb hbox hg) | ((with_reducible refine gate_dst (N := 3) rfl ?_); refine box_event ?hg (N := 3) ?hd (cs := #[.int .u32 a1_0, .int .i64 a1_1, .slice A1_2 l1_2.length c1_2, .slice A1_3 l1_3.length c1_3, .int .u32 a1_4, .int .u32 a1_5, .int .i64 a1_6, .int .u32 a1_7]) (t := 30) ?hr ?_; (case hd => rfl); (case hg => rfl); (case hr => first | (go_simp; done) | (go_simp; rfl)); intro gb2 hg w12 hbox hb; have BK2 := Aside0.mk (hbox); have GW2 := gwS hg HB; have GE2 := gwS hg HB; have NB1_2 := nbL hg BK1; have NB2_1 := nbG hg BK1; replace BK1 := bkB BK1 hb; replace HB := hbS HB hb; clear hb hbox hg))
 replace BK1 := Aside0.mk (blk_drew BK1.out)
 replace BK2 := Aside0.mk (blk_drew BK2.out)
 replace HB := Aside0.mk (below_drew1 HB.out)
 refine start_ (n := 54) (S := fun w' => w'.cell? ⟨gb1, 0, none⟩ = some (.int .u32 a0_0) ∧ w'.cell? ⟨gb1, 1, none⟩ = some (.int .i64 a0_1) ∧ w'.cell? ⟨gb1, 2, none⟩ = some (.slice A0_2 l0_2.length c0_2) ∧ w'.cell? ⟨gb1, 3, none⟩ = some (.slice A0_3 l0_3.length c0_3) ∧ w'.cell? ⟨gb1, 4, none⟩ = some (.int .u32 a0_4) ∧ w'.cell? ⟨gb1, 5, none⟩ = some (.int .u32 a0_5) ∧ w'.cell? ⟨gb1, 6, none⟩ = some (.int .i64 a0_6) ∧ w'.cell? ⟨gb1, 7, none⟩ = some (.int .u32 a0_7) ∧ w'.cell? ⟨gb2, 0, none⟩ = some (.int .u32 a1_0) ∧ w'.cell? ⟨gb2, 1, none⟩ = some (.int .i64 a1_1) ∧ w'.cell? ⟨gb2, 2, none⟩ = some (.slice A1_2 l1_2.length c1_2) ∧ w'.cell? ⟨gb2, 3, none⟩ = some (.slice A1_3 l1_3.length c1_3) ∧ w'.cell? ⟨gb2, 4, none⟩ = some (.int .u32 a1_4) ∧ w'.cell? ⟨gb2, 5, none⟩ = some (.int .u32 a1_5) ∧ w'.cell? ⟨gb2, 6, none⟩ = some (.int .i64 a1_6) ∧ w'.cell? ⟨gb2, 7, none⟩ = some (.int .u32 a1_7)) (ds := []) #[false, false, false, false, false, false, false, false, false, false, false, false, false, false, false, false, false, false, false, false, false, false, false, false, false, false, false, false, false, false, false, false, false, false, false, false, false, false, false, false, false, false, false, false, false, false, false, false, false, false, false, false, false, false] (by kernel_rfl) rfl rfl (bk8 BK1 (bl8 BK2)) (fun hHeld => ?_); refine with_tabW q16z.tab1 q16z.bits1 (fun HT_ HW_ => ?_)
 generalize w12.drew = w13 at BK1 BK2 HB hHeld ⊢
 refine pure_ (i := 0) (N := some 7) (v := ?_) (a' := ?_) #[true, false, false, false, false, false, false, false, false, false, false, false, false, false, false, false, false, false, false, false, false, false, false, false, false, false, false, false, false, false, false, false, false, false, false, false, false, false, false, false, false, false, false, false, false, false, false, false, false, false, false, false, false, false] rfl rfl (any_of HT_.out (by kernel_rfl)) (fun _ _ _ h => h) (Or.inl ⟨by rfl, ?_⟩) ?_ ?_
 rotate_left
 ·
  intro w'
  go_simp
  with_reducible rfl
 rotate_left
 ·
  simp only [Act.put, List.setIfInBounds_toArray, List.set_cons_zero, List.set_cons_succ, i64_w, i32_w, IntKind.wrap_u32]
  rfl
 refine pure_ (i := 1) (N := some 8) (v := ?_) (a' := ?_) #[true, true, false, false, false, false, false, false, false, false, false, false, false, false, false, false, false, false, false, false, false, false, false, false, false, false, false, false, false, false, false, false, false, false, false, false, false, false, false, false, false, false, false, false, false, false, false, false, false, false, false, false, false, false] rfl rfl (any_of HT_.out (by kernel_rfl)) (fun _ _ _ h => h) (Or.inl ⟨by rfl, ?_⟩) ?_ ?_
 rotate_left
 ·
  intro w'
  go_simp
  with_reducible rfl
 rotate_left
 ·
  simp only [Act.put, List.setIfInBounds_toArray, List.set_cons_zero, List.set_cons_succ, i64_w, i32_w, IntKind.wrap_u32]
  rfl
 refine pure_ (i := 4) (N := some 11) (v := ?_) (a' := ?_) #[true, true, false, false, true, false, false, false, false, false, false, false, false, false, false, false, false, false, false, false, false, false, false, false, false, false, false, false, false, false, false, false, false, false, false, false, false, false, false, false, false, false, false, false, false, false, false, false, false, false, false, false, false, false] rfl rfl (any_of HT_.out (by kernel_rfl)) (fun _ _ _ h => h) (Or.inl ⟨by rfl, ?_⟩) ?_ ?_
 rotate_left
 ·
  intro w'
  go_simp
  with_reducible rfl
 rotate_left
 ·
  simp only [Act.put, List.setIfInBounds_toArray, List.set_cons_zero, List.set_cons_succ, i64_w, i32_w, IntKind.wrap_u32]
  rfl
 refine pure_ (i := 5) (N := some 12) (v := ?_) (a' := ?_) #[true, true, false, false, true, true, false, false, false, false, false, false, false, false, false, false, false, false, false, false, false, false, false, false, false, false, false, false, false, false, false, false, false, false, false, false, false, false, false, false, false, false, false, false, false, false, false, false, false, false, false, false, false, false] rfl rfl (any_of HT_.out (by kernel_rfl)) (fun _ _ _ h => h) (Or.inl ⟨by rfl, ?_⟩) ?_ ?_
 rotate_left
 ·
  intro w'
  go_simp
  with_reducible rfl
 rotate_left
 ·
  simp only [Act.put, List.setIfInBounds_toArray, List.set_cons_zero, List.set_cons_succ, i64_w, i32_w, IntKind.wrap_u32]
  rfl
 refine pure_ (i := 9) (N := some 16) (v := ?_) (a' := ?_) #[true, true, false, false, true, true, false, false, false, true, false, false, false, false, false, false, false, false, false, false, false, false, false, false, false, false, false, false, false, false, false, false, false, false, false, false, false, false, false, false, false, false, false, false, false, false, false, false, false, false, false, false, false, false] rfl rfl (any_of HT_.out (by kernel_rfl)) (fun _ _ _ h => h) (Or.inl ⟨by rfl, ?_⟩) ?_ ?_
 rotate_left
 ·
  intro w'
  go_simp
  with_reducible rfl
 rotate_left
 ·
  simp only [Act.put, List.setIfInBounds_toArray, List.set_cons_zero, List.set_cons_succ, i64_w, i32_w, IntKind.wrap_u32]
  rfl
 refine pure_ (i := 10) (N := some 17) (v := ?_) (a' := ?_) #[true, true, false, false, true, true, false, false, false, true, true, false, false, false, false, false, false, false, false, false, false, false, false, false, false, false, false, false, false, false, false, false, false, false, false, false, false, false, false, false, false, false, false, false, false, false, false, false, false, false, false, false, false, false] rfl rfl (any_of HT_.out (by kernel_rfl)) (fun _ _ _ h => h) (Or.inl ⟨by rfl, ?_⟩) ?_ ?_
 rotate_left
 ·
  intro w'
  go_simp
  with_reducible rfl
 rotate_left
 ·
  simp only [Act.put, List.setIfInBounds_toArray, List.set_cons_zero, List.set_cons_succ, i64_w, i32_w, IntKind.wrap_u32]
  rfl
 refine pure_ (i := 12) (N := some 19) (v := ?_) (a' := ?_) #[true, true, false, false, true, true, false, false, false, true, true, false, true, false, false, false, false, false, false, false, false, false, false, false, false, false, false, false, false, false, false, false, false, false, false, false, false, false, false, false, false, false, false, false, false, false, false, false, false, false, false, false, false, false] rfl rfl (any_of HT_.out (by kernel_rfl)) (fun _ _ _ h => h) (Or.inl ⟨by rfl, ?_⟩) ?_ ?_
 rotate_left
 ·
  intro w'
  go_simp
  with_reducible rfl
 rotate_left
 ·
  simp only [Act.put, List.setIfInBounds_toArray, List.set_cons_zero, List.set_cons_succ, i64_w, i32_w, IntKind.wrap_u32]
  rfl
 refine pure_ (i := 13) (N := some 20) (v := ?_) (a' := ?_) #[true, true, false, false, true, true, false, false, false, true, true, false, true, true, false, false, false, false, false, false, false, false, false, false, false, false, false, false, false, false, false, false, false, false, false, false, false, false, false, false, false, false, false, false, false, false, false, false, false, false, false, false, false, false] rfl rfl (any_of HT_.out (by kernel_rfl)) (fun _ _ _ h => h) (Or.inl ⟨by rfl, ?_⟩) ?_ ?_
 rotate_left
 ·
  intro w'
  go_simp
  with_reducible rfl
 rotate_left
 ·
  simp only [Act.put, List.setIfInBounds_toArray, List.set_cons_zero, List.set_cons_succ, i64_w, i32_w, IntKind.wrap_u32]
  rfl
 refine pure_ (i := 16) (N := some 23) (v := ?_) (a' := ?_) #[true, true, false, false, true, true, false, false, false, true, true, false, true, true, false, false, true, false, false, false, false, false, false, false, false, false, false, false, false, false, false, false, false, false, false, false, false, false, false, false, false, false, false, false, false, false, false, false, false, false, false, false, false, false] rfl rfl (any_of HT_.out (by kernel_rfl)) (fun _ _ _ h => h) (Or.inl ⟨by rfl, ?_⟩) ?_ ?_
 rotate_left
 ·
  intro w'
  go_simp
  with_reducible rfl
 rotate_left
 ·
  simp only [Act.put, List.setIfInBounds_toArray, List.set_cons_zero, List.set_cons_succ, i64_w, i32_w, IntKind.wrap_u32]
  rfl
 refine pure_ (i := 18) (N := some 25) (v := ?_) (a' := ?_) #[true, true, false, false, true, true, false, false, false, true, true, false, true, true, false, false, true, false, true, false, false, false, false, false, false, false, false, false, false, false, false, false, false, false, false, false, false, false, false, false, false, false, false, false, false, false, false, false, false, false, false, false, false, false] rfl rfl (any_of HT_.out (by kernel_rfl)) (fun _ _ _ h => h) (Or.inl ⟨by rfl, ?_⟩) ?_ ?_
 rotate_left
 ·
  intro w'
  go_simp
  with_reducible rfl
 rotate_left
 ·
  simp only [Act.put, List.setIfInBounds_toArray, List.set_cons_zero, List.set_cons_succ, i64_w, i32_w, IntKind.wrap_u32]
  rfl
 refine pure_ (i := 21) (N := some 28) (v := ?_) (a' := ?_) #[true, true, false, false, true, true, false, false, false, true, true, false, true, true, false, false, true, false, true, false, false, true, false, false, false, false, false, false, false, false, false, false, false, false, false, false, false, false, false, false, false, false, false, false, false, false, false, false, false, false, false, false, false, false] rfl rfl (any_of HT_.out (by kernel_rfl)) (fun _ _ _ h => h) (Or.inl ⟨by rfl, ?_⟩) ?_ ?_
 rotate_left
 ·
  intro w'
  go_simp
  with_reducible rfl
 rotate_left
 ·
  simp only [Act.put, List.setIfInBounds_toArray, List.set_cons_zero, List.set_cons_succ, i64_w, i32_w, IntKind.wrap_u32]
  rfl
 refine pure_ (i := 23) (N := some 30) (v := ?_) (a' := ?_) #[true, true, false, false, true, true, false, false, false, true, true, false, true, true, false, false, true, false, true, false, false, true, false, true, false, false, false, false, false, false, false, false, false, false, false, false, false, false, false, false, false, false, false, false, false, false, false, false, false, false, false, false, false, false] rfl rfl (any_of HT_.out (by kernel_rfl)) (fun _ _ _ h => h) (Or.inl ⟨by rfl, ?_⟩) ?_ ?_
 rotate_left
 ·
  intro w'
  go_simp
  with_reducible rfl
 rotate_left
 ·
  simp only [Act.put, List.setIfInBounds_toArray, List.set_cons_zero, List.set_cons_succ, i64_w, i32_w, IntKind.wrap_u32]
  rfl
 refine pure_ (i := 26) (N := some 33) (v := ?_) (a' := ?_) #[true, true, false, false, true, true, false, false, false, true, true, false, true, true, false, false, true, false, true, false, false, true, false, true, false, false, true, false, false, false, false, false, false, false, false, false, false, false, false, false, false, false, false, false, false, false, false, false, false, false, false, false, false, false] rfl rfl (any_of HT_.out (by kernel_rfl)) (fun _ _ _ h => h) (Or.inl ⟨by rfl, ?_⟩) ?_ ?_
 rotate_left
 ·
  intro w'
  go_simp
  with_reducible rfl
 rotate_left
 ·
  simp only [Act.put, List.setIfInBounds_toArray, List.set_cons_zero, List.set_cons_succ, i64_w, i32_w, IntKind.wrap_u32]
  rfl
 refine pure_ (i := 29) (N := some 36) (v := ?_) (a' := ?_) #[true, true, false, false, true, true, false, false, false, true, true, false, true, true, false, false, true, false, true, false, false, true, false, true, false, false, true, false, false, true, false, false, false, false, false, false, false, false, false, false, false, false, false, false, false, false, false, false, false, false, false, false, false, false] rfl rfl (any_of HT_.out (by kernel_rfl)) (fun _ _ _ h => h) (Or.inl ⟨by rfl, ?_⟩) ?_ ?_
 rotate_left
 ·
  intro w'
  go_simp
  with_reducible rfl
 rotate_left
 ·
  simp only [Act.put, List.setIfInBounds_toArray, List.set_cons_zero, List.set_cons_succ, i64_w, i32_w, IntKind.wrap_u32]
  rfl
 refine pure_ (i := 33) (N := some 40) (v := ?_) (a' := ?_) #[true, true, false, false, true, true, false, false, false, true, true, false, true, true, false, false, true, false, true, false, false, true, false, true, false, false, true, false, false, true, false, false, false, true, false, false, false, false, false, false, false, false, false, false, false, false, false, false, false, false, false, false, false, false] rfl rfl (any_of HT_.out (by kernel_rfl)) (fun _ _ _ h => h) (Or.inl ⟨by rfl, ?_⟩) ?_ ?_
 rotate_left
 ·
  intro w'
  go_simp
  with_reducible rfl
 rotate_left
 ·
  simp only [Act.put, List.setIfInBounds_toArray, List.set_cons_zero, List.set_cons_succ, i64_w, i32_w, IntKind.wrap_u32]
  rfl
 refine pure_ (i := 36) (N := some 43) (v := ?_) (a' := ?_) #[true, true, false, false, true, true, false, false, false, true, true, false, true, true, false, false, true, false, true, false, false, true, false, true, false, false, true, false, false, true, false, false, false, true, false, false, true, false, false, false, false, false, false, false, false, false, false, false, false, false, false, false, false, false] rfl rfl (any_of HT_.out (by kernel_rfl)) (fun _ _ _ h => h) (Or.inl ⟨by rfl, ?_⟩) ?_ ?_
 rotate_left
 ·
  intro w'
  go_simp
  with_reducible rfl
 rotate_left
 ·
  simp only [Act.put, List.setIfInBounds_toArray, List.set_cons_zero, List.set_cons_succ, i64_w, i32_w, IntKind.wrap_u32]
  rfl
 refine pure_ (i := 40) (N := some 47) (v := ?_) (a' := ?_) #[true, true, false, false, true, true, false, false, false, true, true, false, true, true, false, false, true, false, true, false, false, true, false, true, false, false, true, false, false, true, false, false, false, true, false, false, true, false, false, false, true, false, false, false, false, false, false, false, false, false, false, false, false, false] rfl rfl (any_of HT_.out (by kernel_rfl)) (fun _ _ _ h => h) (Or.inl ⟨by rfl, ?_⟩) ?_ ?_
 rotate_left
 ·
  intro w'
  go_simp
  with_reducible rfl
 rotate_left
 ·
  simp only [Act.put, List.setIfInBounds_toArray, List.set_cons_zero, List.set_cons_succ, i64_w, i32_w, IntKind.wrap_u32]
  rfl
 refine pure_ (i := 42) (N := some 49) (v := ?_) (a' := ?_) #[true, true, false, false, true, true, false, false, false, true, true, false, true, true, false, false, true, false, true, false, false, true, false, true, false, false, true, false, false, true, false, false, false, true, false, false, true, false, false, false, true, false, true, false, false, false, false, false, false, false, false, false, false, false] rfl rfl (any_of HT_.out (by kernel_rfl)) (fun _ _ _ h => h) (Or.inl ⟨by rfl, ?_⟩) ?_ ?_
 rotate_left
 ·
  intro w'
  go_simp
  with_reducible rfl
 rotate_left
 ·
  simp only [Act.put, List.setIfInBounds_toArray, List.set_cons_zero, List.set_cons_succ, i64_w, i32_w, IntKind.wrap_u32]
  rfl
 refine pure_ (i := 45) (N := some 52) (v := ?_) (a' := ?_) #[true, true, false, false, true, true, false, false, false, true, true, false, true, true, false, false, true, false, true, false, false, true, false, true, false, false, true, false, false, true, false, false, false, true, false, false, true, false, false, false, true, false, true, false, false, true, false, false, false, false, false, false, false, false] rfl rfl (any_of HT_.out (by kernel_rfl)) (fun _ _ _ h => h) (Or.inl ⟨by rfl, ?_⟩) ?_ ?_
 rotate_left
 ·
  intro w'
  go_simp
  with_reducible rfl
 rotate_left
 ·
  simp only [Act.put, List.setIfInBounds_toArray, List.set_cons_zero, List.set_cons_succ, i64_w, i32_w, IntKind.wrap_u32]
  rfl
 refine pure_ (i := 48) (N := some 55) (v := ?_) (a' := ?_) #[true, true, false, false, true, true, false, false, false, true, true, false, true, true, false, false, true, false, true, false, false, true, false, true, false, false, true, false, false, true, false, false, false, true, false, false, true, false, false, false, true, false, true, false, false, true, false, false, true, false, false, false, false, false] rfl rfl (any_of HT_.out (by kernel_rfl)) (fun _ _ _ h => h) (Or.inl ⟨by rfl, ?_⟩) ?_ ?_
 rotate_left
 ·
  intro w'
  go_simp
  with_reducible rfl
 rotate_left
 ·
  simp only [Act.put, List.setIfInBounds_toArray, List.set_cons_zero, List.set_cons_succ, i64_w, i32_w, IntKind.wrap_u32]
  rfl
 refine pure_ (i := 53) (N := some 60) (v := ?_) (a' := ?_) #[true, true, false, false, true, true, false, false, false, true, true, false, true, true, false, false, true, false, true, false, false, true, false, true, false, false, true, false, false, true, false, false, false, true, false, false, true, false, false, false, true, false, true, false, false, true, false, false, true, false, false, false, false, true] rfl rfl (any_of HT_.out (by kernel_rfl)) (fun _ _ _ h => h) (Or.inl ⟨by rfl, ?_⟩) ?_ ?_
 rotate_left
 ·
  intro w'
  go_simp
  with_reducible rfl
 rotate_left
 ·
  simp only [Act.put, List.setIfInBounds_toArray, List.set_cons_zero, List.set_cons_succ, i64_w, i32_w, IntKind.wrap_u32]
  rfl
 refine take_ (i := 2) (N := some 9) (v := ?_) (a' := ?_) #[true, true, true, false, true, true, false, false, false, true, true, false, true, true, false, false, true, false, true, false, false, true, false, true, false, false, true, false, false, true, false, false, false, true, false, false, true, false, false, false, true, false, true, false, false, true, false, false, true, false, false, false, false, true] rfl rfl (take_ofW HT_.out HW_.out (by kernel_rfl)) (fun _ _ _ h => h) (Or.inl ⟨by rfl, ?_⟩) hHeld ?_ ?_
 rotate_left
 ·
  rintro w' ⟨s0, s1, s2, s3, s4, s5, s6, s7, s8, s9, s10, s11, s12, s13, s14, s15⟩
  go_simp
  with_reducible rfl
 rotate_left
 ·
  simp only [Act.put, List.setIfInBounds_toArray, List.set_cons_zero, List.set_cons_succ, i64_w, i32_w, IntKind.wrap_u32]
  rfl
 refine pure_ (i := 3) (N := some 10) (v := ?_) (a' := ?_) #[true, true, true, true, true, true, false, false, false, true, true, false, true, true, false, false, true, false, true, false, false, true, false, true, false, false, true, false, false, true, false, false, false, true, false, false, true, false, false, false, true, false, true, false, false, true, false, false, true, false, false, false, false, true] rfl rfl (any_of HT_.out (by kernel_rfl)) (fun _ _ _ h => h) (Or.inl ⟨by rfl, ?_⟩) ?_ ?_
 rotate_left
 ·
  intro w'
  go_simp
  with_reducible rfl
 rotate_left
 ·
  simp only [Act.put, List.setIfInBounds_toArray, List.set_cons_zero, List.set_cons_succ, i64_w, i32_w, IntKind.wrap_u32]
  rfl
 refine take_ (i := 6) (N := some 13) (v := ?_) (a' := ?_) #[true, true, true, true, true, true, true, false, false, true, true, false, true, true, false, false, true, false, true, false, false, true, false, true, false, false, true, false, false, true, false, false, false, true, false, false, true, false, false, false, true, false, true, false, false, true, false, false, true, false, false, false, false, true] rfl rfl (take_ofW HT_.out HW_.out (by kernel_rfl)) (fun _ _ _ h => h) (Or.inl ⟨by rfl, ?_⟩) hHeld ?_ ?_
 rotate_left
 ·
  rintro w' ⟨s0, s1, s2, s3, s4, s5, s6, s7, s8, s9, s10, s11, s12, s13, s14, s15⟩
  go_simp
  with_reducible rfl
 rotate_left
 ·
  simp only [Act.put, List.setIfInBounds_toArray, List.set_cons_zero, List.set_cons_succ, i64_w, i32_w, IntKind.wrap_u32]
  rfl
 refine pure_ (i := 7) (N := some 14) (v := ?_) (a' := ?_) #[true, true, true, true, true, true, true, true, false, true, true, false, true, true, false, false, true, false, true, false, false, true, false, true, false, false, true, false, false, true, false, false, false, true, false, false, true, false, false, false, true, false, true, false, false, true, false, false, true, false, false, false, false, true] rfl rfl (any_of HT_.out (by kernel_rfl)) (fun _ _ _ h => h) (Or.inl ⟨by rfl, ?_⟩) ?_ ?_
 rotate_left
 ·
  intro w'
  go_simp
  with_reducible rfl
 rotate_left
 ·
  simp only [Act.put, List.setIfInBounds_toArray, List.set_cons_zero, List.set_cons_succ, i64_w, i32_w, IntKind.wrap_u32]
  rfl
 refine take_ (i := 11) (N := some 18) (v := ?_) (a' := ?_) #[true, true, true, true, true, true, true, true, false, true, true, true, true, true, false, false, true, false, true, false, false, true, false, true, false, false, true, false, false, true, false, false, false, true, false, false, true, false, false, false, true, false, true, false, false, true, false, false, true, false, false, false, false, true] rfl rfl (take_ofW HT_.out HW_.out (by kernel_rfl)) (fun _ _ _ h => h) (Or.inl ⟨by rfl, ?_⟩) hHeld ?_ ?_
 rotate_left
 ·
  rintro w' ⟨s0, s1, s2, s3, s4, s5, s6, s7, s8, s9, s10, s11, s12, s13, s14, s15⟩
  go_simp
  with_reducible rfl
 rotate_left
 ·
  simp only [Act.put, List.setIfInBounds_toArray, List.set_cons_zero, List.set_cons_succ, i64_w, i32_w, IntKind.wrap_u32]
  rfl
 refine take_ (i := 14) (N := some 21) (v := ?_) (a' := ?_) #[true, true, true, true, true, true, true, true, false, true, true, true, true, true, true, false, true, false, true, false, false, true, false, true, false, false, true, false, false, true, false, false, false, true, false, false, true, false, false, false, true, false, true, false, false, true, false, false, true, false, false, false, false, true] rfl rfl (take_ofW HT_.out HW_.out (by kernel_rfl)) (fun _ _ _ h => h) (Or.inl ⟨by rfl, ?_⟩) hHeld ?_ ?_
 rotate_left
 ·
  rintro w' ⟨s0, s1, s2, s3, s4, s5, s6, s7, s8, s9, s10, s11, s12, s13, s14, s15⟩
  go_simp
  with_reducible rfl
 rotate_left
 ·
  simp only [Act.put, List.setIfInBounds_toArray, List.set_cons_zero, List.set_cons_succ, i64_w, i32_w, IntKind.wrap_u32]
  rfl
 refine take_ (i := 17) (N := some 24) (v := ?_) (a' := ?_) #[true, true, true, true, true, true, true, true, false, true, true, true, true, true, true, false, true, true, true, false, false, true, false, true, false, false, true, false, false, true, false, false, false, true, false, false, true, false, false, false, true, false, true, false, false, true, false, false, true, false, false, false, false, true] rfl rfl (take_ofW HT_.out HW_.out (by kernel_rfl)) (fun _ _ _ h => h) (Or.inl ⟨by rfl, ?_⟩) hHeld ?_ ?_
 rotate_left
 ·
  rintro w' ⟨s0, s1, s2, s3, s4, s5, s6, s7, s8, s9, s10, s11, s12, s13, s14, s15⟩
  go_simp
  with_reducible rfl
 rotate_left
 ·
  simp only [Act.put, List.setIfInBounds_toArray, List.set_cons_zero, List.set_cons_succ, i64_w, i32_w, IntKind.wrap_u32]
  rfl
 refine take_ (i := 19) (N := some 26) (v := ?_) (a' := ?_) #[true, true, true, true, true, true, true, true, false, true, true, true, true, true, true, false, true, true, true, true, false, true, false, true, false, false, true, false, false, true, false, false, false, true, false, false, true, false, false, false, true, false, true, false, false, true, false, false, true, false, false, false, false, true] rfl rfl (take_ofW HT_.out HW_.out (by kernel_rfl)) (fun _ _ _ h => h) (Or.inl ⟨by rfl, ?_⟩) hHeld ?_ ?_
 rotate_left
 ·
  rintro w' ⟨s0, s1, s2, s3, s4, s5, s6, s7, s8, s9, s10, s11, s12, s13, s14, s15⟩
  go_simp
  with_reducible rfl
 rotate_left
 ·
  simp only [Act.put, List.setIfInBounds_toArray, List.set_cons_zero, List.set_cons_succ, i64_w, i32_w, IntKind.wrap_u32]
  rfl
 refine take_ (i := 22) (N := some 29) (v := ?_) (a' := ?_) #[true, true, true, true, true, true, true, true, false, true, true, true, true, true, true, false, true, true, true, true, false, true, true, true, false, false, true, false, false, true, false, false, false, true, false, false, true, false, false, false, true, false, true, false, false, true, false, false, true, false, false, false, false, true] rfl rfl (take_ofW HT_.out HW_.out (by kernel_rfl)) (fun _ _ _ h => h) (Or.inl ⟨by rfl, ?_⟩) hHeld ?_ ?_
 rotate_left
 ·
  rintro w' ⟨s0, s1, s2, s3, s4, s5, s6, s7, s8, s9, s10, s11, s12, s13, s14, s15⟩
  go_simp
  with_reducible rfl
 rotate_left
 ·
  simp only [Act.put, List.setIfInBounds_toArray, List.set_cons_zero, List.set_cons_succ, i64_w, i32_w, IntKind.wrap_u32]
  rfl
 refine take_ (i := 24) (N := some 31) (v := ?_) (a' := ?_) #[true, true, true, true, true, true, true, true, false, true, true, true, true, true, true, false, true, true, true, true, false, true, true, true, true, false, true, false, false, true, false, false, false, true, false, false, true, false, false, false, true, false, true, false, false, true, false, false, true, false, false, false, false, true] rfl rfl (take_ofW HT_.out HW_.out (by kernel_rfl)) (fun _ _ _ h => h) (Or.inl ⟨by rfl, ?_⟩) hHeld ?_ ?_
 rotate_left
 ·
  rintro w' ⟨s0, s1, s2, s3, s4, s5, s6, s7, s8, s9, s10, s11, s12, s13, s14, s15⟩
  go_simp
  with_reducible rfl
 rotate_left
 ·
  simp only [Act.put, List.setIfInBounds_toArray, List.set_cons_zero, List.set_cons_succ, i64_w, i32_w, IntKind.wrap_u32]
  rfl
 refine take_ (i := 27) (N := some 34) (v := ?_) (a' := ?_) #[true, true, true, true, true, true, true, true, false, true, true, true, true, true, true, false, true, true, true, true, false, true, true, true, true, false, true, true, false, true, false, false, false, true, false, false, true, false, false, false, true, false, true, false, false, true, false, false, true, false, false, false, false, true] rfl rfl (take_ofW HT_.out HW_.out (by kernel_rfl)) (fun _ _ _ h => h) (Or.inl ⟨by rfl, ?_⟩) hHeld ?_ ?_
 rotate_left
 ·
  rintro w' ⟨s0, s1, s2, s3, s4, s5, s6, s7, s8, s9, s10, s11, s12, s13, s14, s15⟩
  go_simp
  with_reducible rfl
 rotate_left
 ·
  simp only [Act.put, List.setIfInBounds_toArray, List.set_cons_zero, List.set_cons_succ, i64_w, i32_w, IntKind.wrap_u32]
  rfl
 refine pure_ (i := 28) (N := some 35) (v := ?_) (a' := ?_) #[true, true, true, true, true, true, true, true, false, true, true, true, true, true, true, false, true, true, true, true, false, true, true, true, true, false, true, true, true, true, false, false, false, true, false, false, true, false, false, false, true, false, true, false, false, true, false, false, true, false, false, false, false, true] rfl rfl (any_of HT_.out (by kernel_rfl)) (fun _ _ _ h => h) (Or.inl ⟨by rfl, ?_⟩) ?_ ?_
 rotate_left
 ·
  intro w'
  go_simp
  with_reducible rfl
 rotate_left
 ·
  simp only [Act.put, List.setIfInBounds_toArray, List.set_cons_zero, List.set_cons_succ, i64_w, i32_w, IntKind.wrap_u32]
  rfl
 refine take_ (i := 30) (N := some 37) (v := ?_) (a' := ?_) #[true, true, true, true, true, true, true, true, false, true, true, true, true, true, true, false, true, true, true, true, false, true, true, true, true, false, true, true, true, true, true, false, false, true, false, false, true, false, false, false, true, false, true, false, false, true, false, false, true, false, false, false, false, true] rfl rfl (take_ofW HT_.out HW_.out (by kernel_rfl)) (fun _ _ _ h => h) (Or.inl ⟨by rfl, ?_⟩) hHeld ?_ ?_
 rotate_left
 ·
  rintro w' ⟨s0, s1, s2, s3, s4, s5, s6, s7, s8, s9, s10, s11, s12, s13, s14, s15⟩
  go_simp
  with_reducible rfl
 rotate_left
 ·
  simp only [Act.put, List.setIfInBounds_toArray, List.set_cons_zero, List.set_cons_succ, i64_w, i32_w, IntKind.wrap_u32]
  rfl
 refine pure_ (i := 31) (N := some 38) (v := ?_) (a' := ?_) #[true, true, true, true, true, true, true, true, false, true, true, true, true, true, true, false, true, true, true, true, false, true, true, true, true, false, true, true, true, true, true, true, false, true, false, false, true, false, false, false, true, false, true, false, false, true, false, false, true, false, false, false, false, true] rfl rfl (any_of HT_.out (by kernel_rfl)) (fun _ _ _ h => h) (Or.inl ⟨by rfl, ?_⟩) ?_ ?_
 rotate_left
 ·
  intro w'
  go_simp
  with_reducible rfl
 rotate_left
 ·
  simp only [Act.put, List.setIfInBounds_toArray, List.set_cons_zero, List.set_cons_succ, i64_w, i32_w, IntKind.wrap_u32]
  rfl
 refine take_ (i := 34) (N := some 41) (v := ?_) (a' := ?_) #[true, true, true, true, true, true, true, true, false, true, true, true, true, true, true, false, true, true, true, true, false, true, true, true, true, false, true, true, true, true, true, true, false, true, true, false, true, false, false, false, true, false, true, false, false, true, false, false, true, false, false, false, false, true] rfl rfl (take_ofW HT_.out HW_.out (by kernel_rfl)) (fun _ _ _ h => h) (Or.inl ⟨by rfl, ?_⟩) hHeld ?_ ?_
 rotate_left
 ·
  rintro w' ⟨s0, s1, s2, s3, s4, s5, s6, s7, s8, s9, s10, s11, s12, s13, s14, s15⟩
  go_simp
  with_reducible rfl
 rotate_left
 ·
  simp only [Act.put, List.setIfInBounds_toArray, List.set_cons_zero, List.set_cons_succ, i64_w, i32_w, IntKind.wrap_u32]
  rfl
 refine pure_ (i := 35) (N := some 42) (v := ?_) (a' := ?_) #[true, true, true, true, true, true, true, true, false, true, true, true, true, true, true, false, true, true, true, true, false, true, true, true, true, false, true, true, true, true, true, true, false, true, true, true, true, false, false, false, true, false, true, false, false, true, false, false, true, false, false, false, false, true] rfl rfl (any_of HT_.out (by kernel_rfl)) (fun _ _ _ h => h) (Or.inl ⟨by rfl, ?_⟩) ?_ ?_
 rotate_left
 ·
  intro w'
  go_simp
  with_reducible rfl
 rotate_left
 ·
  simp only [Act.put, List.setIfInBounds_toArray, List.set_cons_zero, List.set_cons_succ, i64_w, i32_w, IntKind.wrap_u32]
  rfl
 refine take_ (i := 37) (N := some 44) (v := ?_) (a' := ?_) #[true, true, true, true, true, true, true, true, false, true, true, true, true, true, true, false, true, true, true, true, false, true, true, true, true, false, true, true, true, true, true, true, false, true, true, true, true, true, false, false, true, false, true, false, false, true, false, false, true, false, false, false, false, true] rfl rfl (take_ofW HT_.out HW_.out (by kernel_rfl)) (fun _ _ _ h => h) (Or.inl ⟨by rfl, ?_⟩) hHeld ?_ ?_
 rotate_left
 ·
  rintro w' ⟨s0, s1, s2, s3, s4, s5, s6, s7, s8, s9, s10, s11, s12, s13, s14, s15⟩
  go_simp
  with_reducible rfl
 rotate_left
 ·
  simp only [Act.put, List.setIfInBounds_toArray, List.set_cons_zero, List.set_cons_succ, i64_w, i32_w, IntKind.wrap_u32]
  rfl
 refine pure_ (i := 38) (N := some 45) (v := ?_) (a' := ?_) #[true, true, true, true, true, true, true, true, false, true, true, true, true, true, true, false, true, true, true, true, false, true, true, true, true, false, true, true, true, true, true, true, false, true, true, true, true, true, true, false, true, false, true, false, false, true, false, false, true, false, false, false, false, true] rfl rfl (any_of HT_.out (by kernel_rfl)) (fun _ _ _ h => h) (Or.inl ⟨by rfl, ?_⟩) ?_ ?_
 rotate_left
 ·
  intro w'
  go_simp
  with_reducible rfl
 rotate_left
 ·
  simp only [Act.put, List.setIfInBounds_toArray, List.set_cons_zero, List.set_cons_succ, i64_w, i32_w, IntKind.wrap_u32]
  rfl
 refine take_ (i := 41) (N := some 48) (v := ?_) (a' := ?_) #[true, true, true, true, true, true, true, true, false, true, true, true, true, true, true, false, true, true, true, true, false, true, true, true, true, false, true, true, true, true, true, true, false, true, true, true, true, true, true, false, true, true, true, false, false, true, false, false, true, false, false, false, false, true] rfl rfl (take_ofW HT_.out HW_.out (by kernel_rfl)) (fun _ _ _ h => h) (Or.inl ⟨by rfl, ?_⟩) hHeld ?_ ?_
 rotate_left
 ·
  rintro w' ⟨s0, s1, s2, s3, s4, s5, s6, s7, s8, s9, s10, s11, s12, s13, s14, s15⟩
  go_simp
  with_reducible rfl
 rotate_left
 ·
  simp only [Act.put, List.setIfInBounds_toArray, List.set_cons_zero, List.set_cons_succ, i64_w, i32_w, IntKind.wrap_u32]
  rfl
 refine take_ (i := 43) (N := some 50) (v := ?_) (a' := ?_) #[true, true, true, true, true, true, true, true, false, true, true, true, true, true, true, false, true, true, true, true, false, true, true, true, true, false, true, true, true, true, true, true, false, true, true, true, true, true, true, false, true, true, true, true, false, true, false, false, true, false, false, false, false, true] rfl rfl (take_ofW HT_.out HW_.out (by kernel_rfl)) (fun _ _ _ h => h) (Or.inl ⟨by rfl, ?_⟩) hHeld ?_ ?_
 rotate_left
 ·
  rintro w' ⟨s0, s1, s2, s3, s4, s5, s6, s7, s8, s9, s10, s11, s12, s13, s14, s15⟩
  go_simp
  with_reducible rfl
 rotate_left
 ·
  simp only [Act.put, List.setIfInBounds_toArray, List.set_cons_zero, List.set_cons_succ, i64_w, i32_w, IntKind.wrap_u32]
  rfl
 refine take_ (i := 46) (N := some 53) (v := ?_) (a' := ?_) #[true, true, true, true, true, true, true, true, false, true, true, true, true, true, true, false, true, true, true, true, false, true, true, true, true, false, true, true, true, true, true, true, false, true, true, true, true, true, true, false, true, true, true, true, false, true, true, false, true, false, false, false, false, true] rfl rfl (take_ofW HT_.out HW_.out (by kernel_rfl)) (fun _ _ _ h => h) (Or.inl ⟨by rfl, ?_⟩) hHeld ?_ ?_
 rotate_left
 ·
  rintro w' ⟨s0, s1, s2, s3, s4, s5, s6, s7, s8, s9, s10, s11, s12, s13, s14, s15⟩
  go_simp
  with_reducible rfl
 rotate_left
 ·
  simp only [Act.put, List.setIfInBounds_toArray, List.set_cons_zero, List.set_cons_succ, i64_w, i32_w, IntKind.wrap_u32]
  rfl
 refine pure_ (i := 47) (N := some 54) (v := ?_) (a' := ?_) #[true, true, true, true, true, true, true, true, false, true, true, true, true, true, true, false, true, true, true, true, false, true, true, true, true, false, true, true, true, true, true, true, false, true, true, true, true, true, true, false, true, true, true, true, false, true, true, true, true, false, false, false, false, true] rfl rfl (any_of HT_.out (by kernel_rfl)) (fun _ _ _ h => h) (Or.inl ⟨by rfl, ?_⟩) ?_ ?_
 rotate_left
 ·
  intro w'
  go_simp
  with_reducible rfl
 rotate_left
 ·
  simp only [Act.put, List.setIfInBounds_toArray, List.set_cons_zero, List.set_cons_succ, i64_w, i32_w, IntKind.wrap_u32]
  rfl
 refine take_ (i := 49) (N := some 56) (v := ?_) (a' := ?_) #[true, true, true, true, true, true, true, true, false, true, true, true, true, true, true, false, true, true, true, true, false, true, true, true, true, false, true, true, true, true, true, true, false, true, true, true, true, true, true, false, true, true, true, true, false, true, true, true, true, true, false, false, false, true] rfl rfl (take_ofW HT_.out HW_.out (by kernel_rfl)) (fun _ _ _ h => h) (Or.inl ⟨by rfl, ?_⟩) hHeld ?_ ?_
 rotate_left
 ·
  rintro w' ⟨s0, s1, s2, s3, s4, s5, s6, s7, s8, s9, s10, s11, s12, s13, s14, s15⟩
  go_simp
  with_reducible rfl
 rotate_left
 ·
  simp only [Act.put, List.setIfInBounds_toArray, List.set_cons_zero, List.set_cons_succ, i64_w, i32_w, IntKind.wrap_u32]
  rfl
 refine pure_ (i := 50) (N := some 57) (v := ?_) (a' := ?_) #[true, true, true, true, true, true, true, true, false, true, true, true, true, true, true, false, true, true, true, true, false, true, true, true, true, false, true, true, true, true, true, true, false, true, true, true, true, true, true, false, true, true, true, true, false, true, true, true, true, true, true, false, false, true] rfl rfl (any_of HT_.out (by kernel_rfl)) (fun _ _ _ h => h) (Or.inl ⟨by rfl, ?_⟩) ?_ ?_
 rotate_left
 ·
  intro w'
  go_simp
  with_reducible rfl
 rotate_left
 ·
  simp only [Act.put, List.setIfInBounds_toArray, List.set_cons_zero, List.set_cons_succ, i64_w, i32_w, IntKind.wrap_u32]
  rfl
 refine one_ (i := 8) (N := some 15) #[true, true, true, true, true, true, true, true, true, true, true, true, true, true, true, false, true, true, true, true, false, true, true, true, true, false, true, true, true, true, true, true, false, true, true, true, true, true, true, false, true, true, true, true, false, true, true, true, true, true, true, false, false, true] rfl rfl (one_of HT_.out (by kernel_rfl)) (by decide) (fun K hK => ?_)
 refine goes_ Try.func35 (by kernel_rfl) rfl #[.int .i64 (wrap64 (a0_0)), .int .i64 (wrap64 (a1_0))] (by rfl) rfl rfl (by (try simp only [List.map_toArray, List.map_cons, List.map_nil]); first | done | rfl | (simp only [List.length_drop, List.length_take]; rfl)) ?_
 with_reducible refine (q14z.calls (wrap64 (a0_0)) (wrap64 (a1_0)) t3 _ A3.out).mono ?_
 rintro e w' ⟨rfl, ⟨nd, rfl⟩⟩
 refine ⟨_, rfl, ?_⟩
 refine hK.out _ _ (bk8 BK1 (bl8 BK2)) (fun hHeld => ?_)
 clear hK K
 refine norm_ (a' := ?_) ?_ ?_
 rotate_left
 ·
  show Act.put _ (some 15) _ = _
  simp only [Act.put, List.setIfInBounds_toArray, List.set_cons_zero, List.set_cons_succ, i64_w, i32_w, IntKind.wrap_u32]
  rfl
 refine one_ (i := 15) (N := some 22) #[true, true, true, true, true, true, true, true, true, true, true, true, true, true, true, true, true, true, true, true, false, true, true, true, true, false, true, true, true, true, true, true, false, true, true, true, true, true, true, false, true, true, true, true, false, true, true, true, true, true, true, false, false, true] rfl rfl (one_of HT_.out (by kernel_rfl)) (by decide) (fun K hK => ?_)
 refine goes_ Try.func35 (by kernel_rfl) rfl #[.int .i64 a0_1, .int .i64 a1_1] (by rfl) rfl rfl (by (try simp only [List.map_toArray, List.map_cons, List.map_nil]); first | done | rfl | (simp only [List.length_drop, List.length_take]; rfl)) ?_
 with_reducible refine (q14z.calls a0_1 a1_1 t4 _ A4.out).mono ?_
 rintro e w' ⟨rfl, ⟨nd, rfl⟩⟩
 refine ⟨_, rfl, ?_⟩
 refine hK.out _ _ (bk8 BK1 (bl8 BK2)) (fun hHeld => ?_)
 clear hK K
 refine norm_ (a' := ?_) ?_ ?_
 rotate_left
 ·
  show Act.put _ (some 22) _ = _
  simp only [Act.put, List.setIfInBounds_toArray, List.set_cons_zero, List.set_cons_succ, i64_w, i32_w, IntKind.wrap_u32]
  rfl
 refine one_ (i := 20) (N := some 27) #[true, true, true, true, true, true, true, true, true, true, true, true, true, true, true, true, true, true, true, true, true, true, true, true, true, false, true, true, true, true, true, true, false, true, true, true, true, true, true, false, true, true, true, true, false, true, true, true, true, true, true, false, false, true] rfl rfl (one_of HT_.out (by kernel_rfl)) (by decide) (fun K hK => ?_)
 refine goes_ Try.func36 (by kernel_rfl) rfl #[.slice A0_2 l0_2.length c0_2, .slice A1_2 l1_2.length c1_2] (by rfl) rfl rfl (by (try simp only [List.map_toArray, List.map_cons, List.map_nil]); first | done | rfl | (simp only [List.length_drop, List.length_take]; rfl)) ?_
 with_reducible refine (q15z.calls k _ _ l0_2 _ _ l1_2 t5 _ ?side1 ?side2 ?side3 ?side4 A5.out).mono ?_
 (case side1 => repeat (first | exact (Kd.C_below HR0_2.out (hbW HB)) | (with_reducible refine Kd.C_alloc ?_ _) | (with_reducible refine Kd.C_drewN ?_ _) | (with_reducible refine Kd.C_drew ?_)))
 (case side2 => exact HC0_2.out)
 (case side3 => repeat (first | exact (Kd.C_below HR1_2.out (hbW HB)) | (with_reducible refine Kd.C_alloc ?_ _) | (with_reducible refine Kd.C_drewN ?_ _) | (with_reducible refine Kd.C_drew ?_)))
 (case side4 => exact HC1_2.out)
 rintro e w' ⟨rfl, ⟨nd, rfl⟩⟩
 refine ⟨_, rfl, ?_⟩
 refine hK.out _ _ (bk8 BK1 (bl8 BK2)) (fun hHeld => ?_)
 clear hK K
 refine norm_ (a' := ?_) ?_ ?_
 rotate_left
 ·
  show Act.put _ (some 27) _ = _
  simp only [Act.put, List.setIfInBounds_toArray, List.set_cons_zero, List.set_cons_succ, i64_w, i32_w, IntKind.wrap_u32]
  rfl
 refine one_ (i := 25) (N := some 32) #[true, true, true, true, true, true, true, true, true, true, true, true, true, true, true, true, true, true, true, true, true, true, true, true, true, true, true, true, true, true, true, true, false, true, true, true, true, true, true, false, true, true, true, true, false, true, true, true, true, true, true, false, false, true] rfl rfl (one_of HT_.out (by kernel_rfl)) (by decide) (fun K hK => ?_)
 refine goes_ Try.func36 (by kernel_rfl) rfl #[.slice A0_3 l0_3.length c0_3, .slice A1_3 l1_3.length c1_3] (by rfl) rfl rfl (by (try simp only [List.map_toArray, List.map_cons, List.map_nil]); first | done | rfl | (simp only [List.length_drop, List.length_take]; rfl)) ?_
 with_reducible refine (q15z.calls k _ _ l0_3 _ _ l1_3 t6 _ ?side1 ?side2 ?side3 ?side4 A6.out).mono ?_
 (case side1 => repeat (first | exact (Kd.C_below HR0_3.out (hbW HB)) | (with_reducible refine Kd.C_alloc ?_ _) | (with_reducible refine Kd.C_drewN ?_ _) | (with_reducible refine Kd.C_drew ?_)))
 (case side2 => exact HC0_3.out)
 (case side3 => repeat (first | exact (Kd.C_below HR1_3.out (hbW HB)) | (with_reducible refine Kd.C_alloc ?_ _) | (with_reducible refine Kd.C_drewN ?_ _) | (with_reducible refine Kd.C_drew ?_)))
 (case side4 => exact HC1_3.out)
 rintro e w' ⟨rfl, ⟨nd, rfl⟩⟩
 refine ⟨_, rfl, ?_⟩
 refine hK.out _ _ (bk8 BK1 (bl8 BK2)) (fun hHeld => ?_)
 clear hK K
 refine norm_ (a' := ?_) ?_ ?_
 rotate_left
 ·
  show Act.put _ (some 32) _ = _
  simp only [Act.put, List.setIfInBounds_toArray, List.set_cons_zero, List.set_cons_succ, i64_w, i32_w, IntKind.wrap_u32]
  rfl
 refine one_ (i := 32) (N := some 39) #[true, true, true, true, true, true, true, true, true, true, true, true, true, true, true, true, true, true, true, true, true, true, true, true, true, true, true, true, true, true, true, true, true, true, true, true, true, true, true, false, true, true, true, true, false, true, true, true, true, true, true, false, false, true] rfl rfl (one_of HT_.out (by kernel_rfl)) (by decide) (fun K hK => ?_)
 refine goes_ Try.func35 (by kernel_rfl) rfl #[.int .i64 (wrap64 (a0_4)), .int .i64 (wrap64 (a1_4))] (by rfl) rfl rfl (by (try simp only [List.map_toArray, List.map_cons, List.map_nil]); first | done | rfl | (simp only [List.length_drop, List.length_take]; rfl)) ?_
 with_reducible refine (q14z.calls (wrap64 (a0_4)) (wrap64 (a1_4)) t7 _ A7.out).mono ?_
 rintro e w' ⟨rfl, ⟨nd, rfl⟩⟩
 refine ⟨_, rfl, ?_⟩
 refine hK.out _ _ (bk8 BK1 (bl8 BK2)) (fun hHeld => ?_)
 clear hK K
 refine norm_ (a' := ?_) ?_ ?_
 rotate_left
 ·
  show Act.put _ (some 39) _ = _
  simp only [Act.put, List.setIfInBounds_toArray, List.set_cons_zero, List.set_cons_succ, i64_w, i32_w, IntKind.wrap_u32]
  rfl
 refine one_ (i := 39) (N := some 46) #[true, true, true, true, true, true, true, true, true, true, true, true, true, true, true, true, true, true, true, true, true, true, true, true, true, true, true, true, true, true, true, true, true, true, true, true, true, true, true, true, true, true, true, true, false, true, true, true, true, true, true, false, false, true] rfl rfl (one_of HT_.out (by kernel_rfl)) (by decide) (fun K hK => ?_)
 refine goes_ Try.func35 (by kernel_rfl) rfl #[.int .i64 (wrap64 (a0_5)), .int .i64 (wrap64 (a1_5))] (by rfl) rfl rfl (by (try simp only [List.map_toArray, List.map_cons, List.map_nil]); first | done | rfl | (simp only [List.length_drop, List.length_take]; rfl)) ?_
 with_reducible refine (q14z.calls (wrap64 (a0_5)) (wrap64 (a1_5)) t8 _ A8.out).mono ?_
 rintro e w' ⟨rfl, ⟨nd, rfl⟩⟩
 refine ⟨_, rfl, ?_⟩
 refine hK.out _ _ (bk8 BK1 (bl8 BK2)) (fun hHeld => ?_)
 clear hK K
 refine norm_ (a' := ?_) ?_ ?_
 rotate_left
 ·
  show Act.put _ (some 46) _ = _
  simp only [Act.put, List.setIfInBounds_toArray, List.set_cons_zero, List.set_cons_succ, i64_w, i32_w, IntKind.wrap_u32]
  rfl
 refine one_ (i := 44) (N := some 51) #[true, true, true, true, true, true, true, true, true, true, true, true, true, true, true, true, true, true, true, true, true, true, true, true, true, true, true, true, true, true, true, true, true, true, true, true, true, true, true, true, true, true, true, true, true, true, true, true, true, true, true, false, false, true] rfl rfl (one_of HT_.out (by kernel_rfl)) (by decide) (fun K hK => ?_)
 refine goes_ Try.func35 (by kernel_rfl) rfl #[.int .i64 a0_6, .int .i64 a1_6] (by rfl) rfl rfl (by (try simp only [List.map_toArray, List.map_cons, List.map_nil]); first | done | rfl | (simp only [List.length_drop, List.length_take]; rfl)) ?_
 with_reducible refine (q14z.calls a0_6 a1_6 t9 _ A9.out).mono ?_
 rintro e w' ⟨rfl, ⟨nd, rfl⟩⟩
 refine ⟨_, rfl, ?_⟩
 refine hK.out _ _ (bk8 BK1 (bl8 BK2)) (fun hHeld => ?_)
 clear hK K
 refine norm_ (a' := ?_) ?_ ?_
 rotate_left
 ·
  show Act.put _ (some 51) _ = _
  simp only [Act.put, List.setIfInBounds_toArray, List.set_cons_zero, List.set_cons_succ, i64_w, i32_w, IntKind.wrap_u32]
  rfl
 refine one_ (i := 51) (N := some 58) #[true, true, true, true, true, true, true, true, true, true, true, true, true, true, true, true, true, true, true, true, true, true, true, true, true, true, true, true, true, true, true, true, true, true, true, true, true, true, true, true, true, true, true, true, true, true, true, true, true, true, true, true, false, true] rfl rfl (one_of HT_.out (by kernel_rfl)) (by decide) (fun K hK => ?_)
 refine goes_ Try.func35 (by kernel_rfl) rfl #[.int .i64 (wrap64 (a0_7)), .int .i64 (wrap64 (a1_7))] (by rfl) rfl rfl (by (try simp only [List.map_toArray, List.map_cons, List.map_nil]); first | done | rfl | (simp only [List.length_drop, List.length_take]; rfl)) ?_
 with_reducible refine (q14z.calls (wrap64 (a0_7)) (wrap64 (a1_7)) t10 _ A10.out).mono ?_
 rintro e w' ⟨rfl, ⟨nd, rfl⟩⟩
 refine ⟨_, rfl, ?_⟩
 refine hK.out _ _ (bk8 BK1 (bl8 BK2)) (fun hHeld => ?_)
 clear hK K
 refine norm_ (a' := ?_) ?_ ?_
 rotate_left
 ·
  show Act.put _ (some 58) _ = _
  simp only [Act.put, List.setIfInBounds_toArray, List.set_cons_zero, List.set_cons_succ, i64_w, i32_w, IntKind.wrap_u32]
  rfl
 refine pure_ (i := 52) (N := some 59) (v := ?_) (a' := ?_) #[true, true, true, true, true, true, true, true, true, true, true, true, true, true, true, true, true, true, true, true, true, true, true, true, true, true, true, true, true, true, true, true, true, true, true, true, true, true, true, true, true, true, true, true, true, true, true, true, true, true, true, true, true, true] rfl rfl (any_of HT_.out (by kernel_rfl)) (fun _ _ _ h => h) (Or.inl ⟨by rfl, ?_⟩) ?_ ?_
 rotate_left
 ·
  intro w'
  go_simp
  with_reducible rfl
 rotate_left
 ·
  simp only [Act.put, List.setIfInBounds_toArray, List.set_cons_zero, List.set_cons_succ, i64_w, i32_w, IntKind.wrap_u32]
  rfl
 refine done_ (done_of HT_.out (by kernel_rfl)) ?_
 try go_wp2
 go_loopg [60] k (fun kq v60 w' => ∃ (x60_1 : Int), v60 = .int .i64 x60_1 ∧ Aside0 (q16z.l0 kq x60_1 t3 t4 t5 t6 t7 t8 t9 t10 = some r) ∧ Aside0 (kq ≤ k) ∧ Aside0 (w'.heap[gb1]? = some (.cells #[.int .u32 a0_0, .int .i64 a0_1, (.slice A0_2 l0_2.length c0_2), (.slice A0_3 l0_3.length c0_3), .int .u32 a0_4, .int .u32 a0_5, .int .i64 a0_6, .int .u32 a0_7] 30 (0, 0))) ∧ Aside0 (w'.heap[gb2]? = some (.cells #[.int .u32 a1_0, .int .i64 a1_1, (.slice A1_2 l1_2.length c1_2), (.slice A1_3 l1_3.length c1_3), .int .u32 a1_4, .int .u32 a1_5, .int .i64 a1_6, .int .u32 a1_7] 30 (0, 0))) ∧ Aside0 (Below w.heap.size w w'))
 case atStart => exact ⟨(0), (by first | rfl | (simp; done) | (simp [*]; done)), H', ⟨Nat.le_refl _⟩, ⟨by (with_reducible repeat (first | refine blk_drewN ?_ _ | refine blk_drew ?_ | refine blk_alloc ?_ _)); exact BK1.out⟩, ⟨by (with_reducible repeat (first | refine blk_drewN ?_ _ | refine blk_drew ?_ | refine blk_alloc ?_ _)); exact BK2.out⟩, ⟨hbW HB⟩⟩
 case round =>
  clear H'
  try clear c1
  try clear p2
  try clear c3
  try clear p6
  obtain ⟨x60_1, rfl, HA, HK1, BK1, BK2, HB⟩ := hrel
  cases gk with
  | zero => exact absurd HA.out (by simp [q16z.l0])
  | succ k1 =>
   have H := HA.out
   clear HA
   simp only [q16z.l0] at H
   by_cases c14 : x60_1 < 8
   ·
    rw [if_pos c14] at H
    have c14b0 : decide (x60_1 < 8) = true := decide_eq_true c14
    clear c14
    by_cases c15 : 0 ≤ x60_1
    ·
     rw [if_pos c15] at H
     have c15b0 : decide (0 ≤ x60_1) = true := decide_eq_true c15
     clear c15
     by_cases c17 : (arrA68 t3 t4 t5 t6 t7 t8 t9 t10 x60_1) = 0
     ·
      rw [if_pos c17] at H
      have c17b0 : ((arrA68 t3 t4 t5 t6 t7 t8 t9 t10 x60_1) == 0) = true := beq_iff_eq.mpr c17
      have c17b1 : ((arrA68 t3 t4 t5 t6 t7 t8 t9 t10 x60_1) != 0) = false := bne_eq_false_iff_eq.mpr c17
      clear c17
      have H' := Aside0.mk H
      clear H
      have p16 : 0 ≤ (x60_1 : Int) := of_decide_eq_true (by first | (with_reducible assumption) | assumption)
      have q16 : x60_1 < (8 : Int) := of_decide_eq_true (by first | (with_reducible assumption) | assumption)
      have hx16 := arrA68_run t3 t4 t5 t6 t7 t8 t9 t10 x60_1 p16 q16
      replace p16 := eq_true p16
      replace q16 := eq_true q16
      go_wp2
      go_roundg k1
      case measure => have := HK1.out; omega
      case rel => exact ⟨(wrap64 (x60_1 + 1)), (by first | rfl | (simp; done) | (simp [*]; done)), H', ⟨by have := HK1.out; omega⟩, ⟨by (with_reducible repeat (first | refine blk_drewN ?_ _ | refine blk_drew ?_ | refine blk_alloc ?_ _)); exact BK1.out⟩, ⟨by (with_reducible repeat (first | refine blk_drewN ?_ _ | refine blk_drew ?_ | refine blk_alloc ?_ _)); exact BK2.out⟩, ⟨hbW HB⟩⟩
     ·
      rw [if_neg c17] at H
      have c17b0 : ((arrA68 t3 t4 t5 t6 t7 t8 t9 t10 x60_1) == 0) = false := beq_eq_false_iff_ne.mpr c17
      have c17b1 : ((arrA68 t3 t4 t5 t6 t7 t8 t9 t10 x60_1) != 0) = true := bne_iff_ne.mpr c17
      obtain rfl := Option.some.inj H
      have p16 : 0 ≤ (x60_1 : Int) := of_decide_eq_true (by first | (with_reducible assumption) | assumption)
      have q16 : x60_1 < (8 : Int) := of_decide_eq_true (by first | (with_reducible assumption) | assumption)
      have hx16 := arrA68_run t3 t4 t5 t6 t7 t8 t9 t10 x60_1 p16 q16
      replace p16 := eq_true p16
      replace q16 := eq_true q16
      go_wp2
      go_ret
      exact ⟨by first | rfl | (simp [errW_none, errW_some] <;> rfl) | (simp [*, errW_none, errW_some] <;> rfl), hbW HB⟩
    ·
     rw [if_neg c15] at H
     exact absurd H (by simp)
   ·
    rw [if_neg c14] at H
    have c14b0 : decide (x60_1 < 8) = false := decide_eq_false c14
    clear c14
    obtain rfl := Option.some.inj H
    go_wp2
    go_ret
    exact ⟨by first | rfl | (simp [errW_none, errW_some] <;> rfl) | (simp [*, errW_none, errW_some] <;> rfl), hbW HB⟩

/-! ### dragomanref02_In: function 60 -/
def q17z.f (a0_0 : Int) (a0_1 : Int) (a1 : Int) : Option (Bool) := if ((Int.tdiv a1 65536) % 4294967296) ≥ ((Int.tdiv a0_0 65536) % 4294967296) then (if ((Int.tdiv a1 65536) % 4294967296) ≤ ((Int.tdiv a0_1 65536) % 4294967296) then (if (Int.tmod a1 65536) ≥ (Int.tmod a0_0 65536) then (some (decide ((Int.tmod a1 65536) ≤ (Int.tmod a0_1 65536)))) else (some false)) else (some false)) else (some false)
set_option maxHeartbeats 8000000 in
set_option maxRecDepth 100000 in
theorem q17z.calls (a0_0 : Int) (a0_1 : Int) (a1 : Int) (r : Bool) (w : World) (h : q17z.f a0_0 a0_1 a1 = some r) :
  Calls Try.prog 60 #[.agg #[.int .u32 a0_0, .int .u32 a0_1], .int .u32 a1] w fun e w' => e = .returned (.bool r) ∧ Below w.heap.size w w' := by
 have hu50 := Try.underlying50
 have HB := Aside0.mk (Below.refl w.heap.size w)
 have H : (if ((Int.tdiv a1 65536) % 4294967296) ≥ ((Int.tdiv a0_0 65536) % 4294967296) then (if ((Int.tdiv a1 65536) % 4294967296) ≤ ((Int.tdiv a0_1 65536) % 4294967296) then (if (Int.tmod a1 65536) ≥ (Int.tmod a0_0 65536) then (some (decide ((Int.tmod a1 65536) ≤ (Int.tmod a0_1 65536)))) else (some false)) else (some false)) else (some false)) = some r := h
 clear h
 by_cases c3 : ((Int.tdiv a1 65536) % 4294967296) ≥ ((Int.tdiv a0_0 65536) % 4294967296)
 ·
  rw [if_pos c3] at H
  have c3b0 : decide (((Int.tdiv a0_0 65536) % 4294967296) ≤ ((Int.tdiv a1 65536) % 4294967296)) = true := decide_eq_true c3
  clear c3
  by_cases c4 : ((Int.tdiv a1 65536) % 4294967296) ≤ ((Int.tdiv a0_1 65536) % 4294967296)
  ·
   rw [if_pos c4] at H
   have c4b0 : decide (((Int.tdiv a1 65536) % 4294967296) ≤ ((Int.tdiv a0_1 65536) % 4294967296)) = true := decide_eq_true c4
   clear c4
   by_cases c5 : (Int.tmod a1 65536) ≥ (Int.tmod a0_0 65536)
   ·
    rw [if_pos c5] at H
    have c5b0 : decide ((Int.tmod a0_0 65536) ≤ (Int.tmod a1 65536)) = true := decide_eq_true c5
    clear c5
    obtain rfl := Option.some.inj H
    go_enter Try.func60, Try.ntmps60
    go_wp2_with (first | ((with_reducible refine gate_dst (N := 2) rfl ?_); refine box_event ?hg (N := 2) ?hd (cs := #[.int .u32 a0_0, .int .u32 a0_1]) (t := 50) ?hr ?_; (case hd => rfl); (case hg => rfl); (case hr => first | (go_simp; done) | (go_simp; rfl)); intro gb1 hg w6 hbox hb; have BK1 := Aside0.mk (hbox); have GW1 := gwS hg HB; have GE1 := gwS hg HB; replace HB := hbS HB hb; clear hb hbox hg; obtain ⟨hcz7_0, hcz7_1, hfz7_0, hfz7_1⟩ := bc2 BK1))
    go_ret
    exact ⟨by first | rfl | (simp [errW_none, errW_some] <;> rfl) | (simp [*, errW_none, errW_some] <;> rfl), hbW HB⟩
   ·
    rw [if_neg c5] at H
    have c5b0 : decide ((Int.tmod a0_0 65536) ≤ (Int.tmod a1 65536)) = false := decide_eq_false c5
    clear c5
    obtain rfl := Option.some.inj H
    go_enter Try.func60, Try.ntmps60
    go_wp2_with (first | ((with_reducible refine gate_dst (N := 2) rfl ?_); refine box_event ?hg (N := 2) ?hd (cs := #[.int .u32 a0_0, .int .u32 a0_1]) (t := 50) ?hr ?_; (case hd => rfl); (case hg => rfl); (case hr => first | (go_simp; done) | (go_simp; rfl)); intro gb1 hg w8 hbox hb; have BK1 := Aside0.mk (hbox); have GW1 := gwS hg HB; have GE1 := gwS hg HB; replace HB := hbS HB hb; clear hb hbox hg; obtain ⟨hcz9_0, hcz9_1, hfz9_0, hfz9_1⟩ := bc2 BK1))
    go_ret
    exact ⟨by first | rfl | (simp [errW_none, errW_some] <;> rfl) | (simp [*, errW_none, errW_some] <;> rfl), hbW HB⟩
  ·
   rw [if_neg c4] at H
   have c4b0 : decide (((Int.tdiv a1 65536) % 4294967296) ≤ ((Int.tdiv a0_1 65536) % 4294967296)) = false := decide_eq_false c4
   clear c4
   obtain rfl := Option.some.inj H
   go_enter Try.func60, Try.ntmps60
   go_wp2_with (first | ((with_reducible refine gate_dst (N := 2) rfl ?_); refine box_event ?hg (N := 2) ?hd (cs := #[.int .u32 a0_0, .int .u32 a0_1]) (t := 50) ?hr ?_; (case hd => rfl); (case hg => rfl); (case hr => first | (go_simp; done) | (go_simp; rfl)); intro gb1 hg w10 hbox hb; have BK1 := Aside0.mk (hbox); have GW1 := gwS hg HB; have GE1 := gwS hg HB; replace HB := hbS HB hb; clear hb hbox hg; obtain ⟨hcz11_0, hcz11_1, hfz11_0, hfz11_1⟩ := bc2 BK1))
   go_ret
   exact ⟨by first | rfl | (simp [errW_none, errW_some] <;> rfl) | (simp [*, errW_none, errW_some] <;> rfl), hbW HB⟩
 ·
  rw [if_neg c3] at H
  have c3b0 : decide (((Int.tdiv a0_0 65536) % 4294967296) ≤ ((Int.tdiv a1 65536) % 4294967296)) = false := decide_eq_false c3
  clear c3
  obtain rfl := Option.some.inj H
  go_enter Try.func60, Try.ntmps60
  go_wp2_with (first | ((with_reducible refine gate_dst (N := 2) rfl ?_); refine box_event ?hg (N := 2) ?hd (cs := #[.int .u32 a0_0, .int .u32 a0_1]) (t := 50) ?hr ?_; (case hd => rfl); (case hg => rfl); (case hr => first | (go_simp; done) | (go_simp; rfl)); intro gb1 hg w12 hbox hb; have BK1 := Aside0.mk (hbox); have GW1 := gwS hg HB; have GE1 := gwS hg HB; replace HB := hbS HB hb; clear hb hbox hg; obtain ⟨hcz13_0, hcz13_1, hfz13_0, hfz13_1⟩ := bc2 BK1))
  go_ret
  exact ⟨by first | rfl | (simp [errW_none, errW_some] <;> rfl) | (simp [*, errW_none, errW_some] <;> rfl), hbW HB⟩

/-! ### dragomanref11_all: function 39 -/
mutual
def q18z.l0 : Nat → List Int → List (S50) → Int → Int → Option (Bool)
 | 0, _, _, _, _ => none
 | k + 1, x1, x10, x11, x12 => if x12 < x11 then (if 0 ≤ x12 then (if x12 < (x10.length : Int) then (q18z.l1 k x1 false x10 x11 x12 x1 (x1.length : Int) 0 ((rd_T50 x10 x12).f0) ((rd_T50 x10 x12).f1)) else (none)) else (none)) else (some true)
def q18z.l1 : Nat → List Int → Bool → List (S50) → Int → Int → List Int → Int → Int → Int → Int → Option (Bool)
 | 0, _, _, _, _, _, _, _, _, _, _ => none
 | k + 1, x1, x7, x10, x11, x12, x16, x17, x18, x3000, x3001 => if x18 < x17 then (if 0 ≤ x18 then (if x18 < (x16.length : Int) then (if x7 = true then (q18z.l1 k x1 true x10 x11 x12 x16 x17 (wrap64 (x18 + 1)) x3000 x3001) else ((q17z.f x3000 x3001 (rd x16 x18)).bind fun t4 => (q18z.l1 k x1 t4 x10 x11 x12 x16 x17 (wrap64 (x18 + 1)) x3000 x3001))) else (none)) else (none)) else (if x7 = true then (q18z.l0 k x1 x10 x11 (wrap64 (x12 + 1))) else (some false))
end
def q18z.f (k : Nat) (l0 : List (S50)) (l1 : List Int) : Option (Bool) := q18z.l0 k l1 l0 (l0.length : Int) 0
theorem q18z.mono_l : ∀ k, (∀ y0 y1 y2 y3, LeO (q18z.l0 k y0 y1 y2 y3) (q18z.l0 (k + 1) y0 y1 y2 y3)) ∧ (∀ y0 y1 y2 y3 y4 y5 y6 y7 y8 y9, LeO (q18z.l1 k y0 y1 y2 y3 y4 y5 y6 y7 y8 y9) (q18z.l1 (k + 1) y0 y1 y2 y3 y4 y5 y6 y7 y8 y9))
 | 0 => ⟨fun _ _ _ _ r h => by simp [q18z.l0] at h, fun _ _ _ _ _ _ _ _ _ _ r h => by simp [q18z.l1] at h⟩
 | k + 1 => by
  obtain ⟨ih0, ih1⟩ := q18z.mono_l k
  refine ⟨?_, ?_⟩
  ·
   intro y0 y1 y2 y3
   unfold q18z.l0
   repeat' first
   | (with_reducible exact ih0 _ _ _ _)
   | (with_reducible exact ih1 _ _ _ _ _ _ _ _ _ _)
   | (with_reducible exact LeO.refl _)
   | (with_reducible exact LeO.none _)
   | (with_reducible refine LeO.ite ?_ ?_)
   | (with_reducible refine LeO.bind ?_ (fun _ => ?_))
   | exact ih0 _ _ _ _
   | exact ih1 _ _ _ _ _ _ _ _ _ _
   | exact LeO.none _
   | refine LeO.ite ?_ ?_
   | refine LeO.bind ?_ (fun _ => ?_)
  ·
   intro y0 y1 y2 y3 y4 y5 y6 y7 y8 y9
   unfold q18z.l1
   repeat' first
   | (with_reducible exact ih0 _ _ _ _)
   | (with_reducible exact ih1 _ _ _ _ _ _ _ _ _ _)
   | (with_reducible exact LeO.refl _)
   | (with_reducible exact LeO.none _)
   | (with_reducible refine LeO.ite ?_ ?_)
   | (with_reducible refine LeO.bind ?_ (fun _ => ?_))
   | exact ih0 _ _ _ _
   | exact ih1 _ _ _ _ _ _ _ _ _ _
   | exact LeO.none _
   | refine LeO.ite ?_ ?_
   | refine LeO.bind ?_ (fun _ => ?_)
theorem q18z.mono : ∀ a0 a1 k, LeO (q18z.f k a0 a1) (q18z.f (k + 1) a0 a1) := by
 intro a0 a1 k
 obtain ⟨ih0, ih1⟩ := q18z.mono_l k
 unfold q18z.f
 repeat' first
   | (with_reducible exact ih0 _ _ _ _)
   | (with_reducible exact ih1 _ _ _ _ _ _ _ _ _ _)
   | (with_reducible exact LeO.refl _)
   | (with_reducible exact LeO.none _)
   | (with_reducible refine LeO.ite ?_ ?_)
   | (with_reducible refine LeO.bind ?_ (fun _ => ?_))
   | exact ih0 _ _ _ _
   | exact ih1 _ _ _ _ _ _ _ _ _ _
   | exact LeO.none _
   | refine LeO.ite ?_ ?_
   | refine LeO.bind ?_ (fun _ => ?_)
set_option maxHeartbeats 8000000 in
set_option maxRecDepth 100000 in
theorem q18z.calls (k : Nat) (A0 : Option Addr) (c0 : Nat) (l0 : List (S50)) (A1 : Option Addr) (c1 : Nat) (l1 : List Int) (r : Bool) (w : World) (hr0 : Kd.C k50 w A0 l0.length l0) (hc0 : l0.length ≤ c0) (hr1 : Kd.C (Kd.int .u32) w A1 l1.length l1) (hc1 : l1.length ≤ c1) (h : q18z.f k l0 l1 = some r) :
  Calls Try.prog 39 #[.slice A0 l0.length c0, .slice A1 l1.length c1] w fun e w' => e = .returned (.bool r) ∧ Below w.heap.size w w' := by
 have hu50 := Try.underlying50
 have HR0 := Aside0.mk hr0
 have HC0 := Aside0.mk hc0
 clear hr0 hc0
 have HR1 := Aside0.mk hr1
 have HC1 := Aside0.mk hc1
 clear hr1 hc1
 have HB := Aside0.mk (Below.refl w.heap.size w)
 have H : (q18z.l0 k l1 l0 (l0.length : Int) 0) = some r := h
 clear h
 have H' := Aside0.mk H
 clear H
 go_enter Try.func39, Try.ntmps39
 go_wp2
 go_loopg [12] k (fun kq v12 w' => ∃ (x12_1 : Int), v12 = .int .i64 x12_1 ∧ Aside0 (q18z.l0 kq l1 l0 (l0.length : Int) x12_1 = some r) ∧ Aside0 (kq ≤ k) ∧ Aside0 (Below w.heap.size w w'))
 case atStart => exact ⟨(0), (by first | rfl | (simp; done) | (simp [*]; done)), H', ⟨Nat.le_refl _⟩, ⟨hbW HB⟩⟩
 case round =>
  clear H'
  try clear c1
  try clear p2
  obtain ⟨x12_1, rfl, HA, HK1, HB⟩ := hrel
  cases gk with
  | zero => exact absurd HA.out (by simp [q18z.l0])
  | succ k1 =>
   have H := HA.out
   clear HA
   simp only [q18z.l0] at H
   by_cases c3 : x12_1 < (l0.length : Int)
   ·
    rw [if_pos c3] at H
    have c3b0 : decide (x12_1 < (l0.length : Int)) = true := decide_eq_true c3
    clear c3
    by_cases c4 : 0 ≤ x12_1
    ·
     rw [if_pos c4] at H
     have c4b0 : decide (0 ≤ x12_1) = true := decide_eq_true c4
     clear c4
     by_cases c5 : x12_1 < (l0.length : Int)
     ·
      rw [if_pos c5] at H
      have c5b0 : decide (x12_1 < (l0.length : Int)) = true := decide_eq_true c5
      clear c5
      have H' := Aside0.mk H
      clear H
      have p1 : 0 ≤ (x12_1 : Int) := of_decide_eq_true (by first | (with_reducible assumption) | assumption)
      have q1 : x12_1 < (l0.length : Int) := of_decide_eq_true (by first | (with_reducible assumption) | assumption)
      obtain ⟨ad1, e1, hx1_0, hx1_1⟩ := at_T50 HR0.out x12_1 p1 q1
      cases e1
      replace hx1_0 := (HB.out.cell (World.block_lt_of_cell? w _ hx1_0)).trans hx1_0
      replace hx1_1 := (HB.out.cell (World.block_lt_of_cell? w _ hx1_1)).trans hx1_1
      replace p1 := eq_true p1
      replace q1 := eq_true q1
      go_wp2_with (first | ((with_reducible refine gate_dst (N := 6) rfl ?_); refine box_event ?hg (N := 6) ?hd (cs := #[.int .u32 0, .int .u32 0]) (t := 50) ?hr ?_; (case hd => rfl); (case hg => rfl); (case hr => first | (go_simp; done) | (go_simp; rfl)); intro gb2 hg w6 hbox hb; have BK2 := Aside0.mk (hbox); have GW2 := gwS hg HB; have GE2 := gwS hg HB; replace HB := hbS HB hb; clear hb hbox hg; obtain ⟨hcz7_0, hcz7_1, hfz7_0, hfz7_1⟩ := bc2 BK2))
      go_loopg [7, 18] k1 (fun kq v7 v18 w' => ∃ (x7_2 : Bool) (x18_2 : Int), v7 = .bool x7_2 ∧ v18 = .int .i64 x18_2 ∧ Aside0 (q18z.l1 kq l1 x7_2 l0 (l0.length : Int) x12_1 l1 (l1.length : Int) x18_2 ((rd_T50 l0 x12_1).f0) ((rd_T50 l0 x12_1).f1) = some r) ∧ Aside0 (kq ≤ k1) ∧ Aside0 (w'.heap[gb2]? = some (.cells #[.int .u32 ((rd_T50 l0 x12_1).f0), .int .u32 ((rd_T50 l0 x12_1).f1)] 50 (0, 0))) ∧ Aside0 (Below w.heap.size w w'))
      case atStart => exact ⟨(false), (0), (by first | rfl | (simp; done) | (simp [*]; done)), (by first | rfl | (simp; done) | (simp [*]; done)), H', ⟨Nat.le_refl _⟩, ⟨by (with_reducible repeat (first | refine blk_drewN ?_ _ | refine blk_drew ?_ | refine blk_alloc ?_ _)); refine blk_put (cs := #[.int .u32 ((rd_T50 l0 x12_1).f0), .int .u32 0]) ?_ 1 _ rfl; (with_reducible repeat (first | refine blk_drewN ?_ _ | refine blk_drew ?_ | refine blk_alloc ?_ _)); refine blk_put (cs := #[.int .u32 0, .int .u32 0]) ?_ 0 _ rfl; (with_reducible repeat (first | refine blk_drewN ?_ _ | refine blk_drew ?_ | refine blk_alloc ?_ _)); exact BK2.out⟩, ⟨hbW HB⟩⟩
      case round =>
       clear H'
       try clear c1
       try clear p1
       try clear q1
       try clear hx1
       try clear p2
       try clear c3
       try clear c3b0
       try clear c4
       try clear c4b0
       try clear c5
       try clear c5b0
       try clear hcz7_0 hcz7_1
       try clear hfz7_0 hfz7_1
       try clear hx1_0
       try clear hx1_1
       try clear p1
       try clear p2
       try clear q1
       obtain ⟨x7_2, x18_2, rfl, rfl, HA, HK2, BK2, HB⟩ := hrel
       cases gk with
       | zero => exact absurd HA.out (by simp [q18z.l1])
       | succ k2 =>
        have H := HA.out
        clear HA
        simp only [q18z.l1] at H
        by_cases c8 : x18_2 < (l1.length : Int)
        ·
         rw [if_pos c8] at H
         have c8b0 : decide (x18_2 < (l1.length : Int)) = true := decide_eq_true c8
         clear c8
         by_cases c9 : 0 ≤ x18_2
         ·
          rw [if_pos c9] at H
          have c9b0 : decide (0 ≤ x18_2) = true := decide_eq_true c9
          clear c9
          by_cases c10 : x18_2 < (l1.length : Int)
          ·
           rw [if_pos c10] at H
           have c10b0 : decide (x18_2 < (l1.length : Int)) = true := decide_eq_true c10
           clear c10
           by_cases c11 : x7_2 = true
           ·
            subst c11
            have H1 : (q18z.l1 k2 l1 true l0 (l0.length : Int) x12_1 l1 (l1.length : Int) (wrap64 (x18_2 + 1)) ((rd_T50 l0 x12_1).f0) ((rd_T50 l0 x12_1).f1)) = some r := by rw [if_pos rfl] at H; exact H
            clear H
            have H := H1
            clear H1
            have H' := Aside0.mk H
            clear H
            have p3 : 0 ≤ (x18_2 : Int) := of_decide_eq_true (by first | (with_reducible assumption) | assumption)
            have q3 : x18_2 < (l1.length : Int) := of_decide_eq_true (by first | (with_reducible assumption) | assumption)
            obtain ⟨ad3, e3, hx3_0⟩ := Kd.at_int HR1.out x18_2 p3 q3
            cases e3
            replace hx3_0 := (HB.out.cell (World.block_lt_of_cell? w _ hx3_0)).trans hx3_0
            replace p3 := eq_true p3
            replace q3 := eq_true q3
            go_wp2
            go_roundg k2
            case measure => have := HK1.out; have := HK2.out; omega
            case rel => exact ⟨(true), (wrap64 (x18_2 + 1)), (by first | rfl | (simp; done) | (simp [*]; done)), (by first | rfl | (simp; done) | (simp [*]; done)), H', ⟨by have := HK1.out; have := HK2.out; omega⟩, ⟨by (with_reducible repeat (first | refine blk_drewN ?_ _ | refine blk_drew ?_ | refine blk_alloc ?_ _)); exact BK2.out⟩, ⟨hbW HB⟩⟩
           ·
            replace c11 := Bool.eq_false_iff.mpr c11
            subst c11
            have H1 : ((q17z.f ((rd_T50 l0 x12_1).f0) ((rd_T50 l0 x12_1).f1) (rd l1 x18_2)).bind fun t4 => (q18z.l1 k2 l1 t4 l0 (l0.length : Int) x12_1 l1 (l1.length : Int) (wrap64 (x18_2 + 1)) ((rd_T50 l0 x12_1).f0) ((rd_T50 l0 x12_1).f1))) = some r := by rw [if_neg (show ¬ (false = true) by decide)] at H; exact H
            clear H
            have H := H1
            clear H1
            replace H := Option.bind_eq_some_iff.mp H
            obtain ⟨t4, A120, H⟩ := H
            replace H : (q18z.l1 k2 l1 t4 l0 (l0.length : Int) x12_1 l1 (l1.length : Int) (wrap64 (x18_2 + 1)) ((rd_T50 l0 x12_1).f0) ((rd_T50 l0 x12_1).f1)) = some r := H
            have A12 := Aside0.mk A120
            clear A120
            have H' := Aside0.mk H
            clear H
            have p3 : 0 ≤ (x18_2 : Int) := of_decide_eq_true (by first | (with_reducible assumption) | assumption)
            have q3 : x18_2 < (l1.length : Int) := of_decide_eq_true (by first | (with_reducible assumption) | assumption)
            obtain ⟨ad3, e3, hx3_0⟩ := Kd.at_int HR1.out x18_2 p3 q3
            cases e3
            replace hx3_0 := (HB.out.cell (World.block_lt_of_cell? w _ hx3_0)).trans hx3_0
            replace p3 := eq_true p3
            replace q3 := eq_true q3
            obtain ⟨hcz13_0, hcz13_1, hfz13_0, hfz13_1⟩ := bc2 BK2
            go_wp2_with (first | (go_at_call 60; (with_reducible refine (q17z.calls ((rd_T50 l0 x12_1).f0) ((rd_T50 l0 x12_1).f1) (rd l1 x18_2) t4 _ A12.out).mono ?_); rintro e w14 ⟨rfl, hb⟩; replace BK2 := bkB BK2 hb; replace HB := hbS HB hb; (try clear hb)))
            go_roundg k2
            case measure => have := HK1.out; have := HK2.out; omega
            case rel => exact ⟨(t4), (wrap64 (x18_2 + 1)), (by first | rfl | (simp; done) | (simp [*]; done)), (by first | rfl | (simp; done) | (simp [*]; done)), H', ⟨by have := HK1.out; have := HK2.out; omega⟩, ⟨by (with_reducible repeat (first | refine blk_drewN ?_ _ | refine blk_drew ?_ | refine blk_alloc ?_ _)); exact BK2.out⟩, ⟨hbW HB⟩⟩
          ·
           rw [if_neg c10] at H
           exact absurd H (by simp)
         ·
          rw [if_neg c9] at H
          exact absurd H (by simp)
        ·
         rw [if_neg c8] at H
         have c8b0 : decide (x18_2 < (l1.length : Int)) = false := decide_eq_false c8
         clear c8
         by_cases c15 : x7_2 = true
         ·
          subst c15
          have H1 : (q18z.l0 k2 l1 l0 (l0.length : Int) (wrap64 (x12_1 + 1))) = some r := by rw [if_pos rfl] at H; exact H
          clear H
          have H := H1
          clear H1
          have H' := Aside0.mk H
          clear H
          go_wp2
          go_roundg k2
          case measure => have := HK1.out; have := HK2.out; omega
          case rel => exact ⟨(wrap64 (x12_1 + 1)), (by first | rfl | (simp; done) | (simp [*]; done)), H', ⟨by have := HK1.out; have := HK2.out; omega⟩, ⟨hbW HB⟩⟩
         ·
          replace c15 := Bool.eq_false_iff.mpr c15
          subst c15
          have H1 : (some false) = some r := by rw [if_neg (show ¬ (false = true) by decide)] at H; exact H
          clear H
          have H := H1
          clear H1
          obtain rfl := Option.some.inj H
          go_wp2
          go_ret
          exact ⟨by first | rfl | (simp [errW_none, errW_some] <;> rfl) | (simp [*, errW_none, errW_some] <;> rfl), hbW HB⟩
     ·
      rw [if_neg c5] at H
      exact absurd H (by simp)
    ·
     rw [if_neg c4] at H
     exact absurd H (by simp)
   ·
    rw [if_neg c3] at H
    have c3b0 : decide (x12_1 < (l0.length : Int)) = false := decide_eq_false c3
    clear c3
    obtain rfl := Option.some.inj H
    go_wp2
    go_ret
    exact ⟨by first | rfl | (simp [errW_none, errW_some] <;> rfl) | (simp [*, errW_none, errW_some] <;> rfl), hbW HB⟩

end Go.Proofs.Ytgelpccjdndfoaa.P
