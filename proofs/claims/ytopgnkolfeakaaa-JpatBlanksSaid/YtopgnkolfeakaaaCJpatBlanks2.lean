/-
  Proved: for every input the law JpatBlanks answers true, and each argument reads behind the call as it read before.
  Conditions: none beside the row's own.
-/
import Derived.Below
import Derived.Lib.Bytealg
import Derived.KernelRfl
import Derived.WalkKit
import Derived.Lib.Walk
import Derived.Laws.Externs
import Derived.RowKit
import Derived.Test.YtopgnkolfeakaaaRows
import Derived.ProofKit
import Derived.OpenShut
import Derived.ShutString
import Derived.ChangeOld
import Derived.SizedLaws
import Derived.Test.YtopgnkolfeakaaaCJpatBlanks0
import Derived.Test.YtopgnkolfeakaaaCJpatBlanks1
set_option linter.unusedVariables false
set_option linter.unusedSimpArgs false
/- A region that draws its order: any order comes to the same. -/
namespace Go.Proofs.Ytopgnkolfeakaaa.D
open Go

theorem interN_false {l m : List Nat} (h : interN l m = false) : ∀ x ∈ l, x ∉ m := by
  induction l with
  | nil => intro x hx; cases hx
  | cons a l ih =>
    unfold interN at h
    rw [Bool.or_eq_false_iff] at h
    intro x hx hm
    rcases List.mem_cons.mp hx with rfl | hx
    · rw [memN_iff.mpr hm] at h; cases h.1
    · exact ih h.2 x hx hm

theorem apartAll_at {x : Note} {i : Nat} : ∀ {l : List Note}, apartAll x i l = true → ∀ (k : Nat) y, l[k]? = some y → memN i y.anc = true ∨ x.apart y = true := by
  intro l
  induction l with
  | nil => intro _ k y h; cases k <;> cases h
  | cons a l ih =>
    intro h k y hk
    unfold apartAll at h
    rw [Bool.and_eq_true, Bool.or_eq_true] at h
    cases k with
    | zero => simp only [List.getElem?_cons_zero, Option.some.injEq] at hk; subst hk; exact h.1
    | succ k => exact ih h.2 k y (by simpa using hk)

theorem okNotes_at : ∀ {l : List Note} {i : Nat}, okNotes i l = true → ∀ (j k : Nat) x y, j < k → l[j]? = some x → l[k]? = some y → memN (i + j) y.anc = true ∨ x.apart y = true := by
  intro l
  induction l with
  | nil => intro i _ j k x y _ h; cases j <;> cases h
  | cons a l ih =>
    intro i h j k x y hjk hj hk
    unfold okNotes at h
    rw [Bool.and_eq_true] at h
    cases k with
    | zero => omega
    | succ k =>
      have hk' : l[k]? = some y := by simpa using hk
      cases j with
      | zero => simp only [List.getElem?_cons_zero, Option.some.injEq] at hj; subst hj; rw [Nat.add_zero]; exact apartAll_at h.1 k y hk'
      | succ j =>
        have := ih h.2 j k x y (Nat.lt_of_succ_lt_succ hjk) (by simpa using hj) hk'
        have e : i + 1 + j = i + (j + 1) := by omega
        rwa [e] at this

/- e' does not touch what e reads and writes -/
structure NoConf (e' e : Evt) : Prop where
  t : ∀ t ∈ e.n.ts, e'.o.dst ≠ some t
  r : ∀ κ ∈ e.n.rs, κ ∉ keysOf e'.ws
  a : Apart e e'

theorem noconf_l {e e' : Evt} (hd : e.n.d = e.o.dst) (hd' : e'.n.d = e'.o.dst) (hw : e.n.ws = keysOf e.ws) (hw' : e'.n.ws = keysOf e'.ws) (h : e'.n.apart e.n = true) : NoConf e' e := by
  unfold Note.apart at h
  simp only [Bool.and_eq_true, Bool.not_eq_true'] at h
  obtain ⟨⟨⟨h1, h2⟩, h3⟩, h4⟩ := h
  have i1 := interN_false h1
  have i3 := interN_false h3
  rw [hd', hd] at i1
  rw [hw', hw] at i3
  refine ⟨fun t ht e0 => ?_, fun κ hk hm => i3 κ hm (List.mem_append_right _ hk), ⟨fun t ht e0 => ?_, fun κ hk hm => i3 κ hm (List.mem_append_left _ hk)⟩⟩
  · exact i1 t (by rw [e0]; exact List.mem_singleton.mpr rfl) (List.mem_append_right _ ht)
  · exact i1 t (by rw [e0]; exact List.mem_singleton.mpr rfl) (List.mem_append_left _ (by rw [ht]; exact List.mem_singleton.mpr rfl))

theorem noconf_r {e e' : Evt} (hd : e.n.d = e.o.dst) (hd' : e'.n.d = e'.o.dst) (hw : e.n.ws = keysOf e.ws) (hw' : e'.n.ws = keysOf e'.ws) (h : e.n.apart e'.n = true) : NoConf e' e := by
  unfold Note.apart at h
  simp only [Bool.and_eq_true, Bool.not_eq_true'] at h
  obtain ⟨⟨⟨h1, h2⟩, h3⟩, h4⟩ := h
  have i1 := interN_false h1
  have i2 := interN_false h2
  have i3 := interN_false h3
  have i4 := interN_false h4
  rw [hd', hd] at i1
  rw [hd'] at i2
  rw [hw', hw] at i3
  rw [hw'] at i4
  refine ⟨fun t ht e0 => i2 t ht (by rw [e0]; exact List.mem_singleton.mpr rfl), fun κ hk hm => i4 κ hk hm, ⟨fun t ht e0 => ?_, fun κ hk hm => i3 κ hk (List.mem_append_left _ hm)⟩⟩
  exact i1 t (by rw [ht]; exact List.mem_singleton.mpr rfl) (List.mem_append_left _ (by rw [e0]; exact List.mem_singleton.mpr rfl))

/- what must have come before -/
def Preds (p : Nat → Bool) (o : Oper) : Prop := ∀ e ∈ o.after.toList, Region.binds .any e = true → p e.on = true

def Closed (p : Nat → Bool) (es : List Evt) : Prop := ∀ (k : Nat) e, es[k]? = some e → p k = true → Preds p e.o

theorem anc_in {p : Nat → Bool} {es : List Evt} (hcl : Closed p es) (hanc : ∀ (k : Nat) e, es[k]? = some e → e.n.anc = ancOf (ancs (es.take k)) e.o) :
    ∀ (n k : Nat) e, k < n → es[k]? = some e → Preds p e.o → ∀ j, j ∈ e.n.anc → p j = true := by
  intro n
  induction n with
  | zero => intro k e h; omega
  | succ n ih =>
    intro k e hk he hp j hj
    rw [hanc k e he] at hj
    unfold ancOf at hj
    obtain ⟨l, hl, hjl⟩ := List.mem_flatten.mp hj
    obtain ⟨ed, hed, rfl⟩ := List.mem_map.mp hl
    obtain ⟨hmem, hb⟩ := List.mem_filter.mp hed
    have hon := hp ed hmem hb
    rcases List.mem_cons.mp hjl with rfl | hjl
    · exact hon
    · unfold ancs at hjl
      rw [List.getElem?_map] at hjl
      cases hq : (es.take k)[ed.on]? with
      | none => rw [hq] at hjl; cases hjl
      | some e' =>
        rw [hq] at hjl
        rw [List.getElem?_take] at hq
        split at hq
        · rename_i hlt
          exact ih ed.on e' (by omega) hq (hcl ed.on e' hq hon) j hjl
        · cases hq

section
variable {C : Ctx} {w : World} {a : Act} {s : S} {G : Gh}

theorem inv_drawn (I : Inv C w a s G) (n : Nat) : Inv C { w with drawn := n } a s G := by
  have hs : Step w { w with drawn := n } (fun _ => False) := ⟨Nat.le_refl _, fun _ _ _ => rfl, rfl, rfl, rfl⟩
  have hm : ∀ g, False → given (G.L g) := fun _ e => e.elim
  refine ⟨fun t => (I.tmps t).step hs hm (Ext.refl G), I.none_, I.defers, ?_, I.roots⟩
  exact I.mem.step hs hm (Ext.refl G) (fun r _ => .inl ⟨rfl, fun g _ h => ⟨fun e => e, h⟩⟩) (fun p e c h => .inl ⟨h, fun g _ hL => ⟨fun e => e, hL⟩⟩) (fun p c h => .inl h) (fun g hg => I.mem.fresh g hg) (fun g _ _ => rfl)

end

def left (listed : Array Bool) (N : Nat) : Nat := (List.range N).countP fun i => !listed.getD i false

theorem left_set {listed : Array Bool} {N i : Nat} (hi : i < N) (hs : listed.size = N) (hp : listed.getD i false = false) : left listed N = left (listed.setIfInBounds i true) N + 1 := by
  have key : ∀ M, left listed M = left (listed.setIfInBounds i true) M + (if i < M then 1 else 0) := by
    intro M
    induction M with
    | zero => rfl
    | succ M ih =>
      unfold left at ih ⊢
      rw [List.range_succ, List.countP_append, List.countP_append, ih]
      have hone : ∀ (f : Nat → Bool), List.countP f [M] = if f M = true then 1 else 0 := fun f => by simp [List.countP_cons]
      rw [hone, hone]
      by_cases h : i = M
      · subst h
        have e1 : (listed.setIfInBounds i true).getD i false = true := by simp [hs, hi]
        rw [hp, e1]
        simp
      · have e1 : (listed.setIfInBounds i true).getD M false = listed.getD M false := by
          simp [Array.getElem?_setIfInBounds_ne h]
        rw [e1]
        have e2 : (i < M + 1) = (i < M) := by apply propext; omega
        simp only [e2]
        omega
  have := key N
  rw [if_pos hi] at this
  exact this

theorem left_zero {listed : Array Bool} {N : Nat} (h : left listed N = 0) : ∀ i, i < N → listed.getD i false = true := by
  intro i hi
  unfold left at h
  rw [List.countP_eq_zero] at h
  have := h i (List.mem_range.mpr hi)
  simpa using this

theorem repl_getD (n i : Nat) : (Array.replicate n false).getD i false = false := by
  simp only [Array.getD_eq_getD_getElem?, Array.getElem?_replicate]
  split <;> rfl

theorem getD_tf {l : Array Bool} {i : Nat} (h : i < l.size) : l.getD i true = l.getD i false := by
  simp [Array.getD_eq_getD_getElem?, h]

theorem mem_ready {ops : Array Oper} {listed : Array Bool} {i : Nat} : i ∈ Region.ready .any ops listed ↔ i < ops.size ∧ listed.getD i true = false ∧ ∃ o, ops[i]? = some o ∧ Preds (fun j => listed.getD j false) o := by
  unfold Region.ready
  rw [List.mem_filter, List.mem_range, Bool.and_eq_true, Bool.not_eq_true']
  refine and_congr_right fun _ => and_congr_right fun _ => ?_
  have key : ∀ o : Oper, (o.after.all fun e => !Region.binds .any e || listed.getD e.on false) = true ↔ Preds (fun j => listed.getD j false) o := by
    intro o
    rw [← Array.all_toList, List.all_eq_true]
    unfold Preds
    refine forall_congr' fun e => forall_congr' fun _ => ?_
    cases Region.binds .any e <;> simp
  cases hi : ops[i]? with
  | none => simp
  | some o =>
    simp only [Option.map_some, Option.getD_some, Option.some.injEq, exists_eq_left']
    exact key o

theorem draws_ok (E : Bs) (hm : E.P.follows .mixedOrders = true) (hC : CallsDo E) : DrawsOk E := by
  intro C w a s G ρ kt y ops id Q I hnt hu hlen h hk
  obtain ⟨es, e1, e2, e3, e4⟩ := draw_trace ops.toList s [] [] h
  have hN : es.length = ops.size := by
    have := congrArg List.length e1
    simpa using this
  have hop : ∀ (k : Nat) e, es[k]? = some e → ops[k]? = some e.o := fun k e he => by
    have : ops.toList[k]? = some e.o := by rw [← e1, List.getElem?_map, he]; rfl
    simpa using this
  have hok : ∀ (k : Nat) e, es[k]? = some e → EvtOk E ops.toList (ancs (es.take k)) (after s (es.take k)) e := fun k e he => by
    have := e4 k e he
    rwa [List.nil_append] at this
  have hlenk : ∀ (k : Nat) e, es[k]? = some e → (ancs (es.take k)).length = k := fun k e he => by
    have := (List.getElem?_eq_some_iff.mp he).1
    unfold ancs
    rw [List.length_map, List.length_take]; omega
  have hanc : ∀ (k : Nat) e, es[k]? = some e → e.n.anc = ancOf (ancs (es.take k)) e.o := fun k e he => (hok k e he).anc
  have hbase : ∀ k, s.base k = s.base 0 + k * 64 := fun k => by unfold S.base; rw [Nat.zero_mul, Nat.add_zero]
  have hpair : ∀ (j k : Nat) x y, j < k → es[j]? = some x → es[k]? = some y → j ∈ y.n.anc ∨ x.n.apart y.n = true := fun j k x y hjk hj hk => by
    have := okNotes_at (i := 0) e3 j k x.n y.n hjk (by rw [List.nil_append, List.getElem?_map, hj]; rfl) (by rw [List.nil_append, List.getElem?_map, hk]; rfl)
    rw [Nat.zero_add] at this
    rcases this with h | h
    · exact .inl (memN_iff.mp h)
    · exact .inr h
  -- apart from what is listed out of its turn
  have conf : ∀ (p : Nat → Bool) (i : Nat) e, Closed p es → es[i]? = some e → p i = false → Preds p e.o → ∀ (k : Nat) e', es[k]? = some e' → p k ≠ Nat.blt k i → k ≠ i → NoConf e' e := by
    intro p i e hcl hi hpi hpre k e' hk hne hki
    obtain ⟨hi1, hi2, hi3⟩ := hok i e hi |> fun q => (⟨q.d, q.ws, q.anc⟩ : _ ∧ _ ∧ _)
    obtain ⟨hk1, hk2, hk3⟩ := hok k e' hk |> fun q => (⟨q.d, q.ws, q.anc⟩ : _ ∧ _ ∧ _)
    rcases Nat.lt_or_gt_of_ne hki with hlt | hgt
    · have hb : Nat.blt k i = true := Nat.blt_eq.mpr hlt
      have hpk : p k = false := by
        cases hp : p k with
        | false => rfl
        | true => rw [hp, hb] at hne; exact absurd rfl hne
      rcases hpair k i e' e hlt hk hi with h | h
      · have := anc_in hcl hanc (i + 1) i e (Nat.lt_succ_self i) hi hpre k h
        rw [hpk] at this; cases this
      · exact noconf_l hi1 hk1 hi2 hk2 h
    · have hb : Nat.blt k i = false := by
        cases hb : Nat.blt k i with
        | false => rfl
        | true => have := Nat.blt_eq.mp hb; omega
      have hpk : p k = true := by
        cases hp : p k with
        | true => rfl
        | false => rw [hp, hb] at hne; exact absurd rfl hne
      rcases hpair i k e e' hgt hi hk with h | h
      · have := anc_in hcl hanc (k + 1) k e' (Nat.lt_succ_self k) hk (hcl k e' hk hpk) i h
        rw [hpi] at this; cases this
      · exact noconf_r hi1 hk1 hi2 hk2 h
  refine wp_region_any hm ?_
  have fin : ∀ (listed : Array Bool) (a' : Act) (w' : World) (G' : Gh), (∀ i, i < ops.size → listed.getD i false = true) → Inv C w' a' (partS (fun i => listed.getD i false) 0 es s) G' → a'.tmps.size = a.tmps.size →
      (∀ r, G'.used r → r < s.base 0 ∨ ∃ k, k < ops.size ∧ listed.getD k false = true ∧ s.base k ≤ r ∧ r < s.base k + 64) → Q .normal a' w' := by
    intro listed a' w' G' hall I' hta hu'
    have e : partS (fun i => listed.getD i false) 0 es s = after s es := by
      rw [partS_congr (q := fun j => Nat.blt j (0 + es.length)) es 0 s (fun k hk => by
        have h1 : Nat.blt (0 + k) (0 + es.length) = true := Nat.blt_eq.mpr (by omega)
        rw [h1]
        show listed.getD (0 + k) false = true
        rw [Nat.zero_add]; exact hall k (by omega)), partS_take, List.take_length]
    rw [e] at I'
    refine hk a' w' (after s es) G' e2 I' hta (by rw [← e]; exact partS_nx es 0 s) fun r hr => ?_
    rcases hu' r hr with h | ⟨k, hkN, _, _, h⟩
    · exact base_end s (l := 0) (by omega) h
    · refine base_end s hlen ?_
      have h1 := hbase k
      have h2 := hbase (0 + ops.toList.length)
      have h3 : ops.toList.length = ops.size := by simp
      rw [h3] at h2 ⊢
      omega
  have edge : ∀ (k : Nat) e, es[k]? = some e → ∀ ed ∈ e.o.after.toList, Region.binds .any ed = true → ed.on < k := fun k e he ed hed hb => by
    have := (hok k e he).edges
    unfold edgesOk at this
    have h2 := (List.all_eq_true.mp this) ed hed
    rw [hb, hlenk k e he] at h2
    simp only [Bool.not_true, Bool.false_or] at h2
    exact Nat.blt_eq.mp h2
  have hex : ∀ i, i < ops.size → ∃ e, es[i]? = some e := fun i hi => ⟨es[i], List.getElem?_eq_getElem (by omega)⟩
  have allnil : ∀ (listed : Array Bool), listed.size = ops.size → Region.ready .any ops listed = [] → ∀ n i, i < n → i < ops.size → listed.getD i false = true := by
    intro listed hsz hr n
    induction n with
    | zero => intro i hi; omega
    | succ n ih =>
      intro i hi hlt
      cases hp : listed.getD i false with
      | true => rfl
      | false =>
        exfalso
        obtain ⟨e, he⟩ := hex i hlt
        have : i ∈ Region.ready .any ops listed := mem_ready.mpr ⟨hlt, by rw [getD_tf (by omega)]; exact hp, e.o, hop i e he, fun ed hed hb => by
          have := edge i e he ed hed hb
          exact ih ed.on (by omega) (by omega)⟩
        rw [hr] at this
        cases this
  have main : ∀ (fuel : Nat) (listed : Array Bool) (a' : Act) (w' : World) (G' : Gh), listed.size = ops.size → left listed ops.size = fuel → Closed (fun i => listed.getD i false) es →
      Inv C w' a' (partS (fun i => listed.getD i false) 0 es s) G' → a'.tmps.size = a.tmps.size → (∀ r, G'.used r → r < s.base 0 ∨ ∃ k, k < ops.size ∧ listed.getD k false = true ∧ s.base k ≤ r ∧ r < s.base k + 64) →
      wpAny E.P .any ops Q fuel listed a' w' := by
    intro fuel
    induction fuel with
    | zero =>
      intro listed a' w' G' hsz hleft hcl I' hta hu'
      have hall := left_zero hleft
      refine ⟨?_, fin listed a' w' G' hall I' hta hu'⟩
      cases hr : Region.ready .any ops listed with
      | nil => rfl
      | cons i l =>
        exfalso
        obtain ⟨h1, h2, _⟩ := mem_ready.mp (show i ∈ Region.ready .any ops listed by rw [hr]; exact List.mem_cons_self)
        rw [getD_tf (by omega), hall i h1] at h2
        cases h2
    | succ fuel ih =>
      intro listed a' w' G' hsz hleft hcl I' hta hu'
      refine ⟨fun hr => fin listed a' w' G' (fun i hi => allnil listed hsz hr (i + 1) i (Nat.lt_succ_self i) hi) I' hta hu', fun i hi => ?_⟩
      obtain ⟨h1, h2, o, ho, hpre⟩ := mem_ready.mp hi
      rw [getD_tf (by omega)] at h2
      obtain ⟨e, he⟩ := hex i h1
      have eo : o = e.o := by have := hop i e he; rw [ho] at this; exact Option.some.inj this
      subst eo
      have K := hok i e he
      have hnc := conf (fun j => listed.getD j false) i e hcl he h2 hpre
      have hsi : after s (es.take i) = partS (fun j => Nat.blt j i) 0 es s := by
        have := partS_take es 0 i s
        rw [Nat.zero_add] at this
        exact this.symm
      have htm : ∀ t ∈ tmpsOf ops.toList e.o, (after s (es.take i)).tm t = (partS (fun j => listed.getD j false) 0 es s).tm t := fun t ht => by
        rw [hsi]
        refine agree_tm es 0 s s rfl fun k e' hk' hne => ?_
        rw [Nat.zero_add] at hne
        by_cases hki : k = i
        · subst hki
          exfalso
          have hb : Nat.blt k k = false := by
            cases hb : Nat.blt k k with
            | false => rfl
            | true => have := Nat.blt_eq.mp hb; omega
          rw [hb, h2] at hne
          exact hne rfl
        · exact (hnc k e' hk' (Ne.symm hne) hki).t t (by rw [K.ts]; exact ht)
      have hat : ∀ κ ∈ e.n.rs, At_ (after s (es.take i)) (partS (fun j => listed.getD j false) 0 es s) κ := fun κ hκ => by
        rw [hsi]
        refine agree_at es 0 s s (At_.refl s κ) fun k e' hk' hne => ?_
        rw [Nat.zero_add] at hne
        by_cases hki : k = i
        · subst hki
          exfalso
          have hb : Nat.blt k k = false := by
            cases hb : Nat.blt k k with
            | false => rfl
            | true => have := Nat.blt_eq.mp hb; omega
          rw [hb, h2] at hne
          exact hne rfl
        · exact (hnc k e' hk' (Ne.symm hne) hki).r κ hκ
      have hnx : (partS (fun j => listed.getD j false) 0 es s).nx = s.nx := partS_nx es 0 s
      have hset : ∀ j, (listed.setIfInBounds i true).getD j false = (listed.getD j false || Nat.beq j i) := fun j => by
        by_cases hji : j = i
        · subst hji
          have : (listed.setIfInBounds j true).getD j false = true := by simp [hsz, h1]
          rw [this, Nat.beq_refl, Bool.or_true]
        · have e1 : (listed.setIfInBounds i true).getD j false = listed.getD j false := by simp [Array.getElem?_setIfInBounds_ne (Ne.symm hji)]
          have e2 : Nat.beq j i = false := by
            cases hb : Nat.beq j i with
            | false => rfl
            | true => exact absurd (Nat.eq_of_beq_eq_true hb) hji
          rw [e1, e2, Bool.or_false]
      have hadd : partS (fun j => (listed.setIfInBounds i true).getD j false) 0 es s = (partS (fun j => listed.getD j false) 0 es s).ev1 e := by
        have := partS_add (p := fun j => listed.getD j false) es 0 i s he (by rw [Nat.zero_add]; exact h2) fun j e' hj hje hpj => by
          rw [Nat.zero_add] at hpj
          have hb : Nat.blt j i = false := by
            cases hb : Nat.blt j i with
            | false => rfl
            | true => have := Nat.blt_eq.mp hb; omega
          exact (hnc j e' hje (by rw [hb]; show listed.getD j false ≠ false; rw [hpj]; intro e; cases e) (by omega)).a
        rw [Nat.zero_add] at this
        rw [← this]
        exact partS_congr es 0 s fun k _ => hset (0 + k)
      have hcl' : Closed (fun j => (listed.setIfInBounds i true).getD j false) es := by
        intro k e' hk' hp ed hed hb
        show (listed.setIfInBounds i true).getD ed.on false = true
        have hp : (listed.setIfInBounds i true).getD k false = true := hp
        rw [hset] at hp ⊢
        rw [Bool.or_eq_true] at hp ⊢
        left
        rcases hp with hp | hp
        · exact hcl k e' hk' hp ed hed hb
        · have := Nat.eq_of_beq_eq_true hp
          subst this
          rw [he] at hk'
          cases hk'
          exact hpre ed hed hb
      have hleft' : left (listed.setIfInBounds i true) ops.size = fuel := by
        have := left_set h1 hsz h2
        omega
      have hsz' : (listed.setIfInBounds i true).size = ops.size := by simp [hsz]
      have hused : ∀ G2 : Gh, (∀ r, G2.used r → G'.used r ∨ (s.base i ≤ r ∧ r < s.base i + 64)) → ∀ r, G2.used r → r < s.base 0 ∨ ∃ k, k < ops.size ∧ (listed.setIfInBounds i true).getD k false = true ∧ s.base k ≤ r ∧ r < s.base k + 64 := by
        intro G2 h r hr
        rcases h r hr with h | h
        · rcases hu' r h with h | ⟨k, a1, a2, a3, a4⟩
          · exact .inl h
          · exact .inr ⟨k, a1, by rw [hset, a2]; rfl, a3, a4⟩
        · exact .inr ⟨i, h1, by rw [hset, Nat.beq_refl, Bool.or_true], h.1, h.2⟩
      unfold wpOp
      rw [hop i e he]
      have hbs : (after s (es.take i)).base (ancs (es.take i)).length = s.base i := by
        rw [hlenk i e he]
        unfold S.base
        rw [hsi, partS_nx]
      rcases K.does with ⟨hg, hp, hrs⟩ | ⟨hg, hv, hws⟩
      · rw [hbs] at hp
        have hg' : guardK ops.toList e.o (partS (fun j => listed.getD j false) 0 es s) (some ()) none = some () := by
          rw [← guard_congr htm]; exact hg _ _ _
        rcases guard_sound I' ops hg' with ⟨hw, _⟩ | ⟨_, hn, _⟩
        · show if Region.wanted e.o (yielded ops a'.tmps) = true then _ else _
          rw [if_pos hw]
          refine .inl ?_
          have htx : ∀ x ∈ e.o.op.operands.toList, ∀ t, x = .tmp t → t ∈ tmpsOf ops.toList e.o := fun x hx t hxt => by
            unfold tmpsOf
            refine List.mem_append_left _ (List.mem_filterMap.mpr ⟨x, hx, ?_⟩)
            rw [hxt]
          have hp' : opK E (s.base i) e.o (partS (fun j => listed.getD j false) 0 es s) pr = some (e.v, e.ws) := by
            cases hq : quietOp e.o.op with
            | true => rw [← opK_quiet hq (s1 := after s (es.take i)) fun x hx t hxt => htm t (htx x hx t hxt)]; exact hp
            | false =>
              have hrd : ∀ x ∈ e.o.op.operands.toList, Reads (after s (es.take i)) (partS (fun j => listed.getD j false) 0 es s) x := fun x hx t hxt => by
                refine ⟨htm t (htx x hx t hxt), agrV_of fun κ hκ => hat κ ?_⟩
                rw [hrs]
                unfold rootsOf1
                rw [hq]
                exact List.mem_flatten.mpr ⟨_, List.mem_map.mpr ⟨t, htx x hx t hxt, rfl⟩, hκ⟩
              rw [← opK_congr hrd]; exact hp
          have A : At E C (s.base i) e.o.dst w' a' (partS (fun j => listed.getD j false) 0 es s) G' := ⟨I', by rw [hta]; exact hnt, K.dst, fun r a1 a2 hr => by
            have b1 := hbase i
            rcases hu' r hr with h | ⟨k, b2, b3, b4, b5⟩
            · omega
            · have b6 := hbase k
              have : k ≠ i := fun e => by rw [e, h2] at b3; cases b3
              omega⟩
          obtain ⟨v, ws, hsame, hgoes⟩ := op_sound hC A hp'
          have hvw : v = e.v ∧ ws = e.ws := by
            have := (hsame _ pr).symm.trans hp'
            have := Option.some.inj this
            exact ⟨congrArg Prod.fst this, congrArg Prod.snd this⟩
          refine hgoes _ Q fun w2 G2 u I2 hu2 => ?_
          rw [hvw.1, hvw.2] at I2
          refine ih _ _ w2 G2 hsz' hleft' hcl' (by rw [hadd]; exact I2) ((put_size _ _ _).trans hta) (hused G2 hu2)
        · cases hn
      · have hg' : guardK ops.toList e.o (partS (fun j => listed.getD j false) 0 es s) none (some ()) = some () := by
          rw [← guard_congr htm]; exact hg _ _ _
        rcases guard_sound I' ops hg' with ⟨_, hn, _⟩ | ⟨hw, _⟩
        · cases hn
        · show if Region.wanted e.o (yielded ops a'.tmps) = true then _ else _
          rw [if_neg (by rw [hw]; simp)]
          have I2 := inv_skip I' e.o.dst E.nt (by rw [hta]; exact hnt) K.dst
          refine ih _ _ w' G' hsz' hleft' hcl' (by rw [hadd]; unfold S.ev1; rw [hv, hws]; exact I2) ((put_size _ _ _).trans hta) (hused G' fun r hr => .inl hr)
  refine main ops.size _ a _ G (by simp) ?_ ?_ ?_ rfl fun r hr => .inl (Nat.lt_of_lt_of_le (hu r hr) (base_zero s))
  · unfold left
    rw [List.countP_eq_length.mpr (fun i hi => by rw [repl_getD]; rfl)]
    simp
  · intro k e he hp
    have hp : (Array.replicate ops.size false).getD k false = true := hp
    rw [repl_getD] at hp
    cases hp
  · have : partS (fun i => (Array.replicate ops.size false).getD i false) 0 es s = s := by
      have := partS_congr (p := fun i => (Array.replicate ops.size false).getD i false) (q := fun j => Nat.blt j (0 + 0)) es 0 s (fun k _ => by
        have e : Nat.blt (0 + k) (0 + 0) = false := by
          cases hb : Nat.blt (0 + k) (0 + 0) with
          | false => rfl
          | true => have := Nat.blt_eq.mp hb; omega
        rw [e]; exact repl_getD _ _)
      rw [this, partS_take]; rfl
    rw [this]; exact inv_drawn I _

end Go.Proofs.Ytopgnkolfeakaaa.D
/- What the interpreter comes to, the machine comes to. -/
namespace Go.Proofs.Ytopgnkolfeakaaa.D
open Go

theorem book_sound (B : Book) (hm : B.P.follows .mixedOrders = true)
    (hN : ∀ (f : Nat) (fn : Func) (c : Code), B.P.funcs[f]? = some fn → fn.body = some c → (fn.name == "runtime.NumGoroutine") = false)
    (hX : ∀ f g xs y, B.ext f = some g → g xs = some y → FnOk B.P (B.sig f) f xs y) {k f : Nat} {xs : List X} {y : (B.sig f).row.T} (h : B.call k f xs = some y) : FnOk B.P (B.sig f) f xs y :=
  call_sound B (fun E hE hC => draws_ok E (by rw [hE]; exact hm) hC) (fun E _ hF => calls_do E hF) hN hX k f xs y h

end Go.Proofs.Ytopgnkolfeakaaa.D
/- A call from outside: its arguments are only read. -/
namespace Go.Proofs.Ytopgnkolfeakaaa.D
open Go Go.RowKit

/- every block that is there is held still -/
def Gh.still (w : World) : Gh := { L := fun g => if g < w.heap.size then .st else .free, base := fun _ => none, hv := fun _ => .slice none 0 0, esz := fun _ => 0, used := fun _ => False }

def Old (w : World) (g : Nat) : Prop := g < w.heap.size

inductive ArgsOk (w : World) : List X → List Value → Prop
  | nil : ArgsOk w [] []
  | cell (c : CT) (y : c.T) (u : Value) (xs : List X) (us : List Value) (h : RepC w (Old w) ⟨c, y⟩ u) (ht : ArgsOk w xs us) : ArgsOk w (.cell c y false :: xs) (u :: us)
  | agg (m : List Cell) (vs : List Value) (xs : List X) (us : List Value) (hl : vs.length = m.length) (h : ∀ (j : Nat) x v, m[j]? = some x → vs[j]? = some v → RepC w (Old w) x v) (ht : ArgsOk w xs us) :
      ArgsOk w (.agg m :: xs) (.agg ⟨vs⟩ :: us)

section
variable {w : World}

theorem still_rep {c : Cell} {u : Value} (h : RepC w (Old w) c u) : RepC w ((Gh.still w).ok false) c u :=
  h.mono fun g _ _ hA hc => ⟨hc, .inl (if_pos hA)⟩

theorem args_entry {xs : List X} {us : List Value} (h : ArgsOk w xs us) : ∀ (i : Nat) (acc : S) (τ : Nat → Value), (∀ t, RepV w (Gh.still w) (acc.tm t) (τ t)) → (∀ (j : Nat) u, us[j]? = some u → τ (i + j) = u) →
    (entryS i xs acc).2 = [] ∧ (entryS i xs acc).1.bx = acc.bx ∧ (entryS i xs acc).1.pl = acc.pl ∧ (∀ t, RepV w (Gh.still w) ((entryS i xs acc).1.tm t) (τ t)) ∧ ∀ t, i + us.length ≤ t → (entryS i xs acc).1.tm t = acc.tm t := by
  induction h with
  | nil => intro i acc τ h _; exact ⟨rfl, rfl, rfl, h, fun t _ => rfl⟩
  | cell c y u xs us hr _ ih =>
    intro i acc τ ht hτ
    have hu : τ i = u := hτ 0 u rfl
    obtain ⟨h1, h2, h3, h4, h5⟩ := ih (i + 1) { acc with tm := upd acc.tm i (.cell c y false) } τ (fun t => by
      by_cases e : t = i
      · subst e
        show RepV w _ (upd acc.tm t _ t) _
        rw [upd_same, hu]; exact .cell _ _ _ _ (still_rep hr)
      · show RepV w _ (upd acc.tm i _ t) _
        rw [upd_other _ _ _ _ e]; exact ht t) (fun j u hj => by
      rw [Nat.add_assoc, Nat.add_comm 1 j]; exact hτ (j + 1) u (by simpa using hj))
    exact ⟨h1, h2, h3, h4, fun t hge => (h5 t (by rw [List.length_cons] at hge; omega)).trans (upd_other _ _ _ _ (by rw [List.length_cons] at hge; omega))⟩
  | agg m vs xs us hl hr _ ih =>
    intro i acc τ ht hτ
    have hu : τ i = .agg ⟨vs⟩ := hτ 0 _ rfl
    obtain ⟨h1, h2, h3, h4, h5⟩ := ih (i + 1) { acc with tm := upd acc.tm i (.agg (m.map .pl)) } τ (fun t => by
      by_cases e : t = i
      · subst e
        show RepV w _ (upd acc.tm t _ t) _
        rw [upd_same, hu]
        refine .agg _ vs (by rw [List.length_map, hl]) fun j b v hb hv => ?_
        rw [List.getElem?_map] at hb
        obtain ⟨x, hx, rfl⟩ := Option.map_eq_some_iff.mp hb
        exact ⟨still_rep (hr j x v hx hv), trivial⟩
      · show RepV w _ (upd acc.tm i _ t) _
        rw [upd_other _ _ _ _ e]; exact ht t) (fun j u hj => by
      rw [Nat.add_assoc, Nat.add_comm 1 j]; exact hτ (j + 1) u (by simpa using hj))
    exact ⟨h1, h2, h3, h4, fun t hge => (h5 t (by rw [List.length_cons] at hge; omega)).trans (upd_other _ _ _ _ (by rw [List.length_cons] at hge; omega))⟩

theorem args_len {xs : List X} {us : List Value} (h : ArgsOk w xs us) : us.length = xs.length := by
  induction h with
  | nil => rfl
  | cell c y u xs us _ _ ih => rw [List.length_cons, List.length_cons, ih]
  | agg m vs xs us _ _ _ ih => rw [List.length_cons, List.length_cons, ih]

theorem still_entry {xs : List X} {us : List Value} (h : ArgsOk w xs us) : rootsOf xs = [] ∧ Entry w (Gh.still w) us xs := by
  obtain ⟨h1, h2, h3, h4, h5⟩ := args_entry h 0 S.zero (fun t => (⟨us⟩ : Array Value).getD t undef) (fun t => .un _) (fun j u hj => by
    rw [Nat.zero_add, Array.getD_eq_getD_getElem?, List.getElem?_toArray, hj]; rfl)
  refine ⟨h1, args_len h, h4, fun t ht => (h5 t (by omega)).trans rfl, ?_, fun r hr => hr.elim, fun r hr => ?_⟩
  · rw [h2, h3]
    exact ⟨fun r hr => absurd rfl hr, fun p e c hp => (by cases hp), fun p c hp => (by cases hp), fun g hg => if_neg (Nat.not_lt.mpr hg), Step.refl w _, fun g _ _ => rfl⟩
  · rw [show rootsOf xs = [] from h1] at hr; cases hr

/- what a call from outside comes to -/
theorem still_call {P : Program} {f : Nat} {sg : Sig} {xs : List X} {us : List Value} {y : sg.row.T} (h : FnOk P sg f xs y) (ha : ArgsOk w xs us) :
    Calls P f ⟨us⟩ w (fun e w' => ∃ v, e = .returned v ∧ Below w.heap.size w w' ∧ ∃ G' vs q ps l m, v = oneU vs ∧ rowCells sg.row y = l ++ m ∧ ResOk w' G' sg.rs l vs q ∧ BoxesOk w' G' sg.bs [] m ps) := by
  obtain ⟨hr, he⟩ := still_entry ha
  refine Calls.mono (h.2 w us _ he) ?_
  rintro e w' ⟨v, rfl, G', vs, q, ps, l, m, h1, h2, h3, h4, _, hs, _, _, _⟩
  rw [hr] at h4
  refine ⟨v, rfl, ⟨hs.os, hs.tape, hs.output, hs.size, fun k hk => hs.same k hk fun hg => ?_⟩, G', vs, q, ps, l, m, h1, h2, h3, h4⟩
  have hg : given (if k < w.heap.size then Lab.st else .free) := hg
  rw [if_pos hk] at hg
  exact hg

theorem bool_call {P : Program} {f : Nat} {sg : Sig} {xs : List X} {us : List Value} {y : sg.row.T} (h : FnOk P sg f xs y) (ha : ArgsOk w xs us) (hrs : sg.rs = [.c .bool none]) (hbs : sg.bs = []) {b : Bool} (hy : rowCells sg.row y = [⟨.bool, b⟩]) :
    Calls P f ⟨us⟩ w (fun e w' => e = .returned (.bool b) ∧ Below w.heap.size w w') := by
  refine Calls.mono (still_call h ha) ?_
  rintro e w' ⟨v, rfl, hb, G', vs, q, ps, l, m, h1, h2, h3, h4⟩
  refine ⟨?_, hb⟩
  rw [hrs] at h3
  rw [hbs] at h4
  cases h4 with
  | nil =>
  cases h3 with
  | c t o rs x l' u us' q' ps' hc hr =>
  cases hr with
  | nil =>
  rw [hy, List.append_nil] at h2
  cases h2
  cases hc with
  | pl x u hrep =>
  rw [h1, hrep.bool_inv]; rfl

end

/- a function that leaves the world as it is, and has one plain result -/
theorem fnOk_same {P : Program} {f : Nat} {sg : Sig} {xs : List X} {y : sg.row.T} {t : CT} {c : Cell} (hrs : sg.rs = [.c t none]) (hbs : sg.bs = []) (hy : rowCells sg.row y = [c]) (hroots : rootsOf xs = [])
    (henter : ∀ (args : Array Value) (w : World), (callFunc f args).run P w = .ok (.enter f args) w)
    (h : ∀ (w : World) (vs : List Value) (G : Gh), Entry w G vs xs → Calls P f ⟨vs⟩ w (fun e w' => ∃ u, e = .returned u ∧ w' = w ∧ RepC w (G.ok false) c u)) : FnOk P sg f xs y := by
  refine ⟨henter, fun w vs G hE => Calls.mono (h w vs G hE) ?_⟩
  rintro e w' ⟨u, rfl, rfl, hr⟩
  refine ⟨u, rfl, G, [u], [], [], [c], [], rfl, by rw [hy]; rfl, ?_, ?_, List.nodup_nil, Step.refl _ _, hE.mem.fresh, fun _ _ _ => rfl, fun _ _ => rfl⟩
  · rw [hrs]
    exact .c t none [] c [] u [] [] [] (.pl c u hr) .nil
  · rw [hbs, hroots]; exact .nil

end Go.Proofs.Ytopgnkolfeakaaa.D
/- From the interpreter to a function's own Lean text: the two equations that a printed function uses. -/
namespace Go.Proofs.Ytopgnkolfeakaaa.D
open Go

def bodyOf (c : Option Code) : List Item := match c with | some c => [.code c] | none => []
def stk (c : Option Code) (r : Nat) : List Item := match c with | some c => (stackAt r c []).getD [] | none => []
def hasStk (c : Option Code) (r : Nat) : Bool := match c with | some c => (stackAt r c []).isSome | none => false

theorem stackAt_head {r : Nat} : ∀ (c : Code) (k l : List Item), stackAt r c k = some l → ∃ ops dr k', l = .code (.region r ops dr) :: k' := by
  intro c
  induction c with
  | region id ops dr =>
    intro k l h
    have h' : (bif Nat.beq id r then some (.code (.region id ops dr) :: k) else none) = some l := h
    cases hb : Nat.beq id r with
    | false => rw [hb] at h'; cases h'
    | true => rw [hb] at h'; cases h'; rw [Nat.eq_of_beq_eq_true hb]; exact ⟨_, _, _, rfl⟩
  | seq a b iha ihb =>
    intro k l h
    have h' : (match stackAt r a (.code b :: k) with | some l => some l | none => stackAt r b k) = some l := h
    cases ha : stackAt r a (.code b :: k) with
    | none => rw [ha] at h'; exact ihb _ _ h'
    | some q => rw [ha] at h'; cases h'; exact iha _ _ ha
  | cond c a b iha ihb =>
    intro k l h
    have h' : (match stackAt r a k with | some l => some l | none => stackAt r b k) = some l := h
    cases ha : stackAt r a k with
    | none => rw [ha] at h'; exact ihb _ _ h'
    | some q => rw [ha] at h'; cases h'; exact iha _ _ ha
  | block id b ih => intro k l h; exact ih _ _ h
  | loop b ih => intro k l h; exact ih _ _ h
  | scope b ih => intro k l h; exact ih _ _ h
  | _ => intro k l h; cases h

theorem call_eq (B : Book) {f : Nat} {fn : Func} (hx : (B.ext f).isNone = true) (hf : B.P.funcs[f]? = some fn) (hb : fn.body.isSome = true) (k : Nat) (xs : List X) :
    B.call (k + 1) f xs = den (B.env (B.call k) f fn (rootsOf xs) (B.goOn (B.call k) f fn (rootsOf xs) k)) 100000 false (bodyOf fn.body) (entryS 0 xs S.zero).1 := by
  cases hc : fn.body with
  | none => rw [hc] at hb; cases hb
  | some c =>
    cases he : B.ext f with
    | some g => rw [he] at hx; cases hx
    | none =>
      show (match B.ext f with
        | some g => g xs
        | none => match B.P.funcs[f]? with
          | some fn => match fn.body with
            | some c => den (B.env (B.call k) f fn (rootsOf xs) (B.goOn (B.call k) f fn (rootsOf xs) k)) 100000 false [.code c] (entryS 0 xs S.zero).1
            | none => none
          | none => none) = _
      rw [he]
      simp only [hf, hc]
      rfl

theorem goOn_eq (B : Book) {f r : Nat} {fn : Func} {ks : List K} (hs : hasStk fn.body r = true) (hc : B.cut f r = some ks) (call : B.Call) (roots : List Nat) (j : Nat) (xs : List X) :
    B.goOn call f fn roots (j + 1) (stk fn.body r) xs = den (B.env call f fn roots (B.goOn call f fn roots j)) 100000 true (stk fn.body r) (putXs ks xs S.zero) := by
  cases hb : fn.body with
  | none => rw [hb] at hs; cases hs
  | some c =>
    rw [hb] at hs
    have hs : (stackAt r c []).isSome = true := hs
    obtain ⟨l, hl⟩ := Option.isSome_iff_exists.mp hs
    obtain ⟨ops, dr, k', rfl⟩ := stackAt_head c [] l hl
    have e : stk (some c) r = .code (.region r ops dr) :: k' := by show (stackAt r c []).getD [] = _; rw [hl]; rfl
    rw [e]
    show (match B.cut f r with
      | some ks => den (B.env call f fn roots (B.goOn call f fn roots j)) 100000 true (.code (.region r ops dr) :: k') (putXs ks xs S.zero)
      | none => none) = _
    rw [hc]

end Go.Proofs.Ytopgnkolfeakaaa.D
/- The functions' signatures. Printed by dp.py. -/
namespace Go.Proofs.Ytopgnkolfeakaaa.D
open Go
def sig0 : Nat → Sig := fun f => bif Nat.blt f 20 then (bif Nat.blt f 11 then (bif Nat.blt f 7 then (bif Nat.blt f 5 then (bif Nat.blt f 4 then (bif Nat.beq f 3 then ⟨[.s, .s], [.c (.bool) none], []⟩ else ⟨[], [], []⟩) else (bif Nat.beq f 4 then ⟨[], [.c (.bool) none], []⟩ else ⟨[], [], []⟩)) else (bif Nat.blt f 6 then (bif Nat.beq f 5 then ⟨[.s], [.a [.int .i64, .sl spanRow, .pats], .c (.int .i64) none], []⟩ else ⟨[], [], []⟩) else (bif Nat.beq f 6 then ⟨[.s, .s], [.c (.bool) none], []⟩ else ⟨[], [], []⟩))) else (bif Nat.blt f 9 then (bif Nat.blt f 8 then (bif Nat.beq f 7 then ⟨[.s, .b], [.c (.bool) none], []⟩ else ⟨[], [], []⟩) else (bif Nat.beq f 8 then ⟨[.s], [.c (.sl (.cons (.int .u8) (.one (.int .u64)))) none], []⟩ else ⟨[], [], []⟩)) else (bif Nat.blt f 10 then (bif Nat.beq f 9 then ⟨[.s], [.a [.int .i64, .sl spanRow, .pats]], [[(.sl (.cons (.int .u8) (.one (.int .u64))), none), (.bool, none), (.bool, none), (.bool, none)]]⟩ else ⟨[], [], []⟩) else (bif Nat.beq f 10 then ⟨[.s, .s], [.c (.bool) none], [[(.sl (.cons (.int .u8) (.one (.int .u64))), none), (.bool, none), (.bool, none), (.bool, none)]]⟩ else ⟨[], [], []⟩)))) else (bif Nat.blt f 15 then (bif Nat.blt f 13 then (bif Nat.blt f 12 then (bif Nat.beq f 11 then ⟨[.s], [.c (.bool) none], []⟩ else ⟨[], [], []⟩) else (bif Nat.beq f 12 then ⟨[.s], [.a [.int .i64, .sl spanRow, .pats]], []⟩ else ⟨[], [], []⟩)) else (bif Nat.blt f 14 then (bif Nat.beq f 13 then ⟨[.s, .s], [.c (.bool) none], []⟩ else ⟨[], [], []⟩) else (bif Nat.beq f 14 then ⟨[.s, .b, .b], [.c (.sl (.one (.bool))) (some 4)], []⟩ else ⟨[], [], []⟩))) else (bif Nat.blt f 17 then (bif Nat.blt f 16 then (bif Nat.beq f 15 then ⟨[.s, .s], [.c (.int .i64) none], []⟩ else ⟨[], [], []⟩) else (bif Nat.beq f 16 then ⟨[.s], [.a [.int .i64, .sl spanRow, .pats]], [[(.sl (.cons (.int .u8) (.one (.int .u64))), none), (.bool, none), (.bool, none), (.bool, none)]]⟩ else ⟨[], [], []⟩)) else (bif Nat.blt f 18 then (bif Nat.beq f 17 then ⟨[.s, .s], [.c (.bool) none], [[(.sl (.cons (.int .u8) (.one (.int .u64))), none), (.bool, none), (.bool, none), (.bool, none)]]⟩ else ⟨[], [], []⟩) else (bif Nat.blt f 19 then (bif Nat.beq f 18 then ⟨[.s, .s, .o 26], [.a [.int .i64, .sl spanRow, .pats]], [[(.sl (.cons (.int .u8) (.one (.int .u64))), none), (.bool, none), (.bool, none), (.bool, none)]]⟩ else ⟨[], [], []⟩) else (bif Nat.beq f 19 then ⟨[.s], [.c (.int .i64) none, .c (.int .i64) none], []⟩ else ⟨[], [], []⟩)))))) else (bif Nat.blt f 29 then (bif Nat.blt f 24 then (bif Nat.blt f 22 then (bif Nat.blt f 21 then (bif Nat.beq f 20 then ⟨[.s], [.c (.bool) none], []⟩ else ⟨[], [], []⟩) else (bif Nat.beq f 21 then ⟨[.b, .s], [.c (.bool) none], []⟩ else ⟨[], [], []⟩)) else (bif Nat.blt f 23 then (bif Nat.beq f 22 then ⟨[.s, .s], [.c (.int .i64) none], []⟩ else ⟨[], [], []⟩) else (bif Nat.beq f 23 then ⟨[.s], [.a [.int .i64, .sl spanRow, .pats]], [[(.sl (.cons (.int .u8) (.one (.int .u64))), none), (.bool, none), (.bool, none), (.bool, none)]]⟩ else ⟨[], [], []⟩))) else (bif Nat.blt f 26 then (bif Nat.blt f 25 then (bif Nat.beq f 24 then ⟨[.s, .s, .o 26], [.a [.int .i64, .sl spanRow, .pats]], [[(.sl (.cons (.int .u8) (.one (.int .u64))), none), (.bool, none), (.bool, none), (.bool, none)]]⟩ else ⟨[], [], []⟩) else (bif Nat.beq f 25 then ⟨[.s, .s], [.c (.bool) none], []⟩ else ⟨[], [], []⟩)) else (bif Nat.blt f 27 then (bif Nat.beq f 26 then ⟨[.s], [.c (.bool) none], []⟩ else ⟨[], [], []⟩) else (bif Nat.blt f 28 then (bif Nat.beq f 27 then ⟨[.s, .s], [.c (.int .i64) none], []⟩ else ⟨[], [], []⟩) else (bif Nat.beq f 28 then ⟨[.s], [.a [.int .i64, .sl spanRow, .pats]], [[(.sl (.cons (.int .u8) (.one (.int .u64))), none), (.bool, none), (.bool, none), (.bool, none)]]⟩ else ⟨[], [], []⟩))))) else (bif Nat.blt f 33 then (bif Nat.blt f 31 then (bif Nat.blt f 30 then (bif Nat.beq f 29 then ⟨[.s, .s], [.a [.int .i64, .sl spanRow, .pats]], [[(.sl (.cons (.int .u8) (.one (.int .u64))), none), (.bool, none), (.bool, none), (.bool, none)]]⟩ else ⟨[], [], []⟩) else (bif Nat.beq f 30 then ⟨[.s, .s], [.c (.int .i64) none], []⟩ else ⟨[], [], []⟩)) else (bif Nat.blt f 32 then (bif Nat.beq f 31 then ⟨[], [.a [.int .i64, .sl spanRow, .pats]], []⟩ else ⟨[], [], []⟩) else (bif Nat.beq f 32 then ⟨[.s, .s], [], [[(.sl (.cons (.int .u8) (.one (.int .u64))), none), (.bool, none), (.bool, none), (.bool, none)]]⟩ else ⟨[], [], []⟩))) else (bif Nat.blt f 35 then (bif Nat.blt f 34 then (bif Nat.beq f 33 then ⟨[.s], [.c (.int .u32) none], [[(.sl (.cons (.int .u8) (.one (.int .u64))), none), (.bool, none), (.bool, none), (.bool, none)]]⟩ else ⟨[], [], []⟩) else (bif Nat.beq f 34 then ⟨[.s, .s, .s, .s], [.a [.int .i64, .sl spanRow, .pats]], [[(.sl (.cons (.int .u8) (.one (.int .u64))), none), (.bool, none), (.bool, none), (.bool, none)]]⟩ else ⟨[], [], []⟩)) else (bif Nat.blt f 36 then (bif Nat.beq f 35 then ⟨[.s, .s, .s], [.a [.int .i64, .sl spanRow, .pats], .c (.int .i64) none], []⟩ else ⟨[], [], []⟩) else (bif Nat.blt f 37 then (bif Nat.beq f 36 then ⟨[.s], [.a [.int .i64, .sl spanRow, .pats]], []⟩ else ⟨[], [], []⟩) else (bif Nat.beq f 37 then ⟨[.s], [.c (.sl spanRow) none], []⟩ else ⟨[], [], []⟩))))))
end Go.Proofs.Ytopgnkolfeakaaa.D
/- What is known otherwise: strings.IndexByte. -/
namespace Go.Proofs.Ytopgnkolfeakaaa.D
open Go

def ext_strings_IndexByte (xs : List X) : Option Int :=
  match xs with
  | [.cell .str s false, .cell (.int .u8) c false] => some (Lib.indexByte s c.toNat.toUInt8)
  | _ => none

end Go.Proofs.Ytopgnkolfeakaaa.D
/- The book: cuts, and what is known otherwise. Printed by dp.py. -/
namespace Go.Proofs.Ytopgnkolfeakaaa.D
open Go
def cut0 : Nat → Nat → Option (List K) := fun f r => bif Nat.blt f 16 then (bif Nat.blt f 9 then (bif Nat.blt f 6 then (bif Nat.beq f 3 then (bif Nat.blt r 12 then (bif Nat.beq r 7 then some [.t 0, .t 1, .t 5, .t 18, .t 19] else none) else (bif Nat.beq r 12 then some [.t 0, .t 1, .t 5, .t 6, .t 18, .t 19, .t 35, .t 36] else none)) else none) else (bif Nat.blt f 8 then (bif Nat.beq f 6 then (bif Nat.beq r 4 then some [.p 2 [none, none, none], .p 3 [none, none, none], .t 30, .t 31] else none) else none) else (bif Nat.beq f 8 then (bif Nat.blt r 13 then (bif Nat.beq r 3 then some [.t 0, .o 3 49, .t 4] else none) else (bif Nat.beq r 13 then some [.t 0, .o 3 49, .t 4, .t 5, .t 6, .t 7] else none)) else none))) else (bif Nat.blt f 13 then (bif Nat.blt f 12 then (bif Nat.beq f 9 then (bif Nat.beq r 2 then some [.p 0 [none, none, none, none], .p 2 [none, none, some 26], .o 3 26] else none) else none) else (bif Nat.beq f 12 then (bif Nat.beq r 3 then some [.p 2 [none, some 55, some 26], .p 3 [none, none, some 26], .t 14, .t 15, .t 16] else none) else none)) else (bif Nat.blt f 14 then (bif Nat.beq f 13 then (bif Nat.beq r 4 then some [.t 0, .t 1, .t 12, .t 13] else none) else none) else (bif Nat.beq f 14 then (bif Nat.blt r 22 then (bif Nat.blt r 13 then (bif Nat.beq r 5 then some [.t 2, .p 3 [none, none, none], .o 7 4, .t 26, .t 27, .t 28] else none) else (bif Nat.blt r 19 then (bif Nat.beq r 13 then some [.t 1, .o 7 4, .t 54, .t 55, .t 56] else none) else (bif Nat.beq r 19 then some [.t 1, .t 2, .o 7 4, .t 68, .t 69, .t 70] else none))) else (bif Nat.blt r 30 then (bif Nat.beq r 22 then some [.t 1, .t 2, .o 7 4, .t 68, .t 69, .t 70, .o 77 4, .t 78, .t 79] else none) else (bif Nat.blt r 33 then (bif Nat.beq r 30 then some [.t 1, .p 3 [none, none, none], .o 7 4, .t 16] else none) else (bif Nat.beq r 33 then some [.t 1, .p 3 [none, none, none], .o 7 4, .t 16, .o 108 4, .t 109, .t 110] else none)))) else none)))) else (bif Nat.blt f 23 then (bif Nat.blt f 19 then (bif Nat.beq f 16 then (bif Nat.beq r 2 then some [.p 0 [none, none, none, none], .p 2 [none, none, some 26], .o 3 26] else none) else none) else (bif Nat.blt f 21 then (bif Nat.beq f 19 then (bif Nat.beq r 3 then some [.t 2, .t 3, .t 9, .t 10, .t 11] else none) else none) else (bif Nat.beq f 21 then (bif Nat.beq r 2 then some [.t 1, .t 7, .t 8, .t 9] else none) else none))) else (bif Nat.blt f 35 then (bif Nat.blt f 30 then (bif Nat.beq f 23 then (bif Nat.beq r 2 then some [.p 0 [none, none, none, none], .p 2 [none, none, none], .p 3 [none, none, none]] else none) else none) else (bif Nat.beq f 30 then (bif Nat.beq r 2 then some [.t 0, .t 1, .t 7, .t 8] else none) else none)) else (bif Nat.blt f 36 then (bif Nat.beq f 35 then (bif Nat.blt r 17 then (bif Nat.beq r 11 then some [.t 1, .t 2, .p 3 [none, none, none], .p 6 [none, none, some 26], .p 8 [none, none, some 26], .t 42, .t 43] else none) else (bif Nat.beq r 17 then some [.p 3 [none, none, none], .p 6 [none, none, some 26], .p 8 [none, none, some 26], .t 69, .t 70] else none)) else none) else (bif Nat.beq f 36 then (bif Nat.beq r 3 then some [.p 2 [none, none, some 26], .p 3 [none, none, some 26], .t 13, .t 14, .t 15] else none) else none))))
def ext0 : (f : Nat) → Option (List X → Option (sig0 f).row.T)
  | 15 => some ext_strings_IndexByte
  | _ => none
noncomputable def B0 : Book := { P := Try.prog, pt := 26, sig := sig0, cut := cut0, ext := ext0 }
end Go.Proofs.Ytopgnkolfeakaaa.D
/- Calls, by the data they are given. Printed by dp.py. -/
set_option maxRecDepth 100000
namespace Go.Proofs.Ytopgnkolfeakaaa.D
open Go
noncomputable def law07_JpatBlanks.C (call : B0.Call) (s0 : List UInt8) (n1 : Int) : Option Bool := call 3 [.cell (.str) s0 false, .cell (.int .u8) n1 false]
noncomputable def law07_alive.C (call : B0.Call) : Option Bool := call 4 []
noncomputable def jpat_Parse.C (call : B0.Call) (s0 : List UInt8) : Option (Int × (List (Int × Int)) × (List Pat) × Int) := call 5 [.cell (.str) s0 false]
noncomputable def ref05_Same.C (call : B0.Call) (a0_0 : Int) (a0_1 : List (Int × Int)) (a0_2 : List Pat) (b1_0 : Int) (b1_1 : List (Int × Int)) (b1_2 : List Pat) : Option Bool := call 6 [.agg [⟨.int .i64, a0_0⟩, ⟨.sl spanRow, a0_1⟩, ⟨.pats, a0_2⟩], .agg [⟨.int .i64, b1_0⟩, ⟨.sl spanRow, b1_1⟩, ⟨.pats, b1_2⟩]]
noncomputable def ref05_Match.C (call : B0.Call) (p0_0 : Int) (p0_1 : List (Int × Int)) (p0_2 : List Pat) (path1 : List Int) : Option Bool := call 7 [.agg [⟨.int .i64, p0_0⟩, ⟨.sl spanRow, p0_1⟩, ⟨.pats, p0_2⟩], .cell (.sl (.one (.int .u32))) path1 true]
noncomputable def jpat_tokens.C (call : B0.Call) (s0 : List UInt8) : Option (List (Int × Int)) := call 8 [.cell (.str) s0 false]
noncomputable def jpat_parser_pattern.C (call : B0.Call) (p0_0 : List (Int × Int)) (p0_1 : Bool) (p0_2 : Bool) (p0_3 : Bool) : Option (Int × (List (Int × Int)) × (List Pat) × (List (Int × Int)) × Bool × Bool × Bool) := call 9 [.box [.pl ⟨.sl (.cons (.int .u8) (.one (.int .u64))), p0_0⟩, .pl ⟨.bool, p0_1⟩, .pl ⟨.bool, p0_2⟩, .pl ⟨.bool, p0_3⟩]]
noncomputable def jpat_parser_is.C (call : B0.Call) (p0_0 : List (Int × Int)) (p0_1 : Bool) (p0_2 : Bool) (p0_3 : Bool) (kind1 : Int) : Option (Bool × (List (Int × Int)) × Bool × Bool × Bool) := call 10 [.box [.pl ⟨.sl (.cons (.int .u8) (.one (.int .u64))), p0_0⟩, .pl ⟨.bool, p0_1⟩, .pl ⟨.bool, p0_2⟩, .pl ⟨.bool, p0_3⟩], .cell (.int .u8) kind1 false]
noncomputable def pat_Right.C (call : B0.Call) (p0_0 : Int) (p0_1 : List (Int × Int)) (p0_2 : List Pat) : Option Bool := call 11 [.agg [⟨.int .i64, p0_0⟩, ⟨.sl spanRow, p0_1⟩, ⟨.pats, p0_2⟩]]
noncomputable def jpat_own.C (call : B0.Call) (x0_0 : Int) (x0_1 : List (Int × Int)) (x0_2 : List Pat) : Option (Int × (List (Int × Int)) × (List Pat)) := call 12 [.agg [⟨.int .i64, x0_0⟩, ⟨.sl spanRow, x0_1⟩, ⟨.pats, x0_2⟩]]
noncomputable def ref01_Same.C (call : B0.Call) (a0 : List (Int × Int)) (b1 : List (Int × Int)) : Option Bool := call 13 [.cell (.sl spanRow) a0 false, .cell (.sl spanRow) b1 false]
noncomputable def ref05_ends.C (call : B0.Call) (p0_0 : Int) (p0_1 : List (Int × Int)) (p0_2 : List Pat) (path1 : List Int) (at2 : List Bool) : Option (List Bool) := call 14 [.agg [⟨.int .i64, p0_0⟩, ⟨.sl spanRow, p0_1⟩, ⟨.pats, p0_2⟩], .cell (.sl (.one (.int .u32))) path1 true, .cell (.sl (.one (.bool))) at2 true]
noncomputable def strings_IndexByte.C (call : B0.Call) (s0 : List UInt8) (c1 : Int) : Option Int := call 15 [.cell (.str) s0 false, .cell (.int .u8) c1 false]
noncomputable def jpat_parser_cat.C (call : B0.Call) (p0_0 : List (Int × Int)) (p0_1 : Bool) (p0_2 : Bool) (p0_3 : Bool) : Option (Int × (List (Int × Int)) × (List Pat) × (List (Int × Int)) × Bool × Bool × Bool) := call 16 [.box [.pl ⟨.sl (.cons (.int .u8) (.one (.int .u64))), p0_0⟩, .pl ⟨.bool, p0_1⟩, .pl ⟨.bool, p0_2⟩, .pl ⟨.bool, p0_3⟩]]
noncomputable def jpat_parser_take.C (call : B0.Call) (p0_0 : List (Int × Int)) (p0_1 : Bool) (p0_2 : Bool) (p0_3 : Bool) (kind1 : Int) : Option (Bool × (List (Int × Int)) × Bool × Bool × Bool) := call 17 [.box [.pl ⟨.sl (.cons (.int .u8) (.one (.int .u64))), p0_0⟩, .pl ⟨.bool, p0_1⟩, .pl ⟨.bool, p0_2⟩, .pl ⟨.bool, p0_3⟩], .cell (.int .u8) kind1 false]
noncomputable def jpat_parser_many.C (call : B0.Call) (p0_0 : List (Int × Int)) (p0_1 : Bool) (p0_2 : Bool) (p0_3 : Bool) (kind1 : Int) (l2 : List Pat) : Option (Int × (List (Int × Int)) × (List Pat) × (List (Int × Int)) × Bool × Bool × Bool) := call 18 [.box [.pl ⟨.sl (.cons (.int .u8) (.one (.int .u64))), p0_0⟩, .pl ⟨.bool, p0_1⟩, .pl ⟨.bool, p0_2⟩, .pl ⟨.bool, p0_3⟩], .cell (.int .i64) kind1 false, .own 26 (.pats) l2]
noncomputable def pat_Size.C (call : B0.Call) (p0_0 : Int) (p0_1 : List (Int × Int)) (p0_2 : List Pat) : Option (Int × Int) := call 19 [.agg [⟨.int .i64, p0_0⟩, ⟨.sl spanRow, p0_1⟩, ⟨.pats, p0_2⟩]]
noncomputable def pat_fits.C (call : B0.Call) (p0_0 : Int) (p0_1 : List (Int × Int)) (p0_2 : List Pat) : Option Bool := call 20 [.agg [⟨.int .i64, p0_0⟩, ⟨.sl spanRow, p0_1⟩, ⟨.pats, p0_2⟩]]
noncomputable def ref01_In.C (call : B0.Call) (l0 : List (Int × Int)) (n1 : Int) : Option Bool := call 21 [.cell (.sl spanRow) l0 true, .cell (.int .u32) n1 false]
noncomputable def jpat_parser_item.C (call : B0.Call) (p0_0 : List (Int × Int)) (p0_1 : Bool) (p0_2 : Bool) (p0_3 : Bool) : Option (Int × (List (Int × Int)) × (List Pat) × (List (Int × Int)) × Bool × Bool × Bool) := call 23 [.box [.pl ⟨.sl (.cons (.int .u8) (.one (.int .u64))), p0_0⟩, .pl ⟨.bool, p0_1⟩, .pl ⟨.bool, p0_2⟩, .pl ⟨.bool, p0_3⟩]]
noncomputable def jpat_parser_made.C (call : B0.Call) (p0_0 : List (Int × Int)) (p0_1 : Bool) (p0_2 : Bool) (p0_3 : Bool) (kind1 : Int) (l2 : List Pat) : Option (Int × (List (Int × Int)) × (List Pat) × (List (Int × Int)) × Bool × Bool × Bool) := call 24 [.box [.pl ⟨.sl (.cons (.int .u8) (.one (.int .u64))), p0_0⟩, .pl ⟨.bool, p0_1⟩, .pl ⟨.bool, p0_2⟩, .pl ⟨.bool, p0_3⟩], .cell (.int .i64) kind1 false, .own 26 (.pats) l2]
noncomputable def slices_ContainsFunc_api_Pat_api_Pat.C (call : B0.Call) (s0 : List Pat) : Option Bool := call 25 [.cell (.pats) s0 false, .fn 26 []]
noncomputable def jpat_parser_atom.C (call : B0.Call) (p0_0 : List (Int × Int)) (p0_1 : Bool) (p0_2 : Bool) (p0_3 : Bool) : Option (Int × (List (Int × Int)) × (List Pat) × (List (Int × Int)) × Bool × Bool × Bool) := call 28 [.box [.pl ⟨.sl (.cons (.int .u8) (.one (.int .u64))), p0_0⟩, .pl ⟨.bool, p0_1⟩, .pl ⟨.bool, p0_2⟩, .pl ⟨.bool, p0_3⟩]]
noncomputable def jpat_parser_count.C (call : B0.Call) (p0_0 : List (Int × Int)) (p0_1 : Bool) (p0_2 : Bool) (p0_3 : Bool) (x1_0 : Int) (x1_1 : List (Int × Int)) (x1_2 : List Pat) : Option (Int × (List (Int × Int)) × (List Pat) × (List (Int × Int)) × Bool × Bool × Bool) := call 29 [.box [.pl ⟨.sl (.cons (.int .u8) (.one (.int .u64))), p0_0⟩, .pl ⟨.bool, p0_1⟩, .pl ⟨.bool, p0_2⟩, .pl ⟨.bool, p0_3⟩], .agg [⟨.int .i64, x1_0⟩, ⟨.sl spanRow, x1_1⟩, ⟨.pats, x1_2⟩]]
noncomputable def slices_IndexFunc_api_Pat_api_Pat.C (call : B0.Call) (s0 : List Pat) : Option Int := call 30 [.cell (.pats) s0 false, .fn 26 []]
noncomputable def pat_Any.C (call : B0.Call) : Option (Int × (List (Int × Int)) × (List Pat)) := call 31 []
noncomputable def jpat_parser_need.C (call : B0.Call) (p0_0 : List (Int × Int)) (p0_1 : Bool) (p0_2 : Bool) (p0_3 : Bool) (kind1 : Int) : Option ((List (Int × Int)) × Bool × Bool × Bool) := call 32 [.box [.pl ⟨.sl (.cons (.int .u8) (.one (.int .u64))), p0_0⟩, .pl ⟨.bool, p0_1⟩, .pl ⟨.bool, p0_2⟩, .pl ⟨.bool, p0_3⟩], .cell (.int .u8) kind1 false]
noncomputable def jpat_parser_number.C (call : B0.Call) (p0_0 : List (Int × Int)) (p0_1 : Bool) (p0_2 : Bool) (p0_3 : Bool) : Option (Int × (List (Int × Int)) × Bool × Bool × Bool) := call 33 [.box [.pl ⟨.sl (.cons (.int .u8) (.one (.int .u64))), p0_0⟩, .pl ⟨.bool, p0_1⟩, .pl ⟨.bool, p0_2⟩, .pl ⟨.bool, p0_3⟩]]
noncomputable def jpat_parser_times.C (call : B0.Call) (p0_0 : List (Int × Int)) (p0_1 : Bool) (p0_2 : Bool) (p0_3 : Bool) (x1_0 : Int) (x1_1 : List (Int × Int)) (x1_2 : List Pat) (least2 : Int) (most3 : Int) : Option (Int × (List (Int × Int)) × (List Pat) × (List (Int × Int)) × Bool × Bool × Bool) := call 34 [.box [.pl ⟨.sl (.cons (.int .u8) (.one (.int .u64))), p0_0⟩, .pl ⟨.bool, p0_1⟩, .pl ⟨.bool, p0_2⟩, .pl ⟨.bool, p0_3⟩], .agg [⟨.int .i64, x1_0⟩, ⟨.sl spanRow, x1_1⟩, ⟨.pats, x1_2⟩], .cell (.int .i64) least2 false, .cell (.int .i64) most3 false]
noncomputable def pat_fits_c1.C (call : B0.Call) (s0_0 : Int) (s0_1 : List (Int × Int)) (s0_2 : List Pat) : Option Bool := call 26 [.agg [⟨.int .i64, s0_0⟩, ⟨.sl spanRow, s0_1⟩, ⟨.pats, s0_2⟩]]
noncomputable def pat_Times.C (call : B0.Call) (p0_0 : Int) (p0_1 : List (Int × Int)) (p0_2 : List Pat) (least1 : Int) (most2 : Int) : Option (Int × (List (Int × Int)) × (List Pat) × Int) := call 35 [.agg [⟨.int .i64, p0_0⟩, ⟨.sl spanRow, p0_1⟩, ⟨.pats, p0_2⟩], .cell (.int .i64) least1 false, .cell (.int .i64) most2 false]
noncomputable def pat_twin.C (call : B0.Call) (p0_0 : Int) (p0_1 : List (Int × Int)) (p0_2 : List Pat) : Option (Int × (List (Int × Int)) × (List Pat)) := call 36 [.agg [⟨.int .i64, p0_0⟩, ⟨.sl spanRow, p0_1⟩, ⟨.pats, p0_2⟩]]
noncomputable def slices_Clone_api_Span_api_Span.C (call : B0.Call) (s0 : List (Int × Int)) : Option (List (Int × Int)) := call 37 [.cell (.sl spanRow) s0 false]
end Go.Proofs.Ytopgnkolfeakaaa.D
/- What functions come to. Printed by dp.py. -/
set_option maxRecDepth 100000
namespace Go.Proofs.Ytopgnkolfeakaaa.D
open Go
/- 3: law07_JpatBlanks -/
noncomputable def law07_JpatBlanks.R (call : B0.Call) (j : Nat) : B0.Rec 3 := B0.goOn call 3 Try.f3 [] j
noncomputable def law07_JpatBlanks.l7 (rec_ : B0.Rec 3) (s0 : List UInt8) (n1 : Int) (t5 : List UInt8) (t18 : Int) (t19 : Int) : Option Bool := rec_ (stk Try.f3.body 7) [.val (.cell (.str) s0 false), .val (.cell (.int .u8) n1 false), .val (.cell (.str) t5 false), .val (.cell (.int .i64) t18 false), .val (.cell (.int .i64) t19 false)]
noncomputable def law07_JpatBlanks.l12 (rec_ : B0.Rec 3) (s0 : List UInt8) (n1 : Int) (t5 : List UInt8) (i6 : Int) (t18 : Int) (t19 : Int) (t35 : Int) (t36 : Int) : Option Bool := rec_ (stk Try.f3.body 12) [.val (.cell (.str) s0 false), .val (.cell (.int .u8) n1 false), .val (.cell (.str) t5 false), .val (.cell (.int .i64) i6 false), .val (.cell (.int .i64) t18 false), .val (.cell (.int .i64) t19 false), .val (.cell (.int .u8) t35 false), .val (.cell (.int .u8) t36 false)]
noncomputable def law07_JpatBlanks.t (call : B0.Call) (rec_ : B0.Rec 3) (s0 : List UInt8) (n1 : Int) : Option Bool :=
  Option.bind (law07_alive.C call) fun r0 =>
  bif (!r0) then
   some false
  else
   bif (decide (((List.length s0) : Int) > 300)) then
    some true
   else
    law07_JpatBlanks.l7 rec_ s0 n1 [] ((List.length s0) : Int) 0
noncomputable def law07_JpatBlanks.t7 (call : B0.Call) (rec_ : B0.Rec 3) (s0 : List UInt8) (n1 : Int) (t5 : List UInt8) (t18 : Int) (t19 : Int) : Option Bool :=
  bif (decide (t19 < t18)) then
   Option.bind (idx s0 t19) fun r0 =>
   bif (decide (((UInt8.toNat r0) : Int) ≥ 48)) then
    Option.bind (idx s0 t19) fun r1 =>
    bif (!(decide (((UInt8.toNat r1) : Int) ≤ 57))) then
     law07_JpatBlanks.l12 rec_ s0 n1 t5 t19 t18 t19 (Int.tmod n1 3) 0
    else
     bif (((decide (0 ≤ t19)) && (decide (t19 ≤ (IntKind.wrap .i64 (t19 + 1))))) && (decide ((IntKind.wrap .i64 (t19 + 1)) ≤ ((List.length s0) : Int)))) then
      bif (room ((List.length t5) + (List.length (List.drop (Int.toNat t19) (List.take (Int.toNat (IntKind.wrap .i64 (t19 + 1))) s0)))) 1) then
       law07_JpatBlanks.l7 rec_ s0 n1 (t5 ++ (List.drop (Int.toNat t19) (List.take (Int.toNat (IntKind.wrap .i64 (t19 + 1))) s0))) t18 (IntKind.wrap .i64 (t19 + 1))
      else
       none
     else
      none
   else
    law07_JpatBlanks.l12 rec_ s0 n1 t5 t19 t18 t19 (Int.tmod n1 3) 0
  else
   bif (room ((List.length t5) + (List.length (32 :: []))) 1) then
    bif (decide (((List.length (t5 ++ (32 :: []))) : Int) > 2000)) then
     some true
    else
     Option.bind (jpat_Parse.C call s0) fun r0 =>
     Option.bind (jpat_Parse.C call (t5 ++ (32 :: []))) fun r1 =>
     bif (r0.2.2.2 == r1.2.2.2) then
      Option.bind (ref05_Same.C call r0.1 r0.2.1 r0.2.2.1 r1.1 r1.2.1 r1.2.2.1) fun r2 =>
      some r2
     else
      some false
   else
    none
noncomputable def law07_JpatBlanks.t12 (call : B0.Call) (rec_ : B0.Rec 3) (s0 : List UInt8) (n1 : Int) (t5 : List UInt8) (i6 : Int) (t18 : Int) (t19 : Int) (t35 : Int) (t36 : Int) : Option Bool :=
  bif (decide (t36 < t35)) then
   bif (room ((List.length t5) + (List.length (32 :: []))) 1) then
    law07_JpatBlanks.l12 rec_ s0 n1 (t5 ++ (32 :: [])) i6 t18 t19 t35 (IntKind.wrap .u8 (t36 + 1))
   else
    none
  else
   bif (((decide (0 ≤ i6)) && (decide (i6 ≤ (IntKind.wrap .i64 (i6 + 1))))) && (decide ((IntKind.wrap .i64 (i6 + 1)) ≤ ((List.length s0) : Int)))) then
    bif (room ((List.length t5) + (List.length (List.drop (Int.toNat i6) (List.take (Int.toNat (IntKind.wrap .i64 (i6 + 1))) s0)))) 1) then
     law07_JpatBlanks.l7 rec_ s0 n1 (t5 ++ (List.drop (Int.toNat i6) (List.take (Int.toNat (IntKind.wrap .i64 (i6 + 1))) s0))) t18 (IntKind.wrap .i64 (t19 + 1))
    else
     none
   else
    none
theorem law07_JpatBlanks.e (call : B0.Call) (rec_ : B0.Rec 3) (s0 : List UInt8) (n1 : Int) :
    den (B0.env call 3 Try.f3 [] rec_) 100000 false (bodyOf Try.f3.body) (entryS 0 [.cell (.str) s0 false, .cell (.int .u8) n1 false] S.zero).1 = law07_JpatBlanks.t call rec_ s0 n1 := by kernel_rfl
theorem law07_JpatBlanks.s (k : Nat) (s0 : List UInt8) (n1 : Int) : law07_JpatBlanks.C (B0.call (k + 1)) s0 n1 = law07_JpatBlanks.t (B0.call k) (law07_JpatBlanks.R (B0.call k) k) s0 n1 :=
  (call_eq B0 rfl Try.func3 (by kernel_rfl) k _).trans (law07_JpatBlanks.e _ _ s0 n1)
theorem law07_JpatBlanks.e7 (call : B0.Call) (rec_ : B0.Rec 3) (s0 : List UInt8) (n1 : Int) (t5 : List UInt8) (t18 : Int) (t19 : Int) :
    den (B0.env call 3 Try.f3 [] rec_) 100000 true (stk Try.f3.body 7) (putXs [.t 0, .t 1, .t 5, .t 18, .t 19] [.val (.cell (.str) s0 false), .val (.cell (.int .u8) n1 false), .val (.cell (.str) t5 false), .val (.cell (.int .i64) t18 false), .val (.cell (.int .i64) t19 false)] S.zero) = law07_JpatBlanks.t7 call rec_ s0 n1 t5 t18 t19 := by kernel_rfl
theorem law07_JpatBlanks.s7 (call : B0.Call) (j : Nat) (s0 : List UInt8) (n1 : Int) (t5 : List UInt8) (t18 : Int) (t19 : Int) : law07_JpatBlanks.l7 (law07_JpatBlanks.R call (j + 1)) s0 n1 t5 t18 t19 = law07_JpatBlanks.t7 call (law07_JpatBlanks.R call j) s0 n1 t5 t18 t19 :=
  (goOn_eq B0 (by kernel_rfl) rfl call [] j _).trans (law07_JpatBlanks.e7 _ _ s0 n1 t5 t18 t19)
theorem law07_JpatBlanks.e12 (call : B0.Call) (rec_ : B0.Rec 3) (s0 : List UInt8) (n1 : Int) (t5 : List UInt8) (i6 : Int) (t18 : Int) (t19 : Int) (t35 : Int) (t36 : Int) :
    den (B0.env call 3 Try.f3 [] rec_) 100000 true (stk Try.f3.body 12) (putXs [.t 0, .t 1, .t 5, .t 6, .t 18, .t 19, .t 35, .t 36] [.val (.cell (.str) s0 false), .val (.cell (.int .u8) n1 false), .val (.cell (.str) t5 false), .val (.cell (.int .i64) i6 false), .val (.cell (.int .i64) t18 false), .val (.cell (.int .i64) t19 false), .val (.cell (.int .u8) t35 false), .val (.cell (.int .u8) t36 false)] S.zero) = law07_JpatBlanks.t12 call rec_ s0 n1 t5 i6 t18 t19 t35 t36 := by kernel_rfl
theorem law07_JpatBlanks.s12 (call : B0.Call) (j : Nat) (s0 : List UInt8) (n1 : Int) (t5 : List UInt8) (i6 : Int) (t18 : Int) (t19 : Int) (t35 : Int) (t36 : Int) : law07_JpatBlanks.l12 (law07_JpatBlanks.R call (j + 1)) s0 n1 t5 i6 t18 t19 t35 t36 = law07_JpatBlanks.t12 call (law07_JpatBlanks.R call j) s0 n1 t5 i6 t18 t19 t35 t36 :=
  (goOn_eq B0 (by kernel_rfl) rfl call [] j _).trans (law07_JpatBlanks.e12 _ _ s0 n1 t5 i6 t18 t19 t35 t36)
/- 4: law07_alive -/
noncomputable def law07_alive.R (call : B0.Call) (j : Nat) : B0.Rec 4 := B0.goOn call 4 Try.f4 [] j
noncomputable def law07_alive.t (call : B0.Call) (rec_ : B0.Rec 4) : Option Bool :=
  Option.bind (jpat_Parse.C call (54 :: (53 :: (48 :: (48 :: (48 :: (32 :: (40 :: (54 :: (52 :: (53 :: (49 :: (50 :: (45 :: (54 :: (53 :: (53 :: (51 :: (52 :: (41 :: (42 :: (32 :: (55 :: []))))))))))))))))))))))) fun r0 =>
  Option.bind (jpat_Parse.C call (49 :: (123 :: (50 :: (125 :: (124 :: (46 :: (123 :: (48 :: (44 :: (49 :: (125 :: [])))))))))))) fun r1 =>
  Option.bind (jpat_Parse.C call (49 :: (123 :: (51 :: (44 :: (50 :: (125 :: []))))))) fun r2 =>
  Option.bind (jpat_Parse.C call (94 :: (49 :: []))) fun r3 =>
  bif (r0.2.2.2 == 0) then
   bif (r1.2.2.2 == 0) then
    bif (r2.2.2.2 == 5) then
     bif (r3.2.2.2 == 4) then
      Option.bind (ref05_Match.C call r0.1 r0.2.1 r0.2.2.1 (65000 :: (7 :: []))) fun r4 =>
      bif r4 then
       Option.bind (ref05_Match.C call r1.1 r1.2.1 r1.2.2.1 (1 :: (1 :: []))) fun r5 =>
       bif r5 then
        Option.bind (ref05_Match.C call r1.1 r1.2.1 r1.2.2.1 []) fun r6 =>
        bif r6 then
         Option.bind (ref05_Match.C call r1.1 r1.2.1 r1.2.2.1 (2 :: (2 :: []))) fun r7 =>
         some (!r7)
        else
         some false
       else
        some false
      else
       some false
     else
      some false
    else
     some false
   else
    some false
  else
   some false
theorem law07_alive.e (call : B0.Call) (rec_ : B0.Rec 4) :
    den (B0.env call 4 Try.f4 [] rec_) 100000 false (bodyOf Try.f4.body) (entryS 0 [] S.zero).1 = law07_alive.t call rec_ := by kernel_rfl
theorem law07_alive.s (k : Nat) : law07_alive.C (B0.call (k + 1)) = law07_alive.t (B0.call k) (law07_alive.R (B0.call k) k) :=
  (call_eq B0 rfl Try.func4 (by kernel_rfl) k _).trans (law07_alive.e _ _)
/- 5: jpat_Parse -/
noncomputable def jpat_Parse.R (call : B0.Call) (j : Nat) : B0.Rec 5 := B0.goOn call 5 Try.f5 [] j
noncomputable def jpat_Parse.t (call : B0.Call) (rec_ : B0.Rec 5) (s0 : List UInt8) : Option (Int × (List (Int × Int)) × (List Pat) × Int) :=
  bif (decide (((List.length s0) : Int) > 2000)) then
   some (0, ([], ([], 6)))
  else
   Option.bind (jpat_tokens.C call s0) fun r0 =>
   Option.bind (jpat_parser_pattern.C call r0 false false false) fun r1 =>
   bif r1.2.2.2.2.1 then
    some (0, ([], ([], 4)))
   else
    Option.bind (jpat_parser_is.C call r1.2.2.2.1 r1.2.2.2.2.1 r1.2.2.2.2.2.1 r1.2.2.2.2.2.2 101) fun r2 =>
    bif (!r2.1) then
     some (0, ([], ([], 4)))
    else
     bif r2.2.2.2.1 then
      some (0, ([], ([], 5)))
     else
      bif r2.2.2.2.2 then
       some (0, ([], ([], 6)))
      else
       Option.bind (pat_Right.C call r1.1 r1.2.1 r1.2.2.1) fun r3 =>
       bif (!r3) then
        some (0, ([], ([], 6)))
       else
        Option.bind (jpat_own.C call r1.1 r1.2.1 r1.2.2.1) fun r4 =>
        some (r4.1, (r4.2.1, (r4.2.2, 0)))
theorem jpat_Parse.e (call : B0.Call) (rec_ : B0.Rec 5) (s0 : List UInt8) :
    den (B0.env call 5 Try.f5 [] rec_) 100000 false (bodyOf Try.f5.body) (entryS 0 [.cell (.str) s0 false] S.zero).1 = jpat_Parse.t call rec_ s0 := by kernel_rfl
theorem jpat_Parse.s (k : Nat) (s0 : List UInt8) : jpat_Parse.C (B0.call (k + 1)) s0 = jpat_Parse.t (B0.call k) (jpat_Parse.R (B0.call k) k) s0 :=
  (call_eq B0 rfl Try.func5 (by kernel_rfl) k _).trans (jpat_Parse.e _ _ s0)
/- 6: ref05_Same -/
noncomputable def ref05_Same.R (call : B0.Call) (j : Nat) : B0.Rec 6 := B0.goOn call 6 Try.f6 [] j
noncomputable def ref05_Same.l4 (rec_ : B0.Rec 6) (a2_0 : Int) (a2_1 : List (Int × Int)) (a2_2 : List Pat) (b3_0 : Int) (b3_1 : List (Int × Int)) (b3_2 : List Pat) (t30 : Int) (t31 : Int) : Option Bool := rec_ (stk Try.f6.body 4) [.box [.pl ⟨.int .i64, a2_0⟩, .pl ⟨.sl spanRow, a2_1⟩, .pl ⟨.pats, a2_2⟩], .box [.pl ⟨.int .i64, b3_0⟩, .pl ⟨.sl spanRow, b3_1⟩, .pl ⟨.pats, b3_2⟩], .val (.cell (.int .i64) t30 false), .val (.cell (.int .i64) t31 false)]
noncomputable def ref05_Same.t (call : B0.Call) (rec_ : B0.Rec 6) (a0_0 : Int) (a0_1 : List (Int × Int)) (a0_2 : List Pat) (b1_0 : Int) (b1_1 : List (Int × Int)) (b1_2 : List Pat) : Option Bool :=
  bif (a0_0 != b1_0) then
   some false
  else
   Option.bind (ref01_Same.C call a0_1 b1_1) fun r0 =>
   bif (!r0) then
    some false
   else
    bif (((List.length a0_2) : Int) != ((List.length b1_2) : Int)) then
     some false
    else
     ref05_Same.l4 rec_ a0_0 a0_1 a0_2 b1_0 b1_1 b1_2 ((List.length a0_2) : Int) 0
noncomputable def ref05_Same.t4 (call : B0.Call) (rec_ : B0.Rec 6) (a2_0 : Int) (a2_1 : List (Int × Int)) (a2_2 : List Pat) (b3_0 : Int) (b3_1 : List (Int × Int)) (b3_2 : List Pat) (t30 : Int) (t31 : Int) : Option Bool :=
  bif (decide (t31 < t30)) then
   Option.bind (idx a2_2 t31) fun r0 =>
   Option.bind (idx b3_2 t31) fun r1 =>
   Option.bind (ref05_Same.C call r0.kind r0.set r0.subs r1.kind r1.set r1.subs) fun r2 =>
   bif (!r2) then
    some false
   else
    ref05_Same.l4 rec_ a2_0 a2_1 a2_2 b3_0 b3_1 b3_2 t30 (IntKind.wrap .i64 (t31 + 1))
  else
   some true
theorem ref05_Same.e (call : B0.Call) (rec_ : B0.Rec 6) (a0_0 : Int) (a0_1 : List (Int × Int)) (a0_2 : List Pat) (b1_0 : Int) (b1_1 : List (Int × Int)) (b1_2 : List Pat) :
    den (B0.env call 6 Try.f6 [] rec_) 100000 false (bodyOf Try.f6.body) (entryS 0 [.agg [⟨.int .i64, a0_0⟩, ⟨.sl spanRow, a0_1⟩, ⟨.pats, a0_2⟩], .agg [⟨.int .i64, b1_0⟩, ⟨.sl spanRow, b1_1⟩, ⟨.pats, b1_2⟩]] S.zero).1 = ref05_Same.t call rec_ a0_0 a0_1 a0_2 b1_0 b1_1 b1_2 := by kernel_rfl
theorem ref05_Same.s (k : Nat) (a0_0 : Int) (a0_1 : List (Int × Int)) (a0_2 : List Pat) (b1_0 : Int) (b1_1 : List (Int × Int)) (b1_2 : List Pat) : ref05_Same.C (B0.call (k + 1)) a0_0 a0_1 a0_2 b1_0 b1_1 b1_2 = ref05_Same.t (B0.call k) (ref05_Same.R (B0.call k) k) a0_0 a0_1 a0_2 b1_0 b1_1 b1_2 :=
  (call_eq B0 rfl Try.func6 (by kernel_rfl) k _).trans (ref05_Same.e _ _ a0_0 a0_1 a0_2 b1_0 b1_1 b1_2)
theorem ref05_Same.e4 (call : B0.Call) (rec_ : B0.Rec 6) (a2_0 : Int) (a2_1 : List (Int × Int)) (a2_2 : List Pat) (b3_0 : Int) (b3_1 : List (Int × Int)) (b3_2 : List Pat) (t30 : Int) (t31 : Int) :
    den (B0.env call 6 Try.f6 [] rec_) 100000 true (stk Try.f6.body 4) (putXs [.p 2 [none, none, none], .p 3 [none, none, none], .t 30, .t 31] [.box [.pl ⟨.int .i64, a2_0⟩, .pl ⟨.sl spanRow, a2_1⟩, .pl ⟨.pats, a2_2⟩], .box [.pl ⟨.int .i64, b3_0⟩, .pl ⟨.sl spanRow, b3_1⟩, .pl ⟨.pats, b3_2⟩], .val (.cell (.int .i64) t30 false), .val (.cell (.int .i64) t31 false)] S.zero) = ref05_Same.t4 call rec_ a2_0 a2_1 a2_2 b3_0 b3_1 b3_2 t30 t31 := by kernel_rfl
theorem ref05_Same.s4 (call : B0.Call) (j : Nat) (a2_0 : Int) (a2_1 : List (Int × Int)) (a2_2 : List Pat) (b3_0 : Int) (b3_1 : List (Int × Int)) (b3_2 : List Pat) (t30 : Int) (t31 : Int) : ref05_Same.l4 (ref05_Same.R call (j + 1)) a2_0 a2_1 a2_2 b3_0 b3_1 b3_2 t30 t31 = ref05_Same.t4 call (ref05_Same.R call j) a2_0 a2_1 a2_2 b3_0 b3_1 b3_2 t30 t31 :=
  (goOn_eq B0 (by kernel_rfl) rfl call [] j _).trans (ref05_Same.e4 _ _ a2_0 a2_1 a2_2 b3_0 b3_1 b3_2 t30 t31)
/- 7: ref05_Match -/
noncomputable def ref05_Match.R (call : B0.Call) (j : Nat) : B0.Rec 7 := B0.goOn call 7 Try.f7 [] j
noncomputable def ref05_Match.t (call : B0.Call) (rec_ : B0.Rec 7) (p0_0 : Int) (p0_1 : List (Int × Int)) (p0_2 : List Pat) (path1 : List Int) : Option Bool :=
  bif (((decide (0 ≤ (IntKind.wrap .i64 (((List.length path1) : Int) + 1)))) && (decide ((IntKind.wrap .i64 (((List.length path1) : Int) + 1)) ≤ (IntKind.wrap .i64 (((List.length path1) : Int) + 1))))) && (decide (((IntKind.wrap .i64 (((List.length path1) : Int) + 1)) * (1 : Int)) < 70368744177664))) then
   bif (inB (List.length (List.replicate (Int.toNat (IntKind.wrap .i64 (((List.length path1) : Int) + 1))) false)) 0) then
    Option.bind (idx (List.replicate (Int.toNat (IntKind.wrap .i64 (((List.length path1) : Int) + 1))) false) 0) fun r0 =>
    Option.bind (ref05_ends.C call p0_0 p0_1 p0_2 path1 (List.set (List.replicate (Int.toNat (IntKind.wrap .i64 (((List.length path1) : Int) + 1))) false) (Int.toNat 0) true)) fun r1 =>
    bif (inB (List.length r1) ((List.length path1) : Int)) then
     Option.bind (idx r1 ((List.length path1) : Int)) fun r2 =>
     some r2
    else
     none
   else
    none
  else
   none
theorem ref05_Match.e (call : B0.Call) (rec_ : B0.Rec 7) (p0_0 : Int) (p0_1 : List (Int × Int)) (p0_2 : List Pat) (path1 : List Int) :
    den (B0.env call 7 Try.f7 [] rec_) 100000 false (bodyOf Try.f7.body) (entryS 0 [.agg [⟨.int .i64, p0_0⟩, ⟨.sl spanRow, p0_1⟩, ⟨.pats, p0_2⟩], .cell (.sl (.one (.int .u32))) path1 true] S.zero).1 = ref05_Match.t call rec_ p0_0 p0_1 p0_2 path1 := by kernel_rfl
theorem ref05_Match.s (k : Nat) (p0_0 : Int) (p0_1 : List (Int × Int)) (p0_2 : List Pat) (path1 : List Int) : ref05_Match.C (B0.call (k + 1)) p0_0 p0_1 p0_2 path1 = ref05_Match.t (B0.call k) (ref05_Match.R (B0.call k) k) p0_0 p0_1 p0_2 path1 :=
  (call_eq B0 rfl Try.func7 (by kernel_rfl) k _).trans (ref05_Match.e _ _ p0_0 p0_1 p0_2 path1)
/- 8: jpat_tokens -/
noncomputable def jpat_tokens.R (call : B0.Call) (j : Nat) : B0.Rec 8 := B0.goOn call 8 Try.f8 [] j
noncomputable def jpat_tokens.l3 (rec_ : B0.Rec 8) (s0 : List UInt8) (out3 : List (Int × Int)) (i4 : Int) : Option (List (Int × Int)) := rec_ (stk Try.f8.body 3) [.val (.cell (.str) s0 false), .own 49 (.sl (.cons (.int .u8) (.one (.int .u64)))) out3, .val (.cell (.int .i64) i4 false)]
noncomputable def jpat_tokens.l13 (rec_ : B0.Rec 8) (s0 : List UInt8) (out3 : List (Int × Int)) (i4 : Int) (c5 : Int) (n6 : Int) (from7 : Int) : Option (List (Int × Int)) := rec_ (stk Try.f8.body 13) [.val (.cell (.str) s0 false), .own 49 (.sl (.cons (.int .u8) (.one (.int .u64)))) out3, .val (.cell (.int .i64) i4 false), .val (.cell (.int .u8) c5 false), .val (.cell (.int .u64) n6 false), .val (.cell (.int .i64) from7 false)]
noncomputable def jpat_tokens.t (call : B0.Call) (rec_ : B0.Rec 8) (s0 : List UInt8) : Option (List (Int × Int)) :=
  jpat_tokens.l3 rec_ s0 [] 0
noncomputable def jpat_tokens.t3 (call : B0.Call) (rec_ : B0.Rec 8) (s0 : List UInt8) (out3 : List (Int × Int)) (i4 : Int) : Option (List (Int × Int)) :=
  bif (i4 == ((List.length s0) : Int)) then
   bif ((room ((List.length out3) + (List.length ((101, 0) :: []))) 16) && (((true && true) && true) && true)) then
    some (out3 ++ ((101, 0) :: []))
   else
    none
  else
   Option.bind (idx s0 i4) fun r0 =>
   bif (((UInt8.toNat r0) : Int) == 32) then
    jpat_tokens.l3 rec_ s0 out3 (IntKind.wrap .i64 (i4 + 1))
   else
    Option.bind (strings_IndexByte.C call (124 :: (40 :: (41 :: (45 :: (46 :: (33 :: (42 :: (43 :: (63 :: (123 :: (125 :: (44 :: [])))))))))))) ((UInt8.toNat r0) : Int)) fun r1 =>
    bif (decide (r1 ≥ 0)) then
     bif ((room ((List.length out3) + (List.length ((((UInt8.toNat r0) : Int), 0) :: []))) 16) && (((true && true) && true) && true)) then
      jpat_tokens.l3 rec_ s0 (out3 ++ ((((UInt8.toNat r0) : Int), 0) :: [])) (IntKind.wrap .i64 (i4 + 1))
     else
      none
    else
     bif (decide (((UInt8.toNat r0) : Int) ≥ 48)) then
      bif (decide (((UInt8.toNat r0) : Int) ≤ 57)) then
       jpat_tokens.l13 rec_ s0 out3 (IntKind.wrap .i64 (i4 + 1)) ((UInt8.toNat r0) : Int) (IntKind.wrap .u64 (IntKind.wrap .u8 (((UInt8.toNat r0) : Int) - 48))) (IntKind.wrap .i64 ((IntKind.wrap .i64 (i4 + 1)) - 1))
      else
       bif ((room ((List.length out3) + (List.length ((120, 0) :: []))) 16) && (((true && true) && true) && true)) then
        jpat_tokens.l3 rec_ s0 (out3 ++ ((120, 0) :: [])) (IntKind.wrap .i64 (i4 + 1))
       else
        none
     else
      bif ((room ((List.length out3) + (List.length ((120, 0) :: []))) 16) && (((true && true) && true) && true)) then
       jpat_tokens.l3 rec_ s0 (out3 ++ ((120, 0) :: [])) (IntKind.wrap .i64 (i4 + 1))
      else
       none
noncomputable def jpat_tokens.t13 (call : B0.Call) (rec_ : B0.Rec 8) (s0 : List UInt8) (out3 : List (Int × Int)) (i4 : Int) (c5 : Int) (n6 : Int) (from7 : Int) : Option (List (Int × Int)) :=
  bif (decide (i4 < ((List.length s0) : Int))) then
   Option.bind (idx s0 i4) fun r0 =>
   bif (decide (((UInt8.toNat r0) : Int) ≥ 48)) then
    Option.bind (idx s0 i4) fun r1 =>
    bif (decide (((UInt8.toNat r1) : Int) ≤ 57)) then
     Option.bind (idx s0 i4) fun r2 =>
     jpat_tokens.l13 rec_ s0 out3 (IntKind.wrap .i64 (i4 + 1)) c5 (minI (IntKind.wrap .u64 ((IntKind.wrap .u64 (n6 * 10)) + (IntKind.wrap .u64 (IntKind.wrap .u8 (((UInt8.toNat r2) : Int) - 48))))) 4294967296) from7
    else
     bif (c5 == 48) then
      bif (decide ((IntKind.wrap .i64 (i4 - from7)) > 1)) then
       bif ((room ((List.length out3) + (List.length ((120, 0) :: []))) 16) && (((true && true) && true) && true)) then
        jpat_tokens.l3 rec_ s0 (out3 ++ ((120, 0) :: [])) i4
       else
        none
      else
       bif ((room ((List.length out3) + (List.length ((110, n6) :: []))) 16) && (((true && true) && true) && true)) then
        jpat_tokens.l3 rec_ s0 (out3 ++ ((110, n6) :: [])) i4
       else
        none
     else
      bif ((room ((List.length out3) + (List.length ((110, n6) :: []))) 16) && (((true && true) && true) && true)) then
       jpat_tokens.l3 rec_ s0 (out3 ++ ((110, n6) :: [])) i4
      else
       none
   else
    bif (c5 == 48) then
     bif (decide ((IntKind.wrap .i64 (i4 - from7)) > 1)) then
      bif ((room ((List.length out3) + (List.length ((120, 0) :: []))) 16) && (((true && true) && true) && true)) then
       jpat_tokens.l3 rec_ s0 (out3 ++ ((120, 0) :: [])) i4
      else
       none
     else
      bif ((room ((List.length out3) + (List.length ((110, n6) :: []))) 16) && (((true && true) && true) && true)) then
       jpat_tokens.l3 rec_ s0 (out3 ++ ((110, n6) :: [])) i4
      else
       none
    else
     bif ((room ((List.length out3) + (List.length ((110, n6) :: []))) 16) && (((true && true) && true) && true)) then
      jpat_tokens.l3 rec_ s0 (out3 ++ ((110, n6) :: [])) i4
     else
      none
  else
   bif (c5 == 48) then
    bif (decide ((IntKind.wrap .i64 (i4 - from7)) > 1)) then
     bif ((room ((List.length out3) + (List.length ((120, 0) :: []))) 16) && (((true && true) && true) && true)) then
      jpat_tokens.l3 rec_ s0 (out3 ++ ((120, 0) :: [])) i4
     else
      none
    else
     bif ((room ((List.length out3) + (List.length ((110, n6) :: []))) 16) && (((true && true) && true) && true)) then
      jpat_tokens.l3 rec_ s0 (out3 ++ ((110, n6) :: [])) i4
     else
      none
   else
    bif ((room ((List.length out3) + (List.length ((110, n6) :: []))) 16) && (((true && true) && true) && true)) then
     jpat_tokens.l3 rec_ s0 (out3 ++ ((110, n6) :: [])) i4
    else
     none
theorem jpat_tokens.e (call : B0.Call) (rec_ : B0.Rec 8) (s0 : List UInt8) :
    den (B0.env call 8 Try.f8 [] rec_) 100000 false (bodyOf Try.f8.body) (entryS 0 [.cell (.str) s0 false] S.zero).1 = jpat_tokens.t call rec_ s0 := by kernel_rfl
theorem jpat_tokens.s (k : Nat) (s0 : List UInt8) : jpat_tokens.C (B0.call (k + 1)) s0 = jpat_tokens.t (B0.call k) (jpat_tokens.R (B0.call k) k) s0 :=
  (call_eq B0 rfl Try.func8 (by kernel_rfl) k _).trans (jpat_tokens.e _ _ s0)
theorem jpat_tokens.e3 (call : B0.Call) (rec_ : B0.Rec 8) (s0 : List UInt8) (out3 : List (Int × Int)) (i4 : Int) :
    den (B0.env call 8 Try.f8 [] rec_) 100000 true (stk Try.f8.body 3) (putXs [.t 0, .o 3 49, .t 4] [.val (.cell (.str) s0 false), .own 49 (.sl (.cons (.int .u8) (.one (.int .u64)))) out3, .val (.cell (.int .i64) i4 false)] S.zero) = jpat_tokens.t3 call rec_ s0 out3 i4 := by kernel_rfl
theorem jpat_tokens.s3 (call : B0.Call) (j : Nat) (s0 : List UInt8) (out3 : List (Int × Int)) (i4 : Int) : jpat_tokens.l3 (jpat_tokens.R call (j + 1)) s0 out3 i4 = jpat_tokens.t3 call (jpat_tokens.R call j) s0 out3 i4 :=
  (goOn_eq B0 (by kernel_rfl) rfl call [] j _).trans (jpat_tokens.e3 _ _ s0 out3 i4)
theorem jpat_tokens.e13 (call : B0.Call) (rec_ : B0.Rec 8) (s0 : List UInt8) (out3 : List (Int × Int)) (i4 : Int) (c5 : Int) (n6 : Int) (from7 : Int) :
    den (B0.env call 8 Try.f8 [] rec_) 100000 true (stk Try.f8.body 13) (putXs [.t 0, .o 3 49, .t 4, .t 5, .t 6, .t 7] [.val (.cell (.str) s0 false), .own 49 (.sl (.cons (.int .u8) (.one (.int .u64)))) out3, .val (.cell (.int .i64) i4 false), .val (.cell (.int .u8) c5 false), .val (.cell (.int .u64) n6 false), .val (.cell (.int .i64) from7 false)] S.zero) = jpat_tokens.t13 call rec_ s0 out3 i4 c5 n6 from7 := by kernel_rfl
theorem jpat_tokens.s13 (call : B0.Call) (j : Nat) (s0 : List UInt8) (out3 : List (Int × Int)) (i4 : Int) (c5 : Int) (n6 : Int) (from7 : Int) : jpat_tokens.l13 (jpat_tokens.R call (j + 1)) s0 out3 i4 c5 n6 from7 = jpat_tokens.t13 call (jpat_tokens.R call j) s0 out3 i4 c5 n6 from7 :=
  (goOn_eq B0 (by kernel_rfl) rfl call [] j _).trans (jpat_tokens.e13 _ _ s0 out3 i4 c5 n6 from7)
/- 9: jpat_parser_pattern -/
noncomputable def jpat_parser_pattern.R (call : B0.Call) (j : Nat) : B0.Rec 9 := B0.goOn call 9 Try.f9 [0] j
noncomputable def jpat_parser_pattern.l2 (rec_ : B0.Rec 9) (p0_0 : List (Int × Int)) (p0_1 : Bool) (p0_2 : Bool) (p0_3 : Bool) (t2_0 : Int) (t2_1 : List (Int × Int)) (t2_2 : List Pat) (l3 : List Pat) : Option (Int × (List (Int × Int)) × (List Pat) × (List (Int × Int)) × Bool × Bool × Bool) := rec_ (stk Try.f9.body 2) [.box [.pl ⟨.sl (.cons (.int .u8) (.one (.int .u64))), p0_0⟩, .pl ⟨.bool, p0_1⟩, .pl ⟨.bool, p0_2⟩, .pl ⟨.bool, p0_3⟩], .box [.pl ⟨.int .i64, t2_0⟩, .pl ⟨.sl spanRow, t2_1⟩, .ow 26 ⟨.pats, t2_2⟩], .own 26 (.pats) l3]
noncomputable def jpat_parser_pattern.t (call : B0.Call) (rec_ : B0.Rec 9) (p0_0 : List (Int × Int)) (p0_1 : Bool) (p0_2 : Bool) (p0_3 : Bool) : Option (Int × (List (Int × Int)) × (List Pat) × (List (Int × Int)) × Bool × Bool × Bool) :=
  Option.bind (jpat_parser_cat.C call p0_0 p0_1 p0_2 p0_3) fun r0 =>
  jpat_parser_pattern.l2 rec_ r0.2.2.2.1 r0.2.2.2.2.1 r0.2.2.2.2.2.1 r0.2.2.2.2.2.2 0 [] [] ((Pat.mk r0.1 r0.2.1 r0.2.2.1) :: [])
noncomputable def jpat_parser_pattern.t2 (call : B0.Call) (rec_ : B0.Rec 9) (p0_0 : List (Int × Int)) (p0_1 : Bool) (p0_2 : Bool) (p0_3 : Bool) (t2_0 : Int) (t2_1 : List (Int × Int)) (t2_2 : List Pat) (l3 : List Pat) : Option (Int × (List (Int × Int)) × (List Pat) × (List (Int × Int)) × Bool × Bool × Bool) :=
  bif (!p0_1) then
   Option.bind (jpat_parser_take.C call p0_0 p0_1 p0_2 p0_3 124) fun r0 =>
   bif r0.1 then
    Option.bind (jpat_parser_cat.C call r0.2.1 r0.2.2.1 r0.2.2.2.1 r0.2.2.2.2) fun r1 =>
    bif ((room ((List.length l3) + (List.length ((Pat.mk r1.1 r1.2.1 r1.2.2.1) :: []))) 56) && (((true && true) && true) && true)) then
     jpat_parser_pattern.l2 rec_ r1.2.2.2.1 r1.2.2.2.2.1 r1.2.2.2.2.2.1 r1.2.2.2.2.2.2 t2_0 t2_1 t2_2 (l3 ++ ((Pat.mk r1.1 r1.2.1 r1.2.2.1) :: []))
    else
     none
   else
    Option.bind (jpat_parser_many.C call r0.2.1 r0.2.2.1 r0.2.2.2.1 r0.2.2.2.2 3 l3) fun r1 =>
    some (r1.1, (r1.2.1, (r1.2.2.1, (r1.2.2.2.1, (r1.2.2.2.2.1, (r1.2.2.2.2.2.1, r1.2.2.2.2.2.2))))))
  else
   Option.bind (jpat_parser_many.C call p0_0 p0_1 p0_2 p0_3 3 l3) fun r0 =>
   some (r0.1, (r0.2.1, (r0.2.2.1, (r0.2.2.2.1, (r0.2.2.2.2.1, (r0.2.2.2.2.2.1, r0.2.2.2.2.2.2))))))
theorem jpat_parser_pattern.e (call : B0.Call) (rec_ : B0.Rec 9) (p0_0 : List (Int × Int)) (p0_1 : Bool) (p0_2 : Bool) (p0_3 : Bool) :
    den (B0.env call 9 Try.f9 [0] rec_) 100000 false (bodyOf Try.f9.body) (entryS 0 [.box [.pl ⟨.sl (.cons (.int .u8) (.one (.int .u64))), p0_0⟩, .pl ⟨.bool, p0_1⟩, .pl ⟨.bool, p0_2⟩, .pl ⟨.bool, p0_3⟩]] S.zero).1 = jpat_parser_pattern.t call rec_ p0_0 p0_1 p0_2 p0_3 := by kernel_rfl
theorem jpat_parser_pattern.s (k : Nat) (p0_0 : List (Int × Int)) (p0_1 : Bool) (p0_2 : Bool) (p0_3 : Bool) : jpat_parser_pattern.C (B0.call (k + 1)) p0_0 p0_1 p0_2 p0_3 = jpat_parser_pattern.t (B0.call k) (jpat_parser_pattern.R (B0.call k) k) p0_0 p0_1 p0_2 p0_3 :=
  (call_eq B0 rfl Try.func9 (by kernel_rfl) k _).trans (jpat_parser_pattern.e _ _ p0_0 p0_1 p0_2 p0_3)
theorem jpat_parser_pattern.e2 (call : B0.Call) (rec_ : B0.Rec 9) (p0_0 : List (Int × Int)) (p0_1 : Bool) (p0_2 : Bool) (p0_3 : Bool) (t2_0 : Int) (t2_1 : List (Int × Int)) (t2_2 : List Pat) (l3 : List Pat) :
    den (B0.env call 9 Try.f9 [0] rec_) 100000 true (stk Try.f9.body 2) (putXs [.p 0 [none, none, none, none], .p 2 [none, none, some 26], .o 3 26] [.box [.pl ⟨.sl (.cons (.int .u8) (.one (.int .u64))), p0_0⟩, .pl ⟨.bool, p0_1⟩, .pl ⟨.bool, p0_2⟩, .pl ⟨.bool, p0_3⟩], .box [.pl ⟨.int .i64, t2_0⟩, .pl ⟨.sl spanRow, t2_1⟩, .ow 26 ⟨.pats, t2_2⟩], .own 26 (.pats) l3] S.zero) = jpat_parser_pattern.t2 call rec_ p0_0 p0_1 p0_2 p0_3 t2_0 t2_1 t2_2 l3 := by kernel_rfl
theorem jpat_parser_pattern.s2 (call : B0.Call) (j : Nat) (p0_0 : List (Int × Int)) (p0_1 : Bool) (p0_2 : Bool) (p0_3 : Bool) (t2_0 : Int) (t2_1 : List (Int × Int)) (t2_2 : List Pat) (l3 : List Pat) : jpat_parser_pattern.l2 (jpat_parser_pattern.R call (j + 1)) p0_0 p0_1 p0_2 p0_3 t2_0 t2_1 t2_2 l3 = jpat_parser_pattern.t2 call (jpat_parser_pattern.R call j) p0_0 p0_1 p0_2 p0_3 t2_0 t2_1 t2_2 l3 :=
  (goOn_eq B0 (by kernel_rfl) rfl call [0] j _).trans (jpat_parser_pattern.e2 _ _ p0_0 p0_1 p0_2 p0_3 t2_0 t2_1 t2_2 l3)
/- 10: jpat_parser_is -/
noncomputable def jpat_parser_is.R (call : B0.Call) (j : Nat) : B0.Rec 10 := B0.goOn call 10 Try.f10 [0] j
noncomputable def jpat_parser_is.t (call : B0.Call) (rec_ : B0.Rec 10) (p0_0 : List (Int × Int)) (p0_1 : Bool) (p0_2 : Bool) (p0_3 : Bool) (kind1 : Int) : Option (Bool × (List (Int × Int)) × Bool × Bool × Bool) :=
  Option.bind (idx p0_0 0) fun r0 =>
  some ((r0.1 == kind1), (p0_0, (p0_1, (p0_2, p0_3))))
theorem jpat_parser_is.e (call : B0.Call) (rec_ : B0.Rec 10) (p0_0 : List (Int × Int)) (p0_1 : Bool) (p0_2 : Bool) (p0_3 : Bool) (kind1 : Int) :
    den (B0.env call 10 Try.f10 [0] rec_) 100000 false (bodyOf Try.f10.body) (entryS 0 [.box [.pl ⟨.sl (.cons (.int .u8) (.one (.int .u64))), p0_0⟩, .pl ⟨.bool, p0_1⟩, .pl ⟨.bool, p0_2⟩, .pl ⟨.bool, p0_3⟩], .cell (.int .u8) kind1 false] S.zero).1 = jpat_parser_is.t call rec_ p0_0 p0_1 p0_2 p0_3 kind1 := by kernel_rfl
theorem jpat_parser_is.s (k : Nat) (p0_0 : List (Int × Int)) (p0_1 : Bool) (p0_2 : Bool) (p0_3 : Bool) (kind1 : Int) : jpat_parser_is.C (B0.call (k + 1)) p0_0 p0_1 p0_2 p0_3 kind1 = jpat_parser_is.t (B0.call k) (jpat_parser_is.R (B0.call k) k) p0_0 p0_1 p0_2 p0_3 kind1 :=
  (call_eq B0 rfl Try.func10 (by kernel_rfl) k _).trans (jpat_parser_is.e _ _ p0_0 p0_1 p0_2 p0_3 kind1)
/- 11: pat_Right -/
noncomputable def pat_Right.R (call : B0.Call) (j : Nat) : B0.Rec 11 := B0.goOn call 11 Try.f11 [] j
noncomputable def pat_Right.t (call : B0.Call) (rec_ : B0.Rec 11) (p0_0 : Int) (p0_1 : List (Int × Int)) (p0_2 : List Pat) : Option Bool :=
  Option.bind (pat_Size.C call p0_0 p0_1 p0_2) fun r0 =>
  bif (decide (r0.1 ≤ 200)) then
   bif (decide (r0.2 ≤ 40)) then
    Option.bind (pat_fits.C call p0_0 p0_1 p0_2) fun r1 =>
    some r1
   else
    some false
  else
   some false
theorem pat_Right.e (call : B0.Call) (rec_ : B0.Rec 11) (p0_0 : Int) (p0_1 : List (Int × Int)) (p0_2 : List Pat) :
    den (B0.env call 11 Try.f11 [] rec_) 100000 false (bodyOf Try.f11.body) (entryS 0 [.agg [⟨.int .i64, p0_0⟩, ⟨.sl spanRow, p0_1⟩, ⟨.pats, p0_2⟩]] S.zero).1 = pat_Right.t call rec_ p0_0 p0_1 p0_2 := by kernel_rfl
theorem pat_Right.s (k : Nat) (p0_0 : Int) (p0_1 : List (Int × Int)) (p0_2 : List Pat) : pat_Right.C (B0.call (k + 1)) p0_0 p0_1 p0_2 = pat_Right.t (B0.call k) (pat_Right.R (B0.call k) k) p0_0 p0_1 p0_2 :=
  (call_eq B0 rfl Try.func11 (by kernel_rfl) k _).trans (pat_Right.e _ _ p0_0 p0_1 p0_2)
/- 12: jpat_own -/
noncomputable def jpat_own.R (call : B0.Call) (j : Nat) : B0.Rec 12 := B0.goOn call 12 Try.f12 [] j
noncomputable def jpat_own.l3 (rec_ : B0.Rec 12) (t2_0 : Int) (t2_1 : List (Int × Int)) (t2_2 : List Pat) (out3_0 : Int) (out3_1 : List (Int × Int)) (out3_2 : List Pat) (t14 : List Pat) (t15 : Int) (t16 : Int) : Option (Int × (List (Int × Int)) × (List Pat)) := rec_ (stk Try.f12.body 3) [.box [.pl ⟨.int .i64, t2_0⟩, .ow 55 ⟨.sl spanRow, t2_1⟩, .ow 26 ⟨.pats, t2_2⟩], .box [.pl ⟨.int .i64, out3_0⟩, .pl ⟨.sl spanRow, out3_1⟩, .ow 26 ⟨.pats, out3_2⟩], .val (.cell (.pats) t14 false), .val (.cell (.int .i64) t15 false), .val (.cell (.int .i64) t16 false)]
noncomputable def jpat_own.t (call : B0.Call) (rec_ : B0.Rec 12) (x0_0 : Int) (x0_1 : List (Int × Int)) (x0_2 : List Pat) : Option (Int × (List (Int × Int)) × (List Pat)) :=
  bif ((room (0 + (List.length x0_1)) 8) && (((true && true) && true) && true)) then
   jpat_own.l3 rec_ 0 [] [] x0_0 ([] ++ x0_1) [] x0_2 ((List.length x0_2) : Int) 0
  else
   none
noncomputable def jpat_own.t3 (call : B0.Call) (rec_ : B0.Rec 12) (t2_0 : Int) (t2_1 : List (Int × Int)) (t2_2 : List Pat) (out3_0 : Int) (out3_1 : List (Int × Int)) (out3_2 : List Pat) (t14 : List Pat) (t15 : Int) (t16 : Int) : Option (Int × (List (Int × Int)) × (List Pat)) :=
  bif (decide (t16 < t15)) then
   Option.bind (idx t14 t16) fun r0 =>
   Option.bind (jpat_own.C call r0.kind r0.set r0.subs) fun r1 =>
   bif ((room ((List.length out3_2) + (List.length ((Pat.mk r1.1 r1.2.1 r1.2.2) :: []))) 56) && (((true && true) && true) && true)) then
    jpat_own.l3 rec_ t2_0 t2_1 t2_2 out3_0 out3_1 (out3_2 ++ ((Pat.mk r1.1 r1.2.1 r1.2.2) :: [])) t14 t15 (IntKind.wrap .i64 (t16 + 1))
   else
    none
  else
   some (out3_0, (out3_1, out3_2))
theorem jpat_own.e (call : B0.Call) (rec_ : B0.Rec 12) (x0_0 : Int) (x0_1 : List (Int × Int)) (x0_2 : List Pat) :
    den (B0.env call 12 Try.f12 [] rec_) 100000 false (bodyOf Try.f12.body) (entryS 0 [.agg [⟨.int .i64, x0_0⟩, ⟨.sl spanRow, x0_1⟩, ⟨.pats, x0_2⟩]] S.zero).1 = jpat_own.t call rec_ x0_0 x0_1 x0_2 := by kernel_rfl
theorem jpat_own.s (k : Nat) (x0_0 : Int) (x0_1 : List (Int × Int)) (x0_2 : List Pat) : jpat_own.C (B0.call (k + 1)) x0_0 x0_1 x0_2 = jpat_own.t (B0.call k) (jpat_own.R (B0.call k) k) x0_0 x0_1 x0_2 :=
  (call_eq B0 rfl Try.func12 (by kernel_rfl) k _).trans (jpat_own.e _ _ x0_0 x0_1 x0_2)
theorem jpat_own.e3 (call : B0.Call) (rec_ : B0.Rec 12) (t2_0 : Int) (t2_1 : List (Int × Int)) (t2_2 : List Pat) (out3_0 : Int) (out3_1 : List (Int × Int)) (out3_2 : List Pat) (t14 : List Pat) (t15 : Int) (t16 : Int) :
    den (B0.env call 12 Try.f12 [] rec_) 100000 true (stk Try.f12.body 3) (putXs [.p 2 [none, some 55, some 26], .p 3 [none, none, some 26], .t 14, .t 15, .t 16] [.box [.pl ⟨.int .i64, t2_0⟩, .ow 55 ⟨.sl spanRow, t2_1⟩, .ow 26 ⟨.pats, t2_2⟩], .box [.pl ⟨.int .i64, out3_0⟩, .pl ⟨.sl spanRow, out3_1⟩, .ow 26 ⟨.pats, out3_2⟩], .val (.cell (.pats) t14 false), .val (.cell (.int .i64) t15 false), .val (.cell (.int .i64) t16 false)] S.zero) = jpat_own.t3 call rec_ t2_0 t2_1 t2_2 out3_0 out3_1 out3_2 t14 t15 t16 := by kernel_rfl
theorem jpat_own.s3 (call : B0.Call) (j : Nat) (t2_0 : Int) (t2_1 : List (Int × Int)) (t2_2 : List Pat) (out3_0 : Int) (out3_1 : List (Int × Int)) (out3_2 : List Pat) (t14 : List Pat) (t15 : Int) (t16 : Int) : jpat_own.l3 (jpat_own.R call (j + 1)) t2_0 t2_1 t2_2 out3_0 out3_1 out3_2 t14 t15 t16 = jpat_own.t3 call (jpat_own.R call j) t2_0 t2_1 t2_2 out3_0 out3_1 out3_2 t14 t15 t16 :=
  (goOn_eq B0 (by kernel_rfl) rfl call [] j _).trans (jpat_own.e3 _ _ t2_0 t2_1 t2_2 out3_0 out3_1 out3_2 t14 t15 t16)
/- 13: ref01_Same -/
noncomputable def ref01_Same.R (call : B0.Call) (j : Nat) : B0.Rec 13 := B0.goOn call 13 Try.f13 [] j
noncomputable def ref01_Same.l4 (rec_ : B0.Rec 13) (a0 : List (Int × Int)) (b1 : List (Int × Int)) (t12 : Int) (t13 : Int) : Option Bool := rec_ (stk Try.f13.body 4) [.val (.cell (.sl spanRow) a0 false), .val (.cell (.sl spanRow) b1 false), .val (.cell (.int .i64) t12 false), .val (.cell (.int .i64) t13 false)]
noncomputable def ref01_Same.t (call : B0.Call) (rec_ : B0.Rec 13) (a0 : List (Int × Int)) (b1 : List (Int × Int)) : Option Bool :=
  bif (((List.length a0) : Int) != ((List.length b1) : Int)) then
   some false
  else
   ref01_Same.l4 rec_ a0 b1 ((List.length a0) : Int) 0
noncomputable def ref01_Same.t4 (call : B0.Call) (rec_ : B0.Rec 13) (a0 : List (Int × Int)) (b1 : List (Int × Int)) (t12 : Int) (t13 : Int) : Option Bool :=
  bif (decide (t13 < t12)) then
   Option.bind (idx a0 t13) fun r0 =>
   Option.bind (idx b1 t13) fun r1 =>
   bif (!((eqI r0.1 r1.1) && ((eqI r0.2 r1.2) && true))) then
    some false
   else
    ref01_Same.l4 rec_ a0 b1 t12 (IntKind.wrap .i64 (t13 + 1))
  else
   some true
theorem ref01_Same.e (call : B0.Call) (rec_ : B0.Rec 13) (a0 : List (Int × Int)) (b1 : List (Int × Int)) :
    den (B0.env call 13 Try.f13 [] rec_) 100000 false (bodyOf Try.f13.body) (entryS 0 [.cell (.sl spanRow) a0 false, .cell (.sl spanRow) b1 false] S.zero).1 = ref01_Same.t call rec_ a0 b1 := by kernel_rfl
theorem ref01_Same.s (k : Nat) (a0 : List (Int × Int)) (b1 : List (Int × Int)) : ref01_Same.C (B0.call (k + 1)) a0 b1 = ref01_Same.t (B0.call k) (ref01_Same.R (B0.call k) k) a0 b1 :=
  (call_eq B0 rfl Try.func13 (by kernel_rfl) k _).trans (ref01_Same.e _ _ a0 b1)
theorem ref01_Same.e4 (call : B0.Call) (rec_ : B0.Rec 13) (a0 : List (Int × Int)) (b1 : List (Int × Int)) (t12 : Int) (t13 : Int) :
    den (B0.env call 13 Try.f13 [] rec_) 100000 true (stk Try.f13.body 4) (putXs [.t 0, .t 1, .t 12, .t 13] [.val (.cell (.sl spanRow) a0 false), .val (.cell (.sl spanRow) b1 false), .val (.cell (.int .i64) t12 false), .val (.cell (.int .i64) t13 false)] S.zero) = ref01_Same.t4 call rec_ a0 b1 t12 t13 := by kernel_rfl
theorem ref01_Same.s4 (call : B0.Call) (j : Nat) (a0 : List (Int × Int)) (b1 : List (Int × Int)) (t12 : Int) (t13 : Int) : ref01_Same.l4 (ref01_Same.R call (j + 1)) a0 b1 t12 t13 = ref01_Same.t4 call (ref01_Same.R call j) a0 b1 t12 t13 :=
  (goOn_eq B0 (by kernel_rfl) rfl call [] j _).trans (ref01_Same.e4 _ _ a0 b1 t12 t13)
/- 14: ref05_ends -/
noncomputable def ref05_ends.R (call : B0.Call) (j : Nat) : B0.Rec 14 := B0.goOn call 14 Try.f14 [] j
noncomputable def ref05_ends.l30 (rec_ : B0.Rec 14) (path1 : List Int) (p3_0 : Int) (p3_1 : List (Int × Int)) (p3_2 : List Pat) (out7 : List Bool) (more16 : Bool) : Option (List Bool) := rec_ (stk Try.f14.body 30) [.val (.cell (.sl (.one (.int .u32))) path1 true), .box [.pl ⟨.int .i64, p3_0⟩, .pl ⟨.sl spanRow, p3_1⟩, .pl ⟨.pats, p3_2⟩], .own 4 (.sl (.one (.bool))) out7, .val (.cell (.bool) more16 false)]
noncomputable def ref05_ends.l33 (rec_ : B0.Rec 14) (path1 : List Int) (p3_0 : Int) (p3_1 : List (Int × Int)) (p3_2 : List Pat) (out7 : List Bool) (more16 : Bool) (t108 : List Bool) (t109 : Int) (t110 : Int) : Option (List Bool) := rec_ (stk Try.f14.body 33) [.val (.cell (.sl (.one (.int .u32))) path1 true), .box [.pl ⟨.int .i64, p3_0⟩, .pl ⟨.sl spanRow, p3_1⟩, .pl ⟨.pats, p3_2⟩], .own 4 (.sl (.one (.bool))) out7, .val (.cell (.bool) more16 false), .own 4 (.sl (.one (.bool))) t108, .val (.cell (.int .i64) t109 false), .val (.cell (.int .i64) t110 false)]
noncomputable def ref05_ends.l19 (rec_ : B0.Rec 14) (path1 : List Int) (at2 : List Bool) (out7 : List Bool) (t68 : List Pat) (t69 : Int) (t70 : Int) : Option (List Bool) := rec_ (stk Try.f14.body 19) [.val (.cell (.sl (.one (.int .u32))) path1 true), .val (.cell (.sl (.one (.bool))) at2 true), .own 4 (.sl (.one (.bool))) out7, .val (.cell (.pats) t68 false), .val (.cell (.int .i64) t69 false), .val (.cell (.int .i64) t70 false)]
noncomputable def ref05_ends.l22 (rec_ : B0.Rec 14) (path1 : List Int) (at2 : List Bool) (out7 : List Bool) (t68 : List Pat) (t69 : Int) (t70 : Int) (t77 : List Bool) (t78 : Int) (t79 : Int) : Option (List Bool) := rec_ (stk Try.f14.body 22) [.val (.cell (.sl (.one (.int .u32))) path1 true), .val (.cell (.sl (.one (.bool))) at2 true), .own 4 (.sl (.one (.bool))) out7, .val (.cell (.pats) t68 false), .val (.cell (.int .i64) t69 false), .val (.cell (.int .i64) t70 false), .own 4 (.sl (.one (.bool))) t77, .val (.cell (.int .i64) t78 false), .val (.cell (.int .i64) t79 false)]
noncomputable def ref05_ends.l13 (rec_ : B0.Rec 14) (path1 : List Int) (out7 : List Bool) (t54 : List Pat) (t55 : Int) (t56 : Int) : Option (List Bool) := rec_ (stk Try.f14.body 13) [.val (.cell (.sl (.one (.int .u32))) path1 true), .own 4 (.sl (.one (.bool))) out7, .val (.cell (.pats) t54 false), .val (.cell (.int .i64) t55 false), .val (.cell (.int .i64) t56 false)]
noncomputable def ref05_ends.l5 (rec_ : B0.Rec 14) (at2 : List Bool) (p3_0 : Int) (p3_1 : List (Int × Int)) (p3_2 : List Pat) (out7 : List Bool) (t26 : List Int) (t27 : Int) (t28 : Int) : Option (List Bool) := rec_ (stk Try.f14.body 5) [.val (.cell (.sl (.one (.bool))) at2 true), .box [.pl ⟨.int .i64, p3_0⟩, .pl ⟨.sl spanRow, p3_1⟩, .pl ⟨.pats, p3_2⟩], .own 4 (.sl (.one (.bool))) out7, .val (.cell (.sl (.one (.int .u32))) t26 true), .val (.cell (.int .i64) t27 false), .val (.cell (.int .i64) t28 false)]
noncomputable def ref05_ends.t (call : B0.Call) (rec_ : B0.Rec 14) (p0_0 : Int) (p0_1 : List (Int × Int)) (p0_2 : List Pat) (path1 : List Int) (at2 : List Bool) : Option (List Bool) :=
  bif (((decide (0 ≤ ((List.length at2) : Int))) && (decide (((List.length at2) : Int) ≤ ((List.length at2) : Int)))) && (decide ((((List.length at2) : Int) * (1 : Int)) < 70368744177664))) then
   bif (p0_0 == 1) then
    ref05_ends.l5 rec_ at2 p0_0 p0_1 p0_2 (List.replicate (Int.toNat ((List.length at2) : Int)) false) path1 ((List.length path1) : Int) 0
   else
    bif (p0_0 == 2) then
     ref05_ends.l13 rec_ path1 ((List.take (List.length (List.replicate (Int.toNat ((List.length at2) : Int)) false)) at2) ++ (List.drop (List.length at2) (List.replicate (Int.toNat ((List.length at2) : Int)) false))) p0_2 ((List.length p0_2) : Int) 0
    else
     bif (p0_0 == 3) then
      ref05_ends.l19 rec_ path1 at2 (List.replicate (Int.toNat ((List.length at2) : Int)) false) p0_2 ((List.length p0_2) : Int) 0
     else
      bif (p0_0 == 4) then
       ref05_ends.l30 rec_ path1 p0_0 p0_1 p0_2 ((List.take (List.length (List.replicate (Int.toNat ((List.length at2) : Int)) false)) at2) ++ (List.drop (List.length at2) (List.replicate (Int.toNat ((List.length at2) : Int)) false))) true
      else
       some (List.replicate (Int.toNat ((List.length at2) : Int)) false)
  else
   none
noncomputable def ref05_ends.t30 (call : B0.Call) (rec_ : B0.Rec 14) (path1 : List Int) (p3_0 : Int) (p3_1 : List (Int × Int)) (p3_2 : List Pat) (out7 : List Bool) (more16 : Bool) : Option (List Bool) :=
  bif more16 then
   Option.bind (idx p3_2 0) fun r0 =>
   Option.bind (ref05_ends.C call r0.kind r0.set r0.subs path1 out7) fun r1 =>
   ref05_ends.l33 rec_ path1 p3_0 p3_1 p3_2 out7 false r1 ((List.length r1) : Int) 0
  else
   some out7
noncomputable def ref05_ends.t19 (call : B0.Call) (rec_ : B0.Rec 14) (path1 : List Int) (at2 : List Bool) (out7 : List Bool) (t68 : List Pat) (t69 : Int) (t70 : Int) : Option (List Bool) :=
  bif (decide (t70 < t69)) then
   Option.bind (idx t68 t70) fun r0 =>
   Option.bind (ref05_ends.C call r0.kind r0.set r0.subs path1 at2) fun r1 =>
   ref05_ends.l22 rec_ path1 at2 out7 t68 t69 t70 r1 ((List.length r1) : Int) 0
  else
   some out7
noncomputable def ref05_ends.t13 (call : B0.Call) (rec_ : B0.Rec 14) (path1 : List Int) (out7 : List Bool) (t54 : List Pat) (t55 : Int) (t56 : Int) : Option (List Bool) :=
  bif (decide (t56 < t55)) then
   Option.bind (idx t54 t56) fun r0 =>
   Option.bind (ref05_ends.C call r0.kind r0.set r0.subs path1 out7) fun r1 =>
   ref05_ends.l13 rec_ path1 r1 t54 t55 (IntKind.wrap .i64 (t56 + 1))
  else
   some out7
noncomputable def ref05_ends.t5 (call : B0.Call) (rec_ : B0.Rec 14) (at2 : List Bool) (p3_0 : Int) (p3_1 : List (Int × Int)) (p3_2 : List Pat) (out7 : List Bool) (t26 : List Int) (t27 : Int) (t28 : Int) : Option (List Bool) :=
  bif (decide (t28 < t27)) then
   Option.bind (idx t26 t28) fun r0 =>
   Option.bind (idx at2 t28) fun r1 =>
   bif r1 then
    Option.bind (ref01_In.C call p3_1 r0) fun r2 =>
    bif r2 then
     bif (inB (List.length out7) (IntKind.wrap .i64 (t28 + 1))) then
      Option.bind (idx out7 (IntKind.wrap .i64 (t28 + 1))) fun r3 =>
      ref05_ends.l5 rec_ at2 p3_0 p3_1 p3_2 (List.set out7 (Int.toNat (IntKind.wrap .i64 (t28 + 1))) true) t26 t27 (IntKind.wrap .i64 (t28 + 1))
     else
      none
    else
     ref05_ends.l5 rec_ at2 p3_0 p3_1 p3_2 out7 t26 t27 (IntKind.wrap .i64 (t28 + 1))
   else
    ref05_ends.l5 rec_ at2 p3_0 p3_1 p3_2 out7 t26 t27 (IntKind.wrap .i64 (t28 + 1))
  else
   some out7
theorem ref05_ends.e (call : B0.Call) (rec_ : B0.Rec 14) (p0_0 : Int) (p0_1 : List (Int × Int)) (p0_2 : List Pat) (path1 : List Int) (at2 : List Bool) :
    den (B0.env call 14 Try.f14 [] rec_) 100000 false (bodyOf Try.f14.body) (entryS 0 [.agg [⟨.int .i64, p0_0⟩, ⟨.sl spanRow, p0_1⟩, ⟨.pats, p0_2⟩], .cell (.sl (.one (.int .u32))) path1 true, .cell (.sl (.one (.bool))) at2 true] S.zero).1 = ref05_ends.t call rec_ p0_0 p0_1 p0_2 path1 at2 := by kernel_rfl
theorem ref05_ends.s (k : Nat) (p0_0 : Int) (p0_1 : List (Int × Int)) (p0_2 : List Pat) (path1 : List Int) (at2 : List Bool) : ref05_ends.C (B0.call (k + 1)) p0_0 p0_1 p0_2 path1 at2 = ref05_ends.t (B0.call k) (ref05_ends.R (B0.call k) k) p0_0 p0_1 p0_2 path1 at2 :=
  (call_eq B0 rfl Try.func14 (by kernel_rfl) k _).trans (ref05_ends.e _ _ p0_0 p0_1 p0_2 path1 at2)
theorem ref05_ends.e13 (call : B0.Call) (rec_ : B0.Rec 14) (path1 : List Int) (out7 : List Bool) (t54 : List Pat) (t55 : Int) (t56 : Int) :
    den (B0.env call 14 Try.f14 [] rec_) 100000 true (stk Try.f14.body 13) (putXs [.t 1, .o 7 4, .t 54, .t 55, .t 56] [.val (.cell (.sl (.one (.int .u32))) path1 true), .own 4 (.sl (.one (.bool))) out7, .val (.cell (.pats) t54 false), .val (.cell (.int .i64) t55 false), .val (.cell (.int .i64) t56 false)] S.zero) = ref05_ends.t13 call rec_ path1 out7 t54 t55 t56 := by kernel_rfl
theorem ref05_ends.s13 (call : B0.Call) (j : Nat) (path1 : List Int) (out7 : List Bool) (t54 : List Pat) (t55 : Int) (t56 : Int) : ref05_ends.l13 (ref05_ends.R call (j + 1)) path1 out7 t54 t55 t56 = ref05_ends.t13 call (ref05_ends.R call j) path1 out7 t54 t55 t56 :=
  (goOn_eq B0 (by kernel_rfl) rfl call [] j _).trans (ref05_ends.e13 _ _ path1 out7 t54 t55 t56)
theorem ref05_ends.e5 (call : B0.Call) (rec_ : B0.Rec 14) (at2 : List Bool) (p3_0 : Int) (p3_1 : List (Int × Int)) (p3_2 : List Pat) (out7 : List Bool) (t26 : List Int) (t27 : Int) (t28 : Int) :
    den (B0.env call 14 Try.f14 [] rec_) 100000 true (stk Try.f14.body 5) (putXs [.t 2, .p 3 [none, none, none], .o 7 4, .t 26, .t 27, .t 28] [.val (.cell (.sl (.one (.bool))) at2 true), .box [.pl ⟨.int .i64, p3_0⟩, .pl ⟨.sl spanRow, p3_1⟩, .pl ⟨.pats, p3_2⟩], .own 4 (.sl (.one (.bool))) out7, .val (.cell (.sl (.one (.int .u32))) t26 true), .val (.cell (.int .i64) t27 false), .val (.cell (.int .i64) t28 false)] S.zero) = ref05_ends.t5 call rec_ at2 p3_0 p3_1 p3_2 out7 t26 t27 t28 := by kernel_rfl
/- 16: jpat_parser_cat -/
noncomputable def jpat_parser_cat.R (call : B0.Call) (j : Nat) : B0.Rec 16 := B0.goOn call 16 Try.f16 [0] j
noncomputable def jpat_parser_cat.l2 (rec_ : B0.Rec 16) (p0_0 : List (Int × Int)) (p0_1 : Bool) (p0_2 : Bool) (p0_3 : Bool) (t2_0 : Int) (t2_1 : List (Int × Int)) (t2_2 : List Pat) (l3 : List Pat) : Option (Int × (List (Int × Int)) × (List Pat) × (List (Int × Int)) × Bool × Bool × Bool) := rec_ (stk Try.f16.body 2) [.box [.pl ⟨.sl (.cons (.int .u8) (.one (.int .u64))), p0_0⟩, .pl ⟨.bool, p0_1⟩, .pl ⟨.bool, p0_2⟩, .pl ⟨.bool, p0_3⟩], .box [.pl ⟨.int .i64, t2_0⟩, .pl ⟨.sl spanRow, t2_1⟩, .ow 26 ⟨.pats, t2_2⟩], .own 26 (.pats) l3]
noncomputable def jpat_parser_cat.t (call : B0.Call) (rec_ : B0.Rec 16) (p0_0 : List (Int × Int)) (p0_1 : Bool) (p0_2 : Bool) (p0_3 : Bool) : Option (Int × (List (Int × Int)) × (List Pat) × (List (Int × Int)) × Bool × Bool × Bool) :=
  jpat_parser_cat.l2 rec_ p0_0 p0_1 p0_2 p0_3 0 [] [] []
noncomputable def jpat_parser_cat.t2 (call : B0.Call) (rec_ : B0.Rec 16) (p0_0 : List (Int × Int)) (p0_1 : Bool) (p0_2 : Bool) (p0_3 : Bool) (t2_0 : Int) (t2_1 : List (Int × Int)) (t2_2 : List Pat) (l3 : List Pat) : Option (Int × (List (Int × Int)) × (List Pat) × (List (Int × Int)) × Bool × Bool × Bool) :=
  bif (!p0_1) then
   Option.bind (jpat_parser_is.C call p0_0 p0_1 p0_2 p0_3 46) fun r0 =>
   bif r0.1 then
    Option.bind (jpat_parser_item.C call r0.2.1 r0.2.2.1 r0.2.2.2.1 r0.2.2.2.2) fun r1 =>
    bif ((room ((List.length l3) + (List.length ((Pat.mk r1.1 r1.2.1 r1.2.2.1) :: []))) 56) && (((true && true) && true) && true)) then
     jpat_parser_cat.l2 rec_ r1.2.2.2.1 r1.2.2.2.2.1 r1.2.2.2.2.2.1 r1.2.2.2.2.2.2 t2_0 t2_1 t2_2 (l3 ++ ((Pat.mk r1.1 r1.2.1 r1.2.2.1) :: []))
    else
     none
   else
    Option.bind (jpat_parser_is.C call r0.2.1 r0.2.2.1 r0.2.2.2.1 r0.2.2.2.2 33) fun r1 =>
    bif r1.1 then
     Option.bind (jpat_parser_item.C call r1.2.1 r1.2.2.1 r1.2.2.2.1 r1.2.2.2.2) fun r2 =>
     bif ((room ((List.length l3) + (List.length ((Pat.mk r2.1 r2.2.1 r2.2.2.1) :: []))) 56) && (((true && true) && true) && true)) then
      jpat_parser_cat.l2 rec_ r2.2.2.2.1 r2.2.2.2.2.1 r2.2.2.2.2.2.1 r2.2.2.2.2.2.2 t2_0 t2_1 t2_2 (l3 ++ ((Pat.mk r2.1 r2.2.1 r2.2.2.1) :: []))
     else
      none
    else
     Option.bind (jpat_parser_is.C call r1.2.1 r1.2.2.1 r1.2.2.2.1 r1.2.2.2.2 40) fun r2 =>
     bif r2.1 then
      Option.bind (jpat_parser_item.C call r2.2.1 r2.2.2.1 r2.2.2.2.1 r2.2.2.2.2) fun r3 =>
      bif ((room ((List.length l3) + (List.length ((Pat.mk r3.1 r3.2.1 r3.2.2.1) :: []))) 56) && (((true && true) && true) && true)) then
       jpat_parser_cat.l2 rec_ r3.2.2.2.1 r3.2.2.2.2.1 r3.2.2.2.2.2.1 r3.2.2.2.2.2.2 t2_0 t2_1 t2_2 (l3 ++ ((Pat.mk r3.1 r3.2.1 r3.2.2.1) :: []))
      else
       none
     else
      Option.bind (jpat_parser_is.C call r2.2.1 r2.2.2.1 r2.2.2.2.1 r2.2.2.2.2 110) fun r3 =>
      bif r3.1 then
       Option.bind (jpat_parser_item.C call r3.2.1 r3.2.2.1 r3.2.2.2.1 r3.2.2.2.2) fun r4 =>
       bif ((room ((List.length l3) + (List.length ((Pat.mk r4.1 r4.2.1 r4.2.2.1) :: []))) 56) && (((true && true) && true) && true)) then
        jpat_parser_cat.l2 rec_ r4.2.2.2.1 r4.2.2.2.2.1 r4.2.2.2.2.2.1 r4.2.2.2.2.2.2 t2_0 t2_1 t2_2 (l3 ++ ((Pat.mk r4.1 r4.2.1 r4.2.2.1) :: []))
       else
        none
      else
       Option.bind (jpat_parser_many.C call r3.2.1 r3.2.2.1 r3.2.2.2.1 r3.2.2.2.2 2 l3) fun r4 =>
       some (r4.1, (r4.2.1, (r4.2.2.1, (r4.2.2.2.1, (r4.2.2.2.2.1, (r4.2.2.2.2.2.1, r4.2.2.2.2.2.2))))))
  else
   Option.bind (jpat_parser_many.C call p0_0 p0_1 p0_2 p0_3 2 l3) fun r0 =>
   some (r0.1, (r0.2.1, (r0.2.2.1, (r0.2.2.2.1, (r0.2.2.2.2.1, (r0.2.2.2.2.2.1, r0.2.2.2.2.2.2))))))
theorem jpat_parser_cat.e (call : B0.Call) (rec_ : B0.Rec 16) (p0_0 : List (Int × Int)) (p0_1 : Bool) (p0_2 : Bool) (p0_3 : Bool) :
    den (B0.env call 16 Try.f16 [0] rec_) 100000 false (bodyOf Try.f16.body) (entryS 0 [.box [.pl ⟨.sl (.cons (.int .u8) (.one (.int .u64))), p0_0⟩, .pl ⟨.bool, p0_1⟩, .pl ⟨.bool, p0_2⟩, .pl ⟨.bool, p0_3⟩]] S.zero).1 = jpat_parser_cat.t call rec_ p0_0 p0_1 p0_2 p0_3 := by kernel_rfl
theorem jpat_parser_cat.s (k : Nat) (p0_0 : List (Int × Int)) (p0_1 : Bool) (p0_2 : Bool) (p0_3 : Bool) : jpat_parser_cat.C (B0.call (k + 1)) p0_0 p0_1 p0_2 p0_3 = jpat_parser_cat.t (B0.call k) (jpat_parser_cat.R (B0.call k) k) p0_0 p0_1 p0_2 p0_3 :=
  (call_eq B0 rfl Try.func16 (by kernel_rfl) k _).trans (jpat_parser_cat.e _ _ p0_0 p0_1 p0_2 p0_3)
theorem jpat_parser_cat.e2 (call : B0.Call) (rec_ : B0.Rec 16) (p0_0 : List (Int × Int)) (p0_1 : Bool) (p0_2 : Bool) (p0_3 : Bool) (t2_0 : Int) (t2_1 : List (Int × Int)) (t2_2 : List Pat) (l3 : List Pat) :
    den (B0.env call 16 Try.f16 [0] rec_) 100000 true (stk Try.f16.body 2) (putXs [.p 0 [none, none, none, none], .p 2 [none, none, some 26], .o 3 26] [.box [.pl ⟨.sl (.cons (.int .u8) (.one (.int .u64))), p0_0⟩, .pl ⟨.bool, p0_1⟩, .pl ⟨.bool, p0_2⟩, .pl ⟨.bool, p0_3⟩], .box [.pl ⟨.int .i64, t2_0⟩, .pl ⟨.sl spanRow, t2_1⟩, .ow 26 ⟨.pats, t2_2⟩], .own 26 (.pats) l3] S.zero) = jpat_parser_cat.t2 call rec_ p0_0 p0_1 p0_2 p0_3 t2_0 t2_1 t2_2 l3 := by kernel_rfl
theorem jpat_parser_cat.s2 (call : B0.Call) (j : Nat) (p0_0 : List (Int × Int)) (p0_1 : Bool) (p0_2 : Bool) (p0_3 : Bool) (t2_0 : Int) (t2_1 : List (Int × Int)) (t2_2 : List Pat) (l3 : List Pat) : jpat_parser_cat.l2 (jpat_parser_cat.R call (j + 1)) p0_0 p0_1 p0_2 p0_3 t2_0 t2_1 t2_2 l3 = jpat_parser_cat.t2 call (jpat_parser_cat.R call j) p0_0 p0_1 p0_2 p0_3 t2_0 t2_1 t2_2 l3 :=
  (goOn_eq B0 (by kernel_rfl) rfl call [0] j _).trans (jpat_parser_cat.e2 _ _ p0_0 p0_1 p0_2 p0_3 t2_0 t2_1 t2_2 l3)
/- 17: jpat_parser_take -/
noncomputable def jpat_parser_take.R (call : B0.Call) (j : Nat) : B0.Rec 17 := B0.goOn call 17 Try.f17 [0] j
noncomputable def jpat_parser_take.t (call : B0.Call) (rec_ : B0.Rec 17) (p0_0 : List (Int × Int)) (p0_1 : Bool) (p0_2 : Bool) (p0_3 : Bool) (kind1 : Int) : Option (Bool × (List (Int × Int)) × Bool × Bool × Bool) :=
  Option.bind (jpat_parser_is.C call p0_0 p0_1 p0_2 p0_3 kind1) fun r0 =>
  bif (!r0.1) then
   some (false, (r0.2.1, (r0.2.2.1, (r0.2.2.2.1, r0.2.2.2.2))))
  else
   bif (((decide (0 ≤ 1)) && (decide (1 ≤ ((List.length r0.2.1) : Int)))) && (decide (((List.length r0.2.1) : Int) ≤ ((List.length r0.2.1) : Int)))) then
    some (true, ((List.drop (Int.toNat 1) (List.take (Int.toNat ((List.length r0.2.1) : Int)) r0.2.1)), (r0.2.2.1, (r0.2.2.2.1, r0.2.2.2.2))))
   else
    none
theorem jpat_parser_take.e (call : B0.Call) (rec_ : B0.Rec 17) (p0_0 : List (Int × Int)) (p0_1 : Bool) (p0_2 : Bool) (p0_3 : Bool) (kind1 : Int) :
    den (B0.env call 17 Try.f17 [0] rec_) 100000 false (bodyOf Try.f17.body) (entryS 0 [.box [.pl ⟨.sl (.cons (.int .u8) (.one (.int .u64))), p0_0⟩, .pl ⟨.bool, p0_1⟩, .pl ⟨.bool, p0_2⟩, .pl ⟨.bool, p0_3⟩], .cell (.int .u8) kind1 false] S.zero).1 = jpat_parser_take.t call rec_ p0_0 p0_1 p0_2 p0_3 kind1 := by kernel_rfl
theorem jpat_parser_take.s (k : Nat) (p0_0 : List (Int × Int)) (p0_1 : Bool) (p0_2 : Bool) (p0_3 : Bool) (kind1 : Int) : jpat_parser_take.C (B0.call (k + 1)) p0_0 p0_1 p0_2 p0_3 kind1 = jpat_parser_take.t (B0.call k) (jpat_parser_take.R (B0.call k) k) p0_0 p0_1 p0_2 p0_3 kind1 :=
  (call_eq B0 rfl Try.func17 (by kernel_rfl) k _).trans (jpat_parser_take.e _ _ p0_0 p0_1 p0_2 p0_3 kind1)
end Go.Proofs.Ytopgnkolfeakaaa.D
/- What functions come to. Printed by dp.py. -/
set_option maxRecDepth 100000
namespace Go.Proofs.Ytopgnkolfeakaaa.D
open Go
/- 18: jpat_parser_many -/
noncomputable def jpat_parser_many.R (call : B0.Call) (j : Nat) : B0.Rec 18 := B0.goOn call 18 Try.f18 [0] j
noncomputable def jpat_parser_many.t (call : B0.Call) (rec_ : B0.Rec 18) (p0_0 : List (Int × Int)) (p0_1 : Bool) (p0_2 : Bool) (p0_3 : Bool) (kind1 : Int) (l2 : List Pat) : Option (Int × (List (Int × Int)) × (List Pat) × (List (Int × Int)) × Bool × Bool × Bool) :=
  bif (((List.length l2) : Int) == 1) then
   bif (inB (List.length l2) 0) then
    Option.bind (idx l2 0) fun r0 =>
    some (r0.kind, (r0.set, (r0.subs, (p0_0, (p0_1, (p0_2, p0_3))))))
   else
    none
  else
   Option.bind (jpat_parser_made.C call p0_0 p0_1 p0_2 p0_3 kind1 l2) fun r0 =>
   some (r0.1, (r0.2.1, (r0.2.2.1, (r0.2.2.2.1, (r0.2.2.2.2.1, (r0.2.2.2.2.2.1, r0.2.2.2.2.2.2))))))
theorem jpat_parser_many.e (call : B0.Call) (rec_ : B0.Rec 18) (p0_0 : List (Int × Int)) (p0_1 : Bool) (p0_2 : Bool) (p0_3 : Bool) (kind1 : Int) (l2 : List Pat) :
    den (B0.env call 18 Try.f18 [0] rec_) 100000 false (bodyOf Try.f18.body) (entryS 0 [.box [.pl ⟨.sl (.cons (.int .u8) (.one (.int .u64))), p0_0⟩, .pl ⟨.bool, p0_1⟩, .pl ⟨.bool, p0_2⟩, .pl ⟨.bool, p0_3⟩], .cell (.int .i64) kind1 false, .own 26 (.pats) l2] S.zero).1 = jpat_parser_many.t call rec_ p0_0 p0_1 p0_2 p0_3 kind1 l2 := by kernel_rfl
theorem jpat_parser_many.s (k : Nat) (p0_0 : List (Int × Int)) (p0_1 : Bool) (p0_2 : Bool) (p0_3 : Bool) (kind1 : Int) (l2 : List Pat) : jpat_parser_many.C (B0.call (k + 1)) p0_0 p0_1 p0_2 p0_3 kind1 l2 = jpat_parser_many.t (B0.call k) (jpat_parser_many.R (B0.call k) k) p0_0 p0_1 p0_2 p0_3 kind1 l2 :=
  (call_eq B0 rfl Try.func18 (by kernel_rfl) k _).trans (jpat_parser_many.e _ _ p0_0 p0_1 p0_2 p0_3 kind1 l2)
/- 19: pat_Size -/
noncomputable def pat_Size.R (call : B0.Call) (j : Nat) : B0.Rec 19 := B0.goOn call 19 Try.f19 [] j
noncomputable def pat_Size.l3 (rec_ : B0.Rec 19) (parts2 : Int) (deep3 : Int) (t9 : List Pat) (t10 : Int) (t11 : Int) : Option (Int × Int) := rec_ (stk Try.f19.body 3) [.val (.cell (.int .i64) parts2 false), .val (.cell (.int .i64) deep3 false), .val (.cell (.pats) t9 false), .val (.cell (.int .i64) t10 false), .val (.cell (.int .i64) t11 false)]
noncomputable def pat_Size.t (call : B0.Call) (rec_ : B0.Rec 19) (p0_0 : Int) (p0_1 : List (Int × Int)) (p0_2 : List Pat) : Option (Int × Int) :=
  pat_Size.l3 rec_ 1 0 p0_2 ((List.length p0_2) : Int) 0
noncomputable def pat_Size.t3 (call : B0.Call) (rec_ : B0.Rec 19) (parts2 : Int) (deep3 : Int) (t9 : List Pat) (t10 : Int) (t11 : Int) : Option (Int × Int) :=
  bif (decide (t11 < t10)) then
   Option.bind (idx t9 t11) fun r0 =>
   Option.bind (pat_Size.C call r0.kind r0.set r0.subs) fun r1 =>
   pat_Size.l3 rec_ (IntKind.wrap .i64 (parts2 + r1.1)) (maxI deep3 r1.2) t9 t10 (IntKind.wrap .i64 (t11 + 1))
  else
   some (parts2, (IntKind.wrap .i64 (deep3 + 1)))
theorem pat_Size.e (call : B0.Call) (rec_ : B0.Rec 19) (p0_0 : Int) (p0_1 : List (Int × Int)) (p0_2 : List Pat) :
    den (B0.env call 19 Try.f19 [] rec_) 100000 false (bodyOf Try.f19.body) (entryS 0 [.agg [⟨.int .i64, p0_0⟩, ⟨.sl spanRow, p0_1⟩, ⟨.pats, p0_2⟩]] S.zero).1 = pat_Size.t call rec_ p0_0 p0_1 p0_2 := by kernel_rfl
theorem pat_Size.s (k : Nat) (p0_0 : Int) (p0_1 : List (Int × Int)) (p0_2 : List Pat) : pat_Size.C (B0.call (k + 1)) p0_0 p0_1 p0_2 = pat_Size.t (B0.call k) (pat_Size.R (B0.call k) k) p0_0 p0_1 p0_2 :=
  (call_eq B0 rfl Try.func19 (by kernel_rfl) k _).trans (pat_Size.e _ _ p0_0 p0_1 p0_2)
theorem pat_Size.e3 (call : B0.Call) (rec_ : B0.Rec 19) (parts2 : Int) (deep3 : Int) (t9 : List Pat) (t10 : Int) (t11 : Int) :
    den (B0.env call 19 Try.f19 [] rec_) 100000 true (stk Try.f19.body 3) (putXs [.t 2, .t 3, .t 9, .t 10, .t 11] [.val (.cell (.int .i64) parts2 false), .val (.cell (.int .i64) deep3 false), .val (.cell (.pats) t9 false), .val (.cell (.int .i64) t10 false), .val (.cell (.int .i64) t11 false)] S.zero) = pat_Size.t3 call rec_ parts2 deep3 t9 t10 t11 := by kernel_rfl
theorem pat_Size.s3 (call : B0.Call) (j : Nat) (parts2 : Int) (deep3 : Int) (t9 : List Pat) (t10 : Int) (t11 : Int) : pat_Size.l3 (pat_Size.R call (j + 1)) parts2 deep3 t9 t10 t11 = pat_Size.t3 call (pat_Size.R call j) parts2 deep3 t9 t10 t11 :=
  (goOn_eq B0 (by kernel_rfl) rfl call [] j _).trans (pat_Size.e3 _ _ parts2 deep3 t9 t10 t11)
/- 20: pat_fits -/
noncomputable def pat_fits.R (call : B0.Call) (j : Nat) : B0.Rec 20 := B0.goOn call 20 Try.f20 [] j
noncomputable def pat_fits.t (call : B0.Call) (rec_ : B0.Rec 20) (p0_0 : Int) (p0_1 : List (Int × Int)) (p0_2 : List Pat) : Option Bool :=
  bif (p0_0 == 1) then
   bif (((List.length p0_2) : Int) == 0) then
    some (decide (((List.length p0_1) : Int) ≤ 256))
   else
    some false
  else
   bif (p0_0 == 2) then
    bif (((List.length p0_1) : Int) == 0) then
     bif (p0_0 != 4) then
      Option.bind (slices_ContainsFunc_api_Pat_api_Pat.C call p0_2) fun r0 =>
      some (!r0)
     else
      bif (((List.length p0_2) : Int) == 1) then
       Option.bind (slices_ContainsFunc_api_Pat_api_Pat.C call p0_2) fun r0 =>
       some (!r0)
      else
       some false
    else
     some false
   else
    bif (p0_0 == 3) then
     bif (((List.length p0_1) : Int) == 0) then
      bif (p0_0 != 4) then
       Option.bind (slices_ContainsFunc_api_Pat_api_Pat.C call p0_2) fun r0 =>
       some (!r0)
      else
       bif (((List.length p0_2) : Int) == 1) then
        Option.bind (slices_ContainsFunc_api_Pat_api_Pat.C call p0_2) fun r0 =>
        some (!r0)
       else
        some false
     else
      some false
    else
     bif (p0_0 == 4) then
      bif (((List.length p0_1) : Int) == 0) then
       bif (p0_0 != 4) then
        Option.bind (slices_ContainsFunc_api_Pat_api_Pat.C call p0_2) fun r0 =>
        some (!r0)
       else
        bif (((List.length p0_2) : Int) == 1) then
         Option.bind (slices_ContainsFunc_api_Pat_api_Pat.C call p0_2) fun r0 =>
         some (!r0)
        else
         some false
      else
       some false
     else
      some false
theorem pat_fits.e (call : B0.Call) (rec_ : B0.Rec 20) (p0_0 : Int) (p0_1 : List (Int × Int)) (p0_2 : List Pat) :
    den (B0.env call 20 Try.f20 [] rec_) 100000 false (bodyOf Try.f20.body) (entryS 0 [.agg [⟨.int .i64, p0_0⟩, ⟨.sl spanRow, p0_1⟩, ⟨.pats, p0_2⟩]] S.zero).1 = pat_fits.t call rec_ p0_0 p0_1 p0_2 := by kernel_rfl
theorem pat_fits.s (k : Nat) (p0_0 : Int) (p0_1 : List (Int × Int)) (p0_2 : List Pat) : pat_fits.C (B0.call (k + 1)) p0_0 p0_1 p0_2 = pat_fits.t (B0.call k) (pat_fits.R (B0.call k) k) p0_0 p0_1 p0_2 :=
  (call_eq B0 rfl Try.func20 (by kernel_rfl) k _).trans (pat_fits.e _ _ p0_0 p0_1 p0_2)
/- 21: ref01_In -/
noncomputable def ref01_In.R (call : B0.Call) (j : Nat) : B0.Rec 21 := B0.goOn call 21 Try.f21 [] j
noncomputable def ref01_In.l2 (rec_ : B0.Rec 21) (n1 : Int) (t7 : List (Int × Int)) (t8 : Int) (t9 : Int) : Option Bool := rec_ (stk Try.f21.body 2) [.val (.cell (.int .u32) n1 false), .val (.cell (.sl spanRow) t7 true), .val (.cell (.int .i64) t8 false), .val (.cell (.int .i64) t9 false)]
noncomputable def ref01_In.t (call : B0.Call) (rec_ : B0.Rec 21) (l0 : List (Int × Int)) (n1 : Int) : Option Bool :=
  ref01_In.l2 rec_ n1 l0 ((List.length l0) : Int) 0
noncomputable def ref01_In.t2 (call : B0.Call) (rec_ : B0.Rec 21) (n1 : Int) (t7 : List (Int × Int)) (t8 : Int) (t9 : Int) : Option Bool :=
  bif (decide (t9 < t8)) then
   Option.bind (idx t7 t9) fun r0 =>
   bif (decide (r0.1 ≤ n1)) then
    bif (decide (n1 ≤ r0.2)) then
     some true
    else
     ref01_In.l2 rec_ n1 t7 t8 (IntKind.wrap .i64 (t9 + 1))
   else
    ref01_In.l2 rec_ n1 t7 t8 (IntKind.wrap .i64 (t9 + 1))
  else
   some false
theorem ref01_In.e (call : B0.Call) (rec_ : B0.Rec 21) (l0 : List (Int × Int)) (n1 : Int) :
    den (B0.env call 21 Try.f21 [] rec_) 100000 false (bodyOf Try.f21.body) (entryS 0 [.cell (.sl spanRow) l0 true, .cell (.int .u32) n1 false] S.zero).1 = ref01_In.t call rec_ l0 n1 := by kernel_rfl
theorem ref01_In.s (k : Nat) (l0 : List (Int × Int)) (n1 : Int) : ref01_In.C (B0.call (k + 1)) l0 n1 = ref01_In.t (B0.call k) (ref01_In.R (B0.call k) k) l0 n1 :=
  (call_eq B0 rfl Try.func21 (by kernel_rfl) k _).trans (ref01_In.e _ _ l0 n1)
theorem ref01_In.e2 (call : B0.Call) (rec_ : B0.Rec 21) (n1 : Int) (t7 : List (Int × Int)) (t8 : Int) (t9 : Int) :
    den (B0.env call 21 Try.f21 [] rec_) 100000 true (stk Try.f21.body 2) (putXs [.t 1, .t 7, .t 8, .t 9] [.val (.cell (.int .u32) n1 false), .val (.cell (.sl spanRow) t7 true), .val (.cell (.int .i64) t8 false), .val (.cell (.int .i64) t9 false)] S.zero) = ref01_In.t2 call rec_ n1 t7 t8 t9 := by kernel_rfl
theorem ref01_In.s2 (call : B0.Call) (j : Nat) (n1 : Int) (t7 : List (Int × Int)) (t8 : Int) (t9 : Int) : ref01_In.l2 (ref01_In.R call (j + 1)) n1 t7 t8 t9 = ref01_In.t2 call (ref01_In.R call j) n1 t7 t8 t9 :=
  (goOn_eq B0 (by kernel_rfl) rfl call [] j _).trans (ref01_In.e2 _ _ n1 t7 t8 t9)
/- 23: jpat_parser_item -/
noncomputable def jpat_parser_item.R (call : B0.Call) (j : Nat) : B0.Rec 23 := B0.goOn call 23 Try.f23 [0] j
noncomputable def jpat_parser_item.l2 (rec_ : B0.Rec 23) (p0_0 : List (Int × Int)) (p0_1 : Bool) (p0_2 : Bool) (p0_3 : Bool) (t2_0 : Int) (t2_1 : List (Int × Int)) (t2_2 : List Pat) (x3_0 : Int) (x3_1 : List (Int × Int)) (x3_2 : List Pat) : Option (Int × (List (Int × Int)) × (List Pat) × (List (Int × Int)) × Bool × Bool × Bool) := rec_ (stk Try.f23.body 2) [.box [.pl ⟨.sl (.cons (.int .u8) (.one (.int .u64))), p0_0⟩, .pl ⟨.bool, p0_1⟩, .pl ⟨.bool, p0_2⟩, .pl ⟨.bool, p0_3⟩], .box [.pl ⟨.int .i64, t2_0⟩, .pl ⟨.sl spanRow, t2_1⟩, .pl ⟨.pats, t2_2⟩], .box [.pl ⟨.int .i64, x3_0⟩, .pl ⟨.sl spanRow, x3_1⟩, .pl ⟨.pats, x3_2⟩]]
noncomputable def jpat_parser_item.t (call : B0.Call) (rec_ : B0.Rec 23) (p0_0 : List (Int × Int)) (p0_1 : Bool) (p0_2 : Bool) (p0_3 : Bool) : Option (Int × (List (Int × Int)) × (List Pat) × (List (Int × Int)) × Bool × Bool × Bool) :=
  Option.bind (jpat_parser_atom.C call p0_0 p0_1 p0_2 p0_3) fun r0 =>
  jpat_parser_item.l2 rec_ r0.2.2.2.1 r0.2.2.2.2.1 r0.2.2.2.2.2.1 r0.2.2.2.2.2.2 0 [] [] r0.1 r0.2.1 r0.2.2.1
noncomputable def jpat_parser_item.t2 (call : B0.Call) (rec_ : B0.Rec 23) (p0_0 : List (Int × Int)) (p0_1 : Bool) (p0_2 : Bool) (p0_3 : Bool) (t2_0 : Int) (t2_1 : List (Int × Int)) (t2_2 : List Pat) (x3_0 : Int) (x3_1 : List (Int × Int)) (x3_2 : List Pat) : Option (Int × (List (Int × Int)) × (List Pat) × (List (Int × Int)) × Bool × Bool × Bool) :=
  bif (!p0_1) then
   Option.bind (jpat_parser_take.C call p0_0 p0_1 p0_2 p0_3 42) fun r0 =>
   bif r0.1 then
    Option.bind (jpat_parser_made.C call r0.2.1 r0.2.2.1 r0.2.2.2.1 r0.2.2.2.2 4 ((Pat.mk x3_0 x3_1 x3_2) :: [])) fun r1 =>
    jpat_parser_item.l2 rec_ r1.2.2.2.1 r1.2.2.2.2.1 r1.2.2.2.2.2.1 r1.2.2.2.2.2.2 t2_0 t2_1 t2_2 r1.1 r1.2.1 r1.2.2.1
   else
    Option.bind (jpat_parser_take.C call r0.2.1 r0.2.2.1 r0.2.2.2.1 r0.2.2.2.2 43) fun r1 =>
    bif r1.1 then
     Option.bind (jpat_parser_made.C call r1.2.1 r1.2.2.1 r1.2.2.2.1 r1.2.2.2.2 4 ((Pat.mk x3_0 x3_1 x3_2) :: [])) fun r2 =>
     Option.bind (jpat_parser_made.C call r2.2.2.2.1 r2.2.2.2.2.1 r2.2.2.2.2.2.1 r2.2.2.2.2.2.2 2 ((Pat.mk x3_0 x3_1 x3_2) :: ((Pat.mk r2.1 r2.2.1 r2.2.2.1) :: []))) fun r3 =>
     jpat_parser_item.l2 rec_ r3.2.2.2.1 r3.2.2.2.2.1 r3.2.2.2.2.2.1 r3.2.2.2.2.2.2 t2_0 t2_1 t2_2 r3.1 r3.2.1 r3.2.2.1
    else
     Option.bind (jpat_parser_take.C call r1.2.1 r1.2.2.1 r1.2.2.2.1 r1.2.2.2.2 63) fun r2 =>
     bif r2.1 then
      Option.bind (jpat_parser_made.C call r2.2.1 r2.2.2.1 r2.2.2.2.1 r2.2.2.2.2 3 ((Pat.mk x3_0 x3_1 x3_2) :: ((Pat.mk 2 [] []) :: []))) fun r3 =>
      jpat_parser_item.l2 rec_ r3.2.2.2.1 r3.2.2.2.2.1 r3.2.2.2.2.2.1 r3.2.2.2.2.2.2 t2_0 t2_1 t2_2 r3.1 r3.2.1 r3.2.2.1
     else
      Option.bind (jpat_parser_take.C call r2.2.1 r2.2.2.1 r2.2.2.2.1 r2.2.2.2.2 123) fun r3 =>
      bif r3.1 then
       Option.bind (jpat_parser_count.C call r3.2.1 r3.2.2.1 r3.2.2.2.1 r3.2.2.2.2 x3_0 x3_1 x3_2) fun r4 =>
       jpat_parser_item.l2 rec_ r4.2.2.2.1 r4.2.2.2.2.1 r4.2.2.2.2.2.1 r4.2.2.2.2.2.2 t2_0 t2_1 t2_2 r4.1 r4.2.1 r4.2.2.1
      else
       some (x3_0, (x3_1, (x3_2, (r3.2.1, (r3.2.2.1, (r3.2.2.2.1, r3.2.2.2.2))))))
  else
   some (x3_0, (x3_1, (x3_2, (p0_0, (p0_1, (p0_2, p0_3))))))
theorem jpat_parser_item.e (call : B0.Call) (rec_ : B0.Rec 23) (p0_0 : List (Int × Int)) (p0_1 : Bool) (p0_2 : Bool) (p0_3 : Bool) :
    den (B0.env call 23 Try.f23 [0] rec_) 100000 false (bodyOf Try.f23.body) (entryS 0 [.box [.pl ⟨.sl (.cons (.int .u8) (.one (.int .u64))), p0_0⟩, .pl ⟨.bool, p0_1⟩, .pl ⟨.bool, p0_2⟩, .pl ⟨.bool, p0_3⟩]] S.zero).1 = jpat_parser_item.t call rec_ p0_0 p0_1 p0_2 p0_3 := by kernel_rfl
theorem jpat_parser_item.s (k : Nat) (p0_0 : List (Int × Int)) (p0_1 : Bool) (p0_2 : Bool) (p0_3 : Bool) : jpat_parser_item.C (B0.call (k + 1)) p0_0 p0_1 p0_2 p0_3 = jpat_parser_item.t (B0.call k) (jpat_parser_item.R (B0.call k) k) p0_0 p0_1 p0_2 p0_3 :=
  (call_eq B0 rfl Try.func23 (by kernel_rfl) k _).trans (jpat_parser_item.e _ _ p0_0 p0_1 p0_2 p0_3)
theorem jpat_parser_item.e2 (call : B0.Call) (rec_ : B0.Rec 23) (p0_0 : List (Int × Int)) (p0_1 : Bool) (p0_2 : Bool) (p0_3 : Bool) (t2_0 : Int) (t2_1 : List (Int × Int)) (t2_2 : List Pat) (x3_0 : Int) (x3_1 : List (Int × Int)) (x3_2 : List Pat) :
    den (B0.env call 23 Try.f23 [0] rec_) 100000 true (stk Try.f23.body 2) (putXs [.p 0 [none, none, none, none], .p 2 [none, none, none], .p 3 [none, none, none]] [.box [.pl ⟨.sl (.cons (.int .u8) (.one (.int .u64))), p0_0⟩, .pl ⟨.bool, p0_1⟩, .pl ⟨.bool, p0_2⟩, .pl ⟨.bool, p0_3⟩], .box [.pl ⟨.int .i64, t2_0⟩, .pl ⟨.sl spanRow, t2_1⟩, .pl ⟨.pats, t2_2⟩], .box [.pl ⟨.int .i64, x3_0⟩, .pl ⟨.sl spanRow, x3_1⟩, .pl ⟨.pats, x3_2⟩]] S.zero) = jpat_parser_item.t2 call rec_ p0_0 p0_1 p0_2 p0_3 t2_0 t2_1 t2_2 x3_0 x3_1 x3_2 := by kernel_rfl
theorem jpat_parser_item.s2 (call : B0.Call) (j : Nat) (p0_0 : List (Int × Int)) (p0_1 : Bool) (p0_2 : Bool) (p0_3 : Bool) (t2_0 : Int) (t2_1 : List (Int × Int)) (t2_2 : List Pat) (x3_0 : Int) (x3_1 : List (Int × Int)) (x3_2 : List Pat) : jpat_parser_item.l2 (jpat_parser_item.R call (j + 1)) p0_0 p0_1 p0_2 p0_3 t2_0 t2_1 t2_2 x3_0 x3_1 x3_2 = jpat_parser_item.t2 call (jpat_parser_item.R call j) p0_0 p0_1 p0_2 p0_3 t2_0 t2_1 t2_2 x3_0 x3_1 x3_2 :=
  (goOn_eq B0 (by kernel_rfl) rfl call [0] j _).trans (jpat_parser_item.e2 _ _ p0_0 p0_1 p0_2 p0_3 t2_0 t2_1 t2_2 x3_0 x3_1 x3_2)
/- 24: jpat_parser_made -/
noncomputable def jpat_parser_made.R (call : B0.Call) (j : Nat) : B0.Rec 24 := B0.goOn call 24 Try.f24 [0] j
noncomputable def jpat_parser_made.t (call : B0.Call) (rec_ : B0.Rec 24) (p0_0 : List (Int × Int)) (p0_1 : Bool) (p0_2 : Bool) (p0_3 : Bool) (kind1 : Int) (l2 : List Pat) : Option (Int × (List (Int × Int)) × (List Pat) × (List (Int × Int)) × Bool × Bool × Bool) :=
  Option.bind (pat_Size.C call kind1 [] l2) fun r0 =>
  bif (decide (r0.1 > 200)) then
   some (2, ([], ([], (p0_0, (p0_1, (p0_2, true))))))
  else
   bif (decide (r0.2 > 40)) then
    some (2, ([], ([], (p0_0, (p0_1, (p0_2, true))))))
   else
    some (kind1, ([], (l2, (p0_0, (p0_1, (p0_2, p0_3))))))
theorem jpat_parser_made.e (call : B0.Call) (rec_ : B0.Rec 24) (p0_0 : List (Int × Int)) (p0_1 : Bool) (p0_2 : Bool) (p0_3 : Bool) (kind1 : Int) (l2 : List Pat) :
    den (B0.env call 24 Try.f24 [0] rec_) 100000 false (bodyOf Try.f24.body) (entryS 0 [.box [.pl ⟨.sl (.cons (.int .u8) (.one (.int .u64))), p0_0⟩, .pl ⟨.bool, p0_1⟩, .pl ⟨.bool, p0_2⟩, .pl ⟨.bool, p0_3⟩], .cell (.int .i64) kind1 false, .own 26 (.pats) l2] S.zero).1 = jpat_parser_made.t call rec_ p0_0 p0_1 p0_2 p0_3 kind1 l2 := by kernel_rfl
theorem jpat_parser_made.s (k : Nat) (p0_0 : List (Int × Int)) (p0_1 : Bool) (p0_2 : Bool) (p0_3 : Bool) (kind1 : Int) (l2 : List Pat) : jpat_parser_made.C (B0.call (k + 1)) p0_0 p0_1 p0_2 p0_3 kind1 l2 = jpat_parser_made.t (B0.call k) (jpat_parser_made.R (B0.call k) k) p0_0 p0_1 p0_2 p0_3 kind1 l2 :=
  (call_eq B0 rfl Try.func24 (by kernel_rfl) k _).trans (jpat_parser_made.e _ _ p0_0 p0_1 p0_2 p0_3 kind1 l2)
/- 25: slices_ContainsFunc_api_Pat_api_Pat -/
noncomputable def slices_ContainsFunc_api_Pat_api_Pat.R (call : B0.Call) (j : Nat) : B0.Rec 25 := B0.goOn call 25 Try.f25 [] j
noncomputable def slices_ContainsFunc_api_Pat_api_Pat.t (call : B0.Call) (rec_ : B0.Rec 25) (s0 : List Pat) : Option Bool :=
  Option.bind (slices_IndexFunc_api_Pat_api_Pat.C call s0) fun r0 =>
  some (decide (r0 ≥ 0))
theorem slices_ContainsFunc_api_Pat_api_Pat.e (call : B0.Call) (rec_ : B0.Rec 25) (s0 : List Pat) :
    den (B0.env call 25 Try.f25 [] rec_) 100000 false (bodyOf Try.f25.body) (entryS 0 [.cell (.pats) s0 false, .fn 26 []] S.zero).1 = slices_ContainsFunc_api_Pat_api_Pat.t call rec_ s0 := by kernel_rfl
theorem slices_ContainsFunc_api_Pat_api_Pat.s (k : Nat) (s0 : List Pat) : slices_ContainsFunc_api_Pat_api_Pat.C (B0.call (k + 1)) s0 = slices_ContainsFunc_api_Pat_api_Pat.t (B0.call k) (slices_ContainsFunc_api_Pat_api_Pat.R (B0.call k) k) s0 :=
  (call_eq B0 rfl Try.func25 (by kernel_rfl) k _).trans (slices_ContainsFunc_api_Pat_api_Pat.e _ _ s0)
/- 28: jpat_parser_atom -/
noncomputable def jpat_parser_atom.R (call : B0.Call) (j : Nat) : B0.Rec 28 := B0.goOn call 28 Try.f28 [0] j
noncomputable def jpat_parser_atom.t (call : B0.Call) (rec_ : B0.Rec 28) (p0_0 : List (Int × Int)) (p0_1 : Bool) (p0_2 : Bool) (p0_3 : Bool) : Option (Int × (List (Int × Int)) × (List Pat) × (List (Int × Int)) × Bool × Bool × Bool) :=
  Option.bind (jpat_parser_take.C call p0_0 p0_1 p0_2 p0_3 46) fun r0 =>
  bif r0.1 then
   Option.bind (pat_Any.C call) fun r1 =>
   some (r1.1, (r1.2.1, (r1.2.2, (r0.2.1, (r0.2.2.1, (r0.2.2.2.1, r0.2.2.2.2))))))
  else
   Option.bind (jpat_parser_take.C call r0.2.1 r0.2.2.1 r0.2.2.2.1 r0.2.2.2.2 33) fun r1 =>
   bif r1.1 then
    some (3, ([], ([], (r1.2.1, (r1.2.2.1, (r1.2.2.2.1, r1.2.2.2.2))))))
   else
    Option.bind (jpat_parser_take.C call r1.2.1 r1.2.2.1 r1.2.2.2.1 r1.2.2.2.2 40) fun r2 =>
    bif r2.1 then
     Option.bind (jpat_parser_pattern.C call r2.2.1 r2.2.2.1 r2.2.2.2.1 r2.2.2.2.2) fun r3 =>
     Option.bind (jpat_parser_need.C call r3.2.2.2.1 r3.2.2.2.2.1 r3.2.2.2.2.2.1 r3.2.2.2.2.2.2 41) fun r4 =>
     some (r3.1, (r3.2.1, (r3.2.2.1, (r4.1, (r4.2.1, (r4.2.2.1, r4.2.2.2))))))
    else
     Option.bind (jpat_parser_number.C call r2.2.1 r2.2.2.1 r2.2.2.2.1 r2.2.2.2.2) fun r3 =>
     bif (!r3.2.2.1) then
      Option.bind (jpat_parser_take.C call r3.2.1 r3.2.2.1 r3.2.2.2.1 r3.2.2.2.2 45) fun r4 =>
      bif r4.1 then
       Option.bind (jpat_parser_number.C call r4.2.1 r4.2.2.1 r4.2.2.2.1 r4.2.2.2.2) fun r5 =>
       bif r5.2.2.2.1 then
        some (1, (((r3.1, r5.1) :: []), ([], (r5.2.1, (r5.2.2.1, (true, r5.2.2.2.2))))))
       else
        some (1, (((r3.1, r5.1) :: []), ([], (r5.2.1, (r5.2.2.1, ((decide (r3.1 > r5.1)), r5.2.2.2.2))))))
      else
       some (1, (((r3.1, r3.1) :: []), ([], (r4.2.1, (r4.2.2.1, (r4.2.2.2.1, r4.2.2.2.2))))))
     else
      some (1, (((r3.1, r3.1) :: []), ([], (r3.2.1, (r3.2.2.1, (r3.2.2.2.1, r3.2.2.2.2))))))
theorem jpat_parser_atom.e (call : B0.Call) (rec_ : B0.Rec 28) (p0_0 : List (Int × Int)) (p0_1 : Bool) (p0_2 : Bool) (p0_3 : Bool) :
    den (B0.env call 28 Try.f28 [0] rec_) 100000 false (bodyOf Try.f28.body) (entryS 0 [.box [.pl ⟨.sl (.cons (.int .u8) (.one (.int .u64))), p0_0⟩, .pl ⟨.bool, p0_1⟩, .pl ⟨.bool, p0_2⟩, .pl ⟨.bool, p0_3⟩]] S.zero).1 = jpat_parser_atom.t call rec_ p0_0 p0_1 p0_2 p0_3 := by kernel_rfl
theorem jpat_parser_atom.s (k : Nat) (p0_0 : List (Int × Int)) (p0_1 : Bool) (p0_2 : Bool) (p0_3 : Bool) : jpat_parser_atom.C (B0.call (k + 1)) p0_0 p0_1 p0_2 p0_3 = jpat_parser_atom.t (B0.call k) (jpat_parser_atom.R (B0.call k) k) p0_0 p0_1 p0_2 p0_3 :=
  (call_eq B0 rfl Try.func28 (by kernel_rfl) k _).trans (jpat_parser_atom.e _ _ p0_0 p0_1 p0_2 p0_3)
/- 29: jpat_parser_count -/
noncomputable def jpat_parser_count.R (call : B0.Call) (j : Nat) : B0.Rec 29 := B0.goOn call 29 Try.f29 [0] j
noncomputable def jpat_parser_count.t (call : B0.Call) (rec_ : B0.Rec 29) (p0_0 : List (Int × Int)) (p0_1 : Bool) (p0_2 : Bool) (p0_3 : Bool) (x1_0 : Int) (x1_1 : List (Int × Int)) (x1_2 : List Pat) : Option (Int × (List (Int × Int)) × (List Pat) × (List (Int × Int)) × Bool × Bool × Bool) :=
  Option.bind (jpat_parser_number.C call p0_0 p0_1 p0_2 p0_3) fun r0 =>
  bif (!r0.2.2.1) then
   Option.bind (jpat_parser_take.C call r0.2.1 r0.2.2.1 r0.2.2.2.1 r0.2.2.2.2 44) fun r1 =>
   bif r1.1 then
    Option.bind (jpat_parser_is.C call r1.2.1 r1.2.2.1 r1.2.2.2.1 r1.2.2.2.2 110) fun r2 =>
    bif r2.1 then
     Option.bind (jpat_parser_number.C call r2.2.1 r2.2.2.1 r2.2.2.2.1 r2.2.2.2.2) fun r3 =>
     Option.bind (jpat_parser_need.C call r3.2.1 r3.2.2.1 r3.2.2.2.1 r3.2.2.2.2 125) fun r4 =>
     bif r4.2.1 then
      some (x1_0, (x1_1, (x1_2, (r4.1, (r4.2.1, (r4.2.2.1, r4.2.2.2))))))
     else
      bif r4.2.2.1 then
       some (x1_0, (x1_1, (x1_2, (r4.1, (r4.2.1, (r4.2.2.1, r4.2.2.2))))))
      else
       Option.bind (jpat_parser_times.C call r4.1 r4.2.1 r4.2.2.1 r4.2.2.2 x1_0 x1_1 x1_2 (IntKind.wrap .i64 r0.1) (IntKind.wrap .i64 r3.1)) fun r5 =>
       some (r5.1, (r5.2.1, (r5.2.2.1, (r5.2.2.2.1, (r5.2.2.2.2.1, (r5.2.2.2.2.2.1, r5.2.2.2.2.2.2))))))
    else
     Option.bind (jpat_parser_need.C call r2.2.1 r2.2.2.1 r2.2.2.2.1 r2.2.2.2.2 125) fun r3 =>
     bif r3.2.1 then
      some (x1_0, (x1_1, (x1_2, (r3.1, (r3.2.1, (r3.2.2.1, r3.2.2.2))))))
     else
      bif r3.2.2.1 then
       some (x1_0, (x1_1, (x1_2, (r3.1, (r3.2.1, (r3.2.2.1, r3.2.2.2))))))
      else
       Option.bind (jpat_parser_times.C call r3.1 r3.2.1 r3.2.2.1 r3.2.2.2 x1_0 x1_1 x1_2 (IntKind.wrap .i64 r0.1) (-1)) fun r4 =>
       some (r4.1, (r4.2.1, (r4.2.2.1, (r4.2.2.2.1, (r4.2.2.2.2.1, (r4.2.2.2.2.2.1, r4.2.2.2.2.2.2))))))
   else
    Option.bind (jpat_parser_need.C call r1.2.1 r1.2.2.1 r1.2.2.2.1 r1.2.2.2.2 125) fun r2 =>
    bif r2.2.1 then
     some (x1_0, (x1_1, (x1_2, (r2.1, (r2.2.1, (r2.2.2.1, r2.2.2.2))))))
    else
     bif r2.2.2.1 then
      some (x1_0, (x1_1, (x1_2, (r2.1, (r2.2.1, (r2.2.2.1, r2.2.2.2))))))
     else
      Option.bind (jpat_parser_times.C call r2.1 r2.2.1 r2.2.2.1 r2.2.2.2 x1_0 x1_1 x1_2 (IntKind.wrap .i64 r0.1) (IntKind.wrap .i64 r0.1)) fun r3 =>
      some (r3.1, (r3.2.1, (r3.2.2.1, (r3.2.2.2.1, (r3.2.2.2.2.1, (r3.2.2.2.2.2.1, r3.2.2.2.2.2.2))))))
  else
   Option.bind (jpat_parser_need.C call r0.2.1 r0.2.2.1 r0.2.2.2.1 r0.2.2.2.2 125) fun r1 =>
   bif r1.2.1 then
    some (x1_0, (x1_1, (x1_2, (r1.1, (r1.2.1, (r1.2.2.1, r1.2.2.2))))))
   else
    bif r1.2.2.1 then
     some (x1_0, (x1_1, (x1_2, (r1.1, (r1.2.1, (r1.2.2.1, r1.2.2.2))))))
    else
     Option.bind (jpat_parser_times.C call r1.1 r1.2.1 r1.2.2.1 r1.2.2.2 x1_0 x1_1 x1_2 (IntKind.wrap .i64 r0.1) (IntKind.wrap .i64 r0.1)) fun r2 =>
     some (r2.1, (r2.2.1, (r2.2.2.1, (r2.2.2.2.1, (r2.2.2.2.2.1, (r2.2.2.2.2.2.1, r2.2.2.2.2.2.2))))))
theorem jpat_parser_count.e (call : B0.Call) (rec_ : B0.Rec 29) (p0_0 : List (Int × Int)) (p0_1 : Bool) (p0_2 : Bool) (p0_3 : Bool) (x1_0 : Int) (x1_1 : List (Int × Int)) (x1_2 : List Pat) :
    den (B0.env call 29 Try.f29 [0] rec_) 100000 false (bodyOf Try.f29.body) (entryS 0 [.box [.pl ⟨.sl (.cons (.int .u8) (.one (.int .u64))), p0_0⟩, .pl ⟨.bool, p0_1⟩, .pl ⟨.bool, p0_2⟩, .pl ⟨.bool, p0_3⟩], .agg [⟨.int .i64, x1_0⟩, ⟨.sl spanRow, x1_1⟩, ⟨.pats, x1_2⟩]] S.zero).1 = jpat_parser_count.t call rec_ p0_0 p0_1 p0_2 p0_3 x1_0 x1_1 x1_2 := by kernel_rfl
theorem jpat_parser_count.s (k : Nat) (p0_0 : List (Int × Int)) (p0_1 : Bool) (p0_2 : Bool) (p0_3 : Bool) (x1_0 : Int) (x1_1 : List (Int × Int)) (x1_2 : List Pat) : jpat_parser_count.C (B0.call (k + 1)) p0_0 p0_1 p0_2 p0_3 x1_0 x1_1 x1_2 = jpat_parser_count.t (B0.call k) (jpat_parser_count.R (B0.call k) k) p0_0 p0_1 p0_2 p0_3 x1_0 x1_1 x1_2 :=
  (call_eq B0 rfl Try.func29 (by kernel_rfl) k _).trans (jpat_parser_count.e _ _ p0_0 p0_1 p0_2 p0_3 x1_0 x1_1 x1_2)
/- 30: slices_IndexFunc_api_Pat_api_Pat -/
noncomputable def slices_IndexFunc_api_Pat_api_Pat.R (call : B0.Call) (j : Nat) : B0.Rec 30 := B0.goOn call 30 Try.f30 [] j
noncomputable def slices_IndexFunc_api_Pat_api_Pat.l2 (rec_ : B0.Rec 30) (s0 : List Pat) (t7 : Int) (t8 : Int) : Option Int := rec_ (stk Try.f30.body 2) [.val (.cell (.pats) s0 false), .val (.fn 26 []), .val (.cell (.int .i64) t7 false), .val (.cell (.int .i64) t8 false)]
noncomputable def slices_IndexFunc_api_Pat_api_Pat.t (call : B0.Call) (rec_ : B0.Rec 30) (s0 : List Pat) : Option Int :=
  slices_IndexFunc_api_Pat_api_Pat.l2 rec_ s0 ((List.length s0) : Int) 0
noncomputable def slices_IndexFunc_api_Pat_api_Pat.t2 (call : B0.Call) (rec_ : B0.Rec 30) (s0 : List Pat) (t7 : Int) (t8 : Int) : Option Int :=
  bif (decide (t8 < t7)) then
   Option.bind (idx s0 t8) fun r0 =>
   Option.bind (pat_fits_c1.C call r0.kind r0.set r0.subs) fun r1 =>
   bif r1 then
    some t8
   else
    slices_IndexFunc_api_Pat_api_Pat.l2 rec_ s0 t7 (IntKind.wrap .i64 (t8 + 1))
  else
   some (-1)
theorem slices_IndexFunc_api_Pat_api_Pat.e (call : B0.Call) (rec_ : B0.Rec 30) (s0 : List Pat) :
    den (B0.env call 30 Try.f30 [] rec_) 100000 false (bodyOf Try.f30.body) (entryS 0 [.cell (.pats) s0 false, .fn 26 []] S.zero).1 = slices_IndexFunc_api_Pat_api_Pat.t call rec_ s0 := by kernel_rfl
theorem slices_IndexFunc_api_Pat_api_Pat.s (k : Nat) (s0 : List Pat) : slices_IndexFunc_api_Pat_api_Pat.C (B0.call (k + 1)) s0 = slices_IndexFunc_api_Pat_api_Pat.t (B0.call k) (slices_IndexFunc_api_Pat_api_Pat.R (B0.call k) k) s0 :=
  (call_eq B0 rfl Try.func30 (by kernel_rfl) k _).trans (slices_IndexFunc_api_Pat_api_Pat.e _ _ s0)
theorem slices_IndexFunc_api_Pat_api_Pat.e2 (call : B0.Call) (rec_ : B0.Rec 30) (s0 : List Pat) (t7 : Int) (t8 : Int) :
    den (B0.env call 30 Try.f30 [] rec_) 100000 true (stk Try.f30.body 2) (putXs [.t 0, .t 1, .t 7, .t 8] [.val (.cell (.pats) s0 false), .val (.fn 26 []), .val (.cell (.int .i64) t7 false), .val (.cell (.int .i64) t8 false)] S.zero) = slices_IndexFunc_api_Pat_api_Pat.t2 call rec_ s0 t7 t8 := by kernel_rfl
theorem slices_IndexFunc_api_Pat_api_Pat.s2 (call : B0.Call) (j : Nat) (s0 : List Pat) (t7 : Int) (t8 : Int) : slices_IndexFunc_api_Pat_api_Pat.l2 (slices_IndexFunc_api_Pat_api_Pat.R call (j + 1)) s0 t7 t8 = slices_IndexFunc_api_Pat_api_Pat.t2 call (slices_IndexFunc_api_Pat_api_Pat.R call j) s0 t7 t8 :=
  (goOn_eq B0 (by kernel_rfl) rfl call [] j _).trans (slices_IndexFunc_api_Pat_api_Pat.e2 _ _ s0 t7 t8)
/- 31: pat_Any -/
noncomputable def pat_Any.R (call : B0.Call) (j : Nat) : B0.Rec 31 := B0.goOn call 31 Try.f31 [] j
noncomputable def pat_Any.t (call : B0.Call) (rec_ : B0.Rec 31) : Option (Int × (List (Int × Int)) × (List Pat)) :=
  some (1, (((0, 4294967295) :: []), []))
theorem pat_Any.e (call : B0.Call) (rec_ : B0.Rec 31) :
    den (B0.env call 31 Try.f31 [] rec_) 100000 false (bodyOf Try.f31.body) (entryS 0 [] S.zero).1 = pat_Any.t call rec_ := by kernel_rfl
theorem pat_Any.s (k : Nat) : pat_Any.C (B0.call (k + 1)) = pat_Any.t (B0.call k) (pat_Any.R (B0.call k) k) :=
  (call_eq B0 rfl Try.func31 (by kernel_rfl) k _).trans (pat_Any.e _ _)
/- 32: jpat_parser_need -/
noncomputable def jpat_parser_need.R (call : B0.Call) (j : Nat) : B0.Rec 32 := B0.goOn call 32 Try.f32 [0] j
noncomputable def jpat_parser_need.t (call : B0.Call) (rec_ : B0.Rec 32) (p0_0 : List (Int × Int)) (p0_1 : Bool) (p0_2 : Bool) (p0_3 : Bool) (kind1 : Int) : Option ((List (Int × Int)) × Bool × Bool × Bool) :=
  Option.bind (jpat_parser_take.C call p0_0 p0_1 p0_2 p0_3 kind1) fun r0 =>
  bif (!r0.1) then
   some (r0.2.1, (true, (r0.2.2.2.1, r0.2.2.2.2)))
  else
   some (r0.2.1, (r0.2.2.1, (r0.2.2.2.1, r0.2.2.2.2)))
theorem jpat_parser_need.e (call : B0.Call) (rec_ : B0.Rec 32) (p0_0 : List (Int × Int)) (p0_1 : Bool) (p0_2 : Bool) (p0_3 : Bool) (kind1 : Int) :
    den (B0.env call 32 Try.f32 [0] rec_) 100000 false (bodyOf Try.f32.body) (entryS 0 [.box [.pl ⟨.sl (.cons (.int .u8) (.one (.int .u64))), p0_0⟩, .pl ⟨.bool, p0_1⟩, .pl ⟨.bool, p0_2⟩, .pl ⟨.bool, p0_3⟩], .cell (.int .u8) kind1 false] S.zero).1 = jpat_parser_need.t call rec_ p0_0 p0_1 p0_2 p0_3 kind1 := by kernel_rfl
theorem jpat_parser_need.s (k : Nat) (p0_0 : List (Int × Int)) (p0_1 : Bool) (p0_2 : Bool) (p0_3 : Bool) (kind1 : Int) : jpat_parser_need.C (B0.call (k + 1)) p0_0 p0_1 p0_2 p0_3 kind1 = jpat_parser_need.t (B0.call k) (jpat_parser_need.R (B0.call k) k) p0_0 p0_1 p0_2 p0_3 kind1 :=
  (call_eq B0 rfl Try.func32 (by kernel_rfl) k _).trans (jpat_parser_need.e _ _ p0_0 p0_1 p0_2 p0_3 kind1)
/- 33: jpat_parser_number -/
noncomputable def jpat_parser_number.R (call : B0.Call) (j : Nat) : B0.Rec 33 := B0.goOn call 33 Try.f33 [0] j
noncomputable def jpat_parser_number.t (call : B0.Call) (rec_ : B0.Rec 33) (p0_0 : List (Int × Int)) (p0_1 : Bool) (p0_2 : Bool) (p0_3 : Bool) : Option (Int × (List (Int × Int)) × Bool × Bool × Bool) :=
  Option.bind (idx p0_0 0) fun r0 =>
  Option.bind (jpat_parser_need.C call p0_0 p0_1 p0_2 p0_3 110) fun r1 =>
  bif r1.2.1 then
   some (0, (r1.1, (r1.2.1, (r1.2.2.1, r1.2.2.2))))
  else
   bif (decide (r0.2 > 4294967295)) then
    some (0, (r1.1, (r1.2.1, (true, r1.2.2.2))))
   else
    some ((IntKind.wrap .u32 r0.2), (r1.1, (r1.2.1, (r1.2.2.1, r1.2.2.2))))
theorem jpat_parser_number.e (call : B0.Call) (rec_ : B0.Rec 33) (p0_0 : List (Int × Int)) (p0_1 : Bool) (p0_2 : Bool) (p0_3 : Bool) :
    den (B0.env call 33 Try.f33 [0] rec_) 100000 false (bodyOf Try.f33.body) (entryS 0 [.box [.pl ⟨.sl (.cons (.int .u8) (.one (.int .u64))), p0_0⟩, .pl ⟨.bool, p0_1⟩, .pl ⟨.bool, p0_2⟩, .pl ⟨.bool, p0_3⟩]] S.zero).1 = jpat_parser_number.t call rec_ p0_0 p0_1 p0_2 p0_3 := by kernel_rfl
theorem jpat_parser_number.s (k : Nat) (p0_0 : List (Int × Int)) (p0_1 : Bool) (p0_2 : Bool) (p0_3 : Bool) : jpat_parser_number.C (B0.call (k + 1)) p0_0 p0_1 p0_2 p0_3 = jpat_parser_number.t (B0.call k) (jpat_parser_number.R (B0.call k) k) p0_0 p0_1 p0_2 p0_3 :=
  (call_eq B0 rfl Try.func33 (by kernel_rfl) k _).trans (jpat_parser_number.e _ _ p0_0 p0_1 p0_2 p0_3)
/- 34: jpat_parser_times -/
noncomputable def jpat_parser_times.R (call : B0.Call) (j : Nat) : B0.Rec 34 := B0.goOn call 34 Try.f34 [0] j
noncomputable def jpat_parser_times.t (call : B0.Call) (rec_ : B0.Rec 34) (p0_0 : List (Int × Int)) (p0_1 : Bool) (p0_2 : Bool) (p0_3 : Bool) (x1_0 : Int) (x1_1 : List (Int × Int)) (x1_2 : List Pat) (least2 : Int) (most3 : Int) : Option (Int × (List (Int × Int)) × (List Pat) × (List (Int × Int)) × Bool × Bool × Bool) :=
  Option.bind (pat_Times.C call x1_0 x1_1 x1_2 least2 most3) fun r0 =>
  bif (r0.2.2.2 == 0) then
   some (r0.1, (r0.2.1, (r0.2.2.1, (p0_0, (p0_1, (p0_2, p0_3))))))
  else
   bif (r0.2.2.2 == 2) then
    some (2, ([], ([], (p0_0, (p0_1, (true, p0_3))))))
   else
    some (2, ([], ([], (p0_0, (p0_1, (p0_2, true))))))
theorem jpat_parser_times.e (call : B0.Call) (rec_ : B0.Rec 34) (p0_0 : List (Int × Int)) (p0_1 : Bool) (p0_2 : Bool) (p0_3 : Bool) (x1_0 : Int) (x1_1 : List (Int × Int)) (x1_2 : List Pat) (least2 : Int) (most3 : Int) :
    den (B0.env call 34 Try.f34 [0] rec_) 100000 false (bodyOf Try.f34.body) (entryS 0 [.box [.pl ⟨.sl (.cons (.int .u8) (.one (.int .u64))), p0_0⟩, .pl ⟨.bool, p0_1⟩, .pl ⟨.bool, p0_2⟩, .pl ⟨.bool, p0_3⟩], .agg [⟨.int .i64, x1_0⟩, ⟨.sl spanRow, x1_1⟩, ⟨.pats, x1_2⟩], .cell (.int .i64) least2 false, .cell (.int .i64) most3 false] S.zero).1 = jpat_parser_times.t call rec_ p0_0 p0_1 p0_2 p0_3 x1_0 x1_1 x1_2 least2 most3 := by kernel_rfl
theorem jpat_parser_times.s (k : Nat) (p0_0 : List (Int × Int)) (p0_1 : Bool) (p0_2 : Bool) (p0_3 : Bool) (x1_0 : Int) (x1_1 : List (Int × Int)) (x1_2 : List Pat) (least2 : Int) (most3 : Int) : jpat_parser_times.C (B0.call (k + 1)) p0_0 p0_1 p0_2 p0_3 x1_0 x1_1 x1_2 least2 most3 = jpat_parser_times.t (B0.call k) (jpat_parser_times.R (B0.call k) k) p0_0 p0_1 p0_2 p0_3 x1_0 x1_1 x1_2 least2 most3 :=
  (call_eq B0 rfl Try.func34 (by kernel_rfl) k _).trans (jpat_parser_times.e _ _ p0_0 p0_1 p0_2 p0_3 x1_0 x1_1 x1_2 least2 most3)
/- 26: pat_fits_c1 -/
noncomputable def pat_fits_c1.R (call : B0.Call) (j : Nat) : B0.Rec 26 := B0.goOn call 26 Try.f26 [] j
noncomputable def pat_fits_c1.t (call : B0.Call) (rec_ : B0.Rec 26) (s0_0 : Int) (s0_1 : List (Int × Int)) (s0_2 : List Pat) : Option Bool :=
  Option.bind (pat_fits.C call s0_0 s0_1 s0_2) fun r0 =>
  some (!r0)
theorem pat_fits_c1.e (call : B0.Call) (rec_ : B0.Rec 26) (s0_0 : Int) (s0_1 : List (Int × Int)) (s0_2 : List Pat) :
    den (B0.env call 26 Try.f26 [] rec_) 100000 false (bodyOf Try.f26.body) (entryS 0 [.agg [⟨.int .i64, s0_0⟩, ⟨.sl spanRow, s0_1⟩, ⟨.pats, s0_2⟩]] S.zero).1 = pat_fits_c1.t call rec_ s0_0 s0_1 s0_2 := by kernel_rfl
theorem pat_fits_c1.s (k : Nat) (s0_0 : Int) (s0_1 : List (Int × Int)) (s0_2 : List Pat) : pat_fits_c1.C (B0.call (k + 1)) s0_0 s0_1 s0_2 = pat_fits_c1.t (B0.call k) (pat_fits_c1.R (B0.call k) k) s0_0 s0_1 s0_2 :=
  (call_eq B0 rfl Try.func26 (by kernel_rfl) k _).trans (pat_fits_c1.e _ _ s0_0 s0_1 s0_2)
/- 35: pat_Times -/
noncomputable def pat_Times.R (call : B0.Call) (j : Nat) : B0.Rec 35 := B0.goOn call 35 Try.f35 [] j
noncomputable def pat_Times.l11 (rec_ : B0.Rec 35) (least1 : Int) (most2 : Int) (p3_0 : Int) (p3_1 : List (Int × Int)) (p3_2 : List Pat) (t6_0 : Int) (t6_1 : List (Int × Int)) (t6_2 : List Pat) (out8_0 : Int) (out8_1 : List (Int × Int)) (out8_2 : List Pat) (t42 : Int) (t43 : Int) : Option (Int × (List (Int × Int)) × (List Pat) × Int) := rec_ (stk Try.f35.body 11) [.val (.cell (.int .i64) least1 false), .val (.cell (.int .i64) most2 false), .box [.pl ⟨.int .i64, p3_0⟩, .pl ⟨.sl spanRow, p3_1⟩, .pl ⟨.pats, p3_2⟩], .box [.pl ⟨.int .i64, t6_0⟩, .pl ⟨.sl spanRow, t6_1⟩, .ow 26 ⟨.pats, t6_2⟩], .box [.pl ⟨.int .i64, out8_0⟩, .pl ⟨.sl spanRow, out8_1⟩, .ow 26 ⟨.pats, out8_2⟩], .val (.cell (.int .i64) t42 false), .val (.cell (.int .i64) t43 false)]
noncomputable def pat_Times.l17 (rec_ : B0.Rec 35) (p3_0 : Int) (p3_1 : List (Int × Int)) (p3_2 : List Pat) (t6_0 : Int) (t6_1 : List (Int × Int)) (t6_2 : List Pat) (out8_0 : Int) (out8_1 : List (Int × Int)) (out8_2 : List Pat) (t69 : Int) (t70 : Int) : Option (Int × (List (Int × Int)) × (List Pat) × Int) := rec_ (stk Try.f35.body 17) [.box [.pl ⟨.int .i64, p3_0⟩, .pl ⟨.sl spanRow, p3_1⟩, .pl ⟨.pats, p3_2⟩], .box [.pl ⟨.int .i64, t6_0⟩, .pl ⟨.sl spanRow, t6_1⟩, .ow 26 ⟨.pats, t6_2⟩], .box [.pl ⟨.int .i64, out8_0⟩, .pl ⟨.sl spanRow, out8_1⟩, .ow 26 ⟨.pats, out8_2⟩], .val (.cell (.int .i64) t69 false), .val (.cell (.int .i64) t70 false)]
noncomputable def pat_Times.t (call : B0.Call) (rec_ : B0.Rec 35) (p0_0 : Int) (p0_1 : List (Int × Int)) (p0_2 : List Pat) (least1 : Int) (most2 : Int) : Option (Int × (List (Int × Int)) × (List Pat) × Int) :=
  bif (decide (least1 < 0)) then
   some (0, ([], ([], 2)))
  else
   Option.bind (pat_Right.C call p0_0 p0_1 p0_2) fun r0 =>
   bif (!r0) then
    some (0, ([], ([], 4)))
   else
    bif (decide (most2 ≥ 0)) then
     bif (decide (most2 < least1)) then
      some (0, ([], ([], 2)))
     else
      bif (decide (least1 > 200)) then
       some (0, ([], ([], 6)))
      else
       bif (decide (most2 ≥ 0)) then
        bif (decide ((IntKind.wrap .i64 (most2 - least1)) > 200)) then
         some (0, ([], ([], 6)))
        else
         pat_Times.l11 rec_ least1 most2 p0_0 p0_1 p0_2 0 [] [] 2 [] [] least1 0
       else
        pat_Times.l11 rec_ least1 most2 p0_0 p0_1 p0_2 0 [] [] 2 [] [] least1 0
    else
     bif (decide (least1 > 200)) then
      some (0, ([], ([], 6)))
     else
      bif (decide (most2 ≥ 0)) then
       bif (decide ((IntKind.wrap .i64 (most2 - least1)) > 200)) then
        some (0, ([], ([], 6)))
       else
        pat_Times.l11 rec_ least1 most2 p0_0 p0_1 p0_2 0 [] [] 2 [] [] least1 0
      else
       pat_Times.l11 rec_ least1 most2 p0_0 p0_1 p0_2 0 [] [] 2 [] [] least1 0
noncomputable def pat_Times.t11 (call : B0.Call) (rec_ : B0.Rec 35) (least1 : Int) (most2 : Int) (p3_0 : Int) (p3_1 : List (Int × Int)) (p3_2 : List Pat) (t6_0 : Int) (t6_1 : List (Int × Int)) (t6_2 : List Pat) (out8_0 : Int) (out8_1 : List (Int × Int)) (out8_2 : List Pat) (t42 : Int) (t43 : Int) : Option (Int × (List (Int × Int)) × (List Pat) × Int) :=
  bif (decide (t43 < t42)) then
   Option.bind (pat_twin.C call p3_0 p3_1 p3_2) fun r0 =>
   bif ((room ((List.length out8_2) + (List.length ((Pat.mk r0.1 r0.2.1 r0.2.2) :: []))) 56) && (((true && true) && true) && true)) then
    pat_Times.l11 rec_ least1 most2 p3_0 p3_1 p3_2 t6_0 t6_1 t6_2 out8_0 out8_1 (out8_2 ++ ((Pat.mk r0.1 r0.2.1 r0.2.2) :: [])) t42 (IntKind.wrap .i64 (t43 + 1))
   else
    none
  else
   bif (decide (most2 < 0)) then
    Option.bind (pat_twin.C call p3_0 p3_1 p3_2) fun r0 =>
    bif ((room ((List.length out8_2) + (List.length ((Pat.mk 4 [] ((Pat.mk r0.1 r0.2.1 r0.2.2) :: [])) :: []))) 56) && (((true && true) && true) && true)) then
     pat_Times.l17 rec_ p3_0 p3_1 p3_2 t6_0 t6_1 t6_2 out8_0 out8_1 (out8_2 ++ ((Pat.mk 4 [] ((Pat.mk r0.1 r0.2.1 r0.2.2) :: [])) :: [])) (maxI 0 (IntKind.wrap .i64 ((maxI most2 least1) - least1))) 0
    else
     none
   else
    pat_Times.l17 rec_ p3_0 p3_1 p3_2 t6_0 t6_1 t6_2 out8_0 out8_1 out8_2 (maxI 0 (IntKind.wrap .i64 ((maxI most2 least1) - least1))) 0
noncomputable def pat_Times.t17 (call : B0.Call) (rec_ : B0.Rec 35) (p3_0 : Int) (p3_1 : List (Int × Int)) (p3_2 : List Pat) (t6_0 : Int) (t6_1 : List (Int × Int)) (t6_2 : List Pat) (out8_0 : Int) (out8_1 : List (Int × Int)) (out8_2 : List Pat) (t69 : Int) (t70 : Int) : Option (Int × (List (Int × Int)) × (List Pat) × Int) :=
  bif (decide (t70 < t69)) then
   Option.bind (pat_twin.C call p3_0 p3_1 p3_2) fun r0 =>
   bif ((room ((List.length out8_2) + (List.length ((Pat.mk 3 [] ((Pat.mk r0.1 r0.2.1 r0.2.2) :: ((Pat.mk 2 [] []) :: []))) :: []))) 56) && (((true && true) && true) && true)) then
    pat_Times.l17 rec_ p3_0 p3_1 p3_2 t6_0 t6_1 t6_2 out8_0 out8_1 (out8_2 ++ ((Pat.mk 3 [] ((Pat.mk r0.1 r0.2.1 r0.2.2) :: ((Pat.mk 2 [] []) :: []))) :: [])) t69 (IntKind.wrap .i64 (t70 + 1))
   else
    none
  else
   Option.bind (pat_Right.C call out8_0 out8_1 out8_2) fun r0 =>
   bif (!r0) then
    some (0, ([], ([], 6)))
   else
    some (out8_0, (out8_1, (out8_2, 0)))
theorem pat_Times.e (call : B0.Call) (rec_ : B0.Rec 35) (p0_0 : Int) (p0_1 : List (Int × Int)) (p0_2 : List Pat) (least1 : Int) (most2 : Int) :
    den (B0.env call 35 Try.f35 [] rec_) 100000 false (bodyOf Try.f35.body) (entryS 0 [.agg [⟨.int .i64, p0_0⟩, ⟨.sl spanRow, p0_1⟩, ⟨.pats, p0_2⟩], .cell (.int .i64) least1 false, .cell (.int .i64) most2 false] S.zero).1 = pat_Times.t call rec_ p0_0 p0_1 p0_2 least1 most2 := by kernel_rfl
theorem pat_Times.s (k : Nat) (p0_0 : Int) (p0_1 : List (Int × Int)) (p0_2 : List Pat) (least1 : Int) (most2 : Int) : pat_Times.C (B0.call (k + 1)) p0_0 p0_1 p0_2 least1 most2 = pat_Times.t (B0.call k) (pat_Times.R (B0.call k) k) p0_0 p0_1 p0_2 least1 most2 :=
  (call_eq B0 rfl Try.func35 (by kernel_rfl) k _).trans (pat_Times.e _ _ p0_0 p0_1 p0_2 least1 most2)
theorem pat_Times.e11 (call : B0.Call) (rec_ : B0.Rec 35) (least1 : Int) (most2 : Int) (p3_0 : Int) (p3_1 : List (Int × Int)) (p3_2 : List Pat) (t6_0 : Int) (t6_1 : List (Int × Int)) (t6_2 : List Pat) (out8_0 : Int) (out8_1 : List (Int × Int)) (out8_2 : List Pat) (t42 : Int) (t43 : Int) :
    den (B0.env call 35 Try.f35 [] rec_) 100000 true (stk Try.f35.body 11) (putXs [.t 1, .t 2, .p 3 [none, none, none], .p 6 [none, none, some 26], .p 8 [none, none, some 26], .t 42, .t 43] [.val (.cell (.int .i64) least1 false), .val (.cell (.int .i64) most2 false), .box [.pl ⟨.int .i64, p3_0⟩, .pl ⟨.sl spanRow, p3_1⟩, .pl ⟨.pats, p3_2⟩], .box [.pl ⟨.int .i64, t6_0⟩, .pl ⟨.sl spanRow, t6_1⟩, .ow 26 ⟨.pats, t6_2⟩], .box [.pl ⟨.int .i64, out8_0⟩, .pl ⟨.sl spanRow, out8_1⟩, .ow 26 ⟨.pats, out8_2⟩], .val (.cell (.int .i64) t42 false), .val (.cell (.int .i64) t43 false)] S.zero) = pat_Times.t11 call rec_ least1 most2 p3_0 p3_1 p3_2 t6_0 t6_1 t6_2 out8_0 out8_1 out8_2 t42 t43 := by kernel_rfl
theorem pat_Times.s11 (call : B0.Call) (j : Nat) (least1 : Int) (most2 : Int) (p3_0 : Int) (p3_1 : List (Int × Int)) (p3_2 : List Pat) (t6_0 : Int) (t6_1 : List (Int × Int)) (t6_2 : List Pat) (out8_0 : Int) (out8_1 : List (Int × Int)) (out8_2 : List Pat) (t42 : Int) (t43 : Int) : pat_Times.l11 (pat_Times.R call (j + 1)) least1 most2 p3_0 p3_1 p3_2 t6_0 t6_1 t6_2 out8_0 out8_1 out8_2 t42 t43 = pat_Times.t11 call (pat_Times.R call j) least1 most2 p3_0 p3_1 p3_2 t6_0 t6_1 t6_2 out8_0 out8_1 out8_2 t42 t43 :=
  (goOn_eq B0 (by kernel_rfl) rfl call [] j _).trans (pat_Times.e11 _ _ least1 most2 p3_0 p3_1 p3_2 t6_0 t6_1 t6_2 out8_0 out8_1 out8_2 t42 t43)
theorem pat_Times.e17 (call : B0.Call) (rec_ : B0.Rec 35) (p3_0 : Int) (p3_1 : List (Int × Int)) (p3_2 : List Pat) (t6_0 : Int) (t6_1 : List (Int × Int)) (t6_2 : List Pat) (out8_0 : Int) (out8_1 : List (Int × Int)) (out8_2 : List Pat) (t69 : Int) (t70 : Int) :
    den (B0.env call 35 Try.f35 [] rec_) 100000 true (stk Try.f35.body 17) (putXs [.p 3 [none, none, none], .p 6 [none, none, some 26], .p 8 [none, none, some 26], .t 69, .t 70] [.box [.pl ⟨.int .i64, p3_0⟩, .pl ⟨.sl spanRow, p3_1⟩, .pl ⟨.pats, p3_2⟩], .box [.pl ⟨.int .i64, t6_0⟩, .pl ⟨.sl spanRow, t6_1⟩, .ow 26 ⟨.pats, t6_2⟩], .box [.pl ⟨.int .i64, out8_0⟩, .pl ⟨.sl spanRow, out8_1⟩, .ow 26 ⟨.pats, out8_2⟩], .val (.cell (.int .i64) t69 false), .val (.cell (.int .i64) t70 false)] S.zero) = pat_Times.t17 call rec_ p3_0 p3_1 p3_2 t6_0 t6_1 t6_2 out8_0 out8_1 out8_2 t69 t70 := by kernel_rfl
theorem pat_Times.s17 (call : B0.Call) (j : Nat) (p3_0 : Int) (p3_1 : List (Int × Int)) (p3_2 : List Pat) (t6_0 : Int) (t6_1 : List (Int × Int)) (t6_2 : List Pat) (out8_0 : Int) (out8_1 : List (Int × Int)) (out8_2 : List Pat) (t69 : Int) (t70 : Int) : pat_Times.l17 (pat_Times.R call (j + 1)) p3_0 p3_1 p3_2 t6_0 t6_1 t6_2 out8_0 out8_1 out8_2 t69 t70 = pat_Times.t17 call (pat_Times.R call j) p3_0 p3_1 p3_2 t6_0 t6_1 t6_2 out8_0 out8_1 out8_2 t69 t70 :=
  (goOn_eq B0 (by kernel_rfl) rfl call [] j _).trans (pat_Times.e17 _ _ p3_0 p3_1 p3_2 t6_0 t6_1 t6_2 out8_0 out8_1 out8_2 t69 t70)
/- 36: pat_twin -/
noncomputable def pat_twin.R (call : B0.Call) (j : Nat) : B0.Rec 36 := B0.goOn call 36 Try.f36 [] j
noncomputable def pat_twin.l3 (rec_ : B0.Rec 36) (t2_0 : Int) (t2_1 : List (Int × Int)) (t2_2 : List Pat) (out3_0 : Int) (out3_1 : List (Int × Int)) (out3_2 : List Pat) (t13 : List Pat) (t14 : Int) (t15 : Int) : Option (Int × (List (Int × Int)) × (List Pat)) := rec_ (stk Try.f36.body 3) [.box [.pl ⟨.int .i64, t2_0⟩, .pl ⟨.sl spanRow, t2_1⟩, .ow 26 ⟨.pats, t2_2⟩], .box [.pl ⟨.int .i64, out3_0⟩, .pl ⟨.sl spanRow, out3_1⟩, .ow 26 ⟨.pats, out3_2⟩], .val (.cell (.pats) t13 false), .val (.cell (.int .i64) t14 false), .val (.cell (.int .i64) t15 false)]
noncomputable def pat_twin.t (call : B0.Call) (rec_ : B0.Rec 36) (p0_0 : Int) (p0_1 : List (Int × Int)) (p0_2 : List Pat) : Option (Int × (List (Int × Int)) × (List Pat)) :=
  Option.bind (slices_Clone_api_Span_api_Span.C call p0_1) fun r0 =>
  pat_twin.l3 rec_ 0 [] [] p0_0 r0 [] p0_2 ((List.length p0_2) : Int) 0
noncomputable def pat_twin.t3 (call : B0.Call) (rec_ : B0.Rec 36) (t2_0 : Int) (t2_1 : List (Int × Int)) (t2_2 : List Pat) (out3_0 : Int) (out3_1 : List (Int × Int)) (out3_2 : List Pat) (t13 : List Pat) (t14 : Int) (t15 : Int) : Option (Int × (List (Int × Int)) × (List Pat)) :=
  bif (decide (t15 < t14)) then
   Option.bind (idx t13 t15) fun r0 =>
   Option.bind (pat_twin.C call r0.kind r0.set r0.subs) fun r1 =>
   bif ((room ((List.length out3_2) + (List.length ((Pat.mk r1.1 r1.2.1 r1.2.2) :: []))) 56) && (((true && true) && true) && true)) then
    pat_twin.l3 rec_ t2_0 t2_1 t2_2 out3_0 out3_1 (out3_2 ++ ((Pat.mk r1.1 r1.2.1 r1.2.2) :: [])) t13 t14 (IntKind.wrap .i64 (t15 + 1))
   else
    none
  else
   some (out3_0, (out3_1, out3_2))
theorem pat_twin.e (call : B0.Call) (rec_ : B0.Rec 36) (p0_0 : Int) (p0_1 : List (Int × Int)) (p0_2 : List Pat) :
    den (B0.env call 36 Try.f36 [] rec_) 100000 false (bodyOf Try.f36.body) (entryS 0 [.agg [⟨.int .i64, p0_0⟩, ⟨.sl spanRow, p0_1⟩, ⟨.pats, p0_2⟩]] S.zero).1 = pat_twin.t call rec_ p0_0 p0_1 p0_2 := by kernel_rfl
theorem pat_twin.s (k : Nat) (p0_0 : Int) (p0_1 : List (Int × Int)) (p0_2 : List Pat) : pat_twin.C (B0.call (k + 1)) p0_0 p0_1 p0_2 = pat_twin.t (B0.call k) (pat_twin.R (B0.call k) k) p0_0 p0_1 p0_2 :=
  (call_eq B0 rfl Try.func36 (by kernel_rfl) k _).trans (pat_twin.e _ _ p0_0 p0_1 p0_2)
theorem pat_twin.e3 (call : B0.Call) (rec_ : B0.Rec 36) (t2_0 : Int) (t2_1 : List (Int × Int)) (t2_2 : List Pat) (out3_0 : Int) (out3_1 : List (Int × Int)) (out3_2 : List Pat) (t13 : List Pat) (t14 : Int) (t15 : Int) :
    den (B0.env call 36 Try.f36 [] rec_) 100000 true (stk Try.f36.body 3) (putXs [.p 2 [none, none, some 26], .p 3 [none, none, some 26], .t 13, .t 14, .t 15] [.box [.pl ⟨.int .i64, t2_0⟩, .pl ⟨.sl spanRow, t2_1⟩, .ow 26 ⟨.pats, t2_2⟩], .box [.pl ⟨.int .i64, out3_0⟩, .pl ⟨.sl spanRow, out3_1⟩, .ow 26 ⟨.pats, out3_2⟩], .val (.cell (.pats) t13 false), .val (.cell (.int .i64) t14 false), .val (.cell (.int .i64) t15 false)] S.zero) = pat_twin.t3 call rec_ t2_0 t2_1 t2_2 out3_0 out3_1 out3_2 t13 t14 t15 := by kernel_rfl
theorem pat_twin.s3 (call : B0.Call) (j : Nat) (t2_0 : Int) (t2_1 : List (Int × Int)) (t2_2 : List Pat) (out3_0 : Int) (out3_1 : List (Int × Int)) (out3_2 : List Pat) (t13 : List Pat) (t14 : Int) (t15 : Int) : pat_twin.l3 (pat_twin.R call (j + 1)) t2_0 t2_1 t2_2 out3_0 out3_1 out3_2 t13 t14 t15 = pat_twin.t3 call (pat_twin.R call j) t2_0 t2_1 t2_2 out3_0 out3_1 out3_2 t13 t14 t15 :=
  (goOn_eq B0 (by kernel_rfl) rfl call [] j _).trans (pat_twin.e3 _ _ t2_0 t2_1 t2_2 out3_0 out3_1 out3_2 t13 t14 t15)
/- 37: slices_Clone_api_Span_api_Span -/
noncomputable def slices_Clone_api_Span_api_Span.R (call : B0.Call) (j : Nat) : B0.Rec 37 := B0.goOn call 37 Try.f37 [] j
noncomputable def slices_Clone_api_Span_api_Span.t (call : B0.Call) (rec_ : B0.Rec 37) (s0 : List (Int × Int)) : Option (List (Int × Int)) :=
  bif (List.isEmpty s0) then
   Option.bind (bif ((room (0 + (List.length s0)) 8) && (((true && true) && true) && true)) then
      some ([] ++ s0)
     else
      none) fun r0 =>
   bif (Row.same (.one (.sl spanRow)) [] r0) then
    some []
   else
    none
  else
   bif ((room (0 + (List.length s0)) 8) && (((true && true) && true) && true)) then
    some ([] ++ s0)
   else
    none
theorem slices_Clone_api_Span_api_Span.e (call : B0.Call) (rec_ : B0.Rec 37) (s0 : List (Int × Int)) :
    den (B0.env call 37 Try.f37 [] rec_) 100000 false (bodyOf Try.f37.body) (entryS 0 [.cell (.sl spanRow) s0 false] S.zero).1 = slices_Clone_api_Span_api_Span.t call rec_ s0 := by kernel_rfl
theorem slices_Clone_api_Span_api_Span.s (k : Nat) (s0 : List (Int × Int)) : slices_Clone_api_Span_api_Span.C (B0.call (k + 1)) s0 = slices_Clone_api_Span_api_Span.t (B0.call k) (slices_Clone_api_Span_api_Span.R (B0.call k) k) s0 :=
  (call_eq B0 rfl Try.func37 (by kernel_rfl) k _).trans (slices_Clone_api_Span_api_Span.e _ _ s0)
end Go.Proofs.Ytopgnkolfeakaaa.D
/- What the functions on patterns come to: pat.Size. -/
namespace Go.Proofs.Ytopgnkolfeakaaa.D
open Go

theorem pat_Size.loop (call : B0.Call) (l : List Pat) (hl : l.length < 9223372036854775807) (h : ∀ p ∈ l, pat_Size.C call p.kind p.set p.subs = some ((p.parts : Int), (p.deep : Int))) :
    ∀ (r : List Pat) (i j a d : Nat), l.drop i = r → r.length < j → a + Pat.partsL r < 9223372036854775807 → max d (Pat.deepL r) < 9223372036854775807 →
      pat_Size.l3 (pat_Size.R call j) a d l l.length i = some (((a + Pat.partsL r : Nat) : Int), ((max d (Pat.deepL r) + 1 : Nat) : Int)) := by
  intro r
  induction r with
  | nil =>
    intro i j a d hr hj ha hd
    obtain ⟨m, rfl, hm⟩ := succ_of hj
    rw [pat_Size.s3, pat_Size.t3, dec_ge (drop_nil' hr), cond_false]
    rw [Pat.deepL] at hd
    rw [Pat.partsL, Pat.deepL, Nat.max_zero, wrapS d (by omega)]
    rfl
  | cons p r ih =>
    intro i j a d hr hj ha hd
    obtain ⟨m, rfl, hm⟩ := succ_of hj
    obtain ⟨h1, h2, h3⟩ := drop_cons' hr
    rw [Pat.partsL] at ha
    rw [Pat.deepL] at hd
    rw [pat_Size.s3, pat_Size.t3, dec_lt h1, cond_true, idx_nat, h2, Option.bind_some, h p (List.mem_of_getElem? h2), Option.bind_some, wrapS i (by omega), maxI_nat]
    have e : IntKind.wrap .i64 ((a : Int) + (p.parts : Int)) = ((a + p.parts : Nat) : Int) := by rw [wrap64 (by omega) (by omega)]; omega
    rw [List.length_cons] at hj
    rw [e, ih (i + 1) m (a + p.parts) (max d p.deep) h3 (by omega) (by omega) (by omega), Pat.partsL, Pat.deepL]
    congr 3 <;> omega

theorem pat_Size.spec : ∀ (k : Nat) (p : Pat), p.sz < k → p.sz < 4611686018427387904 → pat_Size.C (B0.call k) p.kind p.set p.subs = some ((p.parts : Int), (p.deep : Int)) := by
  intro k
  induction k with
  | zero => intro p h; omega
  | succ k ih =>
    intro p hk hp
    have e := p.sz_eq
    have e1 := Pat.szL_len p.subs
    have e2 := Pat.partsL_le p.subs
    have e3 := Pat.deepL_le p.subs
    rw [pat_Size.s, pat_Size.t]
    refine (pat_Size.loop (B0.call k) p.subs (by omega) (fun q hq => ih q ?_ ?_) p.subs 0 k 1 0 (List.drop_zero) (by omega) (by omega) (by omega)).trans ?_
    · have := Pat.sz_sub hq; omega
    · have := Pat.sz_sub hq; omega
    · rw [p.parts_eq, p.deep_eq]; congr 3 <;> omega

/- pat.fits -/
theorem fitsIdx.loop (call : B0.Call) (l : List Pat) (hl : l.length < 9223372036854775807) (h : ∀ p ∈ l, pat_fits_c1.C call p.kind p.set p.subs = some (!p.fits)) :
    ∀ (r : List Pat) (i j : Nat), l.drop i = r → r.length < j →
      ∃ n : Int, slices_IndexFunc_api_Pat_api_Pat.l2 (slices_IndexFunc_api_Pat_api_Pat.R call j) l l.length i = some n ∧ decide (n ≥ 0) = !(Pat.fitsL r) := by
  intro r
  induction r with
  | nil =>
    intro i j hr hj
    obtain ⟨m, rfl, hm⟩ := succ_of hj
    rw [slices_IndexFunc_api_Pat_api_Pat.s2, slices_IndexFunc_api_Pat_api_Pat.t2, dec_ge (drop_nil' hr), cond_false, Pat.fitsL]
    exact ⟨_, rfl, rfl⟩
  | cons p r ih =>
    intro i j hr hj
    obtain ⟨m, rfl, hm⟩ := succ_of hj
    obtain ⟨h1, h2, h3⟩ := drop_cons' hr
    rw [List.length_cons] at hj
    rw [slices_IndexFunc_api_Pat_api_Pat.s2, slices_IndexFunc_api_Pat_api_Pat.t2, dec_lt h1, cond_true, idx_nat, h2, Option.bind_some, h p (List.mem_of_getElem? h2), Option.bind_some, wrapS i (by omega), Pat.fitsL]
    cases hp : p.fits with
    | true =>
      obtain ⟨n, e1, e2⟩ := ih (i + 1) m h3 (by omega)
      exact ⟨n, e1, by rw [e2]; rfl⟩
    | false => exact ⟨(i : Int), rfl, decide_eq_true (by omega)⟩

theorem pat_fits.spec : ∀ (n : Nat) (p : Pat) (k : Nat), p.sz ≤ n → 5 * n < k → n < 4611686018427387904 → pat_fits.C (B0.call k) p.kind p.set p.subs = some p.fits := by
  intro n
  induction n with
  | zero => intro p k h; rw [p.sz_eq] at h; omega
  | succ n ih =>
    intro p k hp hk hn
    obtain ⟨m, rfl⟩ : ∃ m, k = m + 4 := ⟨k - 4, by omega⟩
    have e := p.sz_eq
    have e1 := Pat.szL_len p.subs
    have con : slices_ContainsFunc_api_Pat_api_Pat.C (B0.call (m + 3)) p.subs = some (!(Pat.fitsL p.subs)) := by
      rw [slices_ContainsFunc_api_Pat_api_Pat.s, slices_ContainsFunc_api_Pat_api_Pat.t, slices_IndexFunc_api_Pat_api_Pat.s, slices_IndexFunc_api_Pat_api_Pat.t]
      obtain ⟨q, h1, h2⟩ := fitsIdx.loop (B0.call (m + 1)) p.subs (by omega) (fun q hq => by
        rw [pat_fits_c1.s, pat_fits_c1.t, ih q m (by have := Pat.sz_sub hq; omega) (by omega) (by omega)]; rfl) p.subs 0 (m + 1) List.drop_zero (by omega)
      have h1 : slices_IndexFunc_api_Pat_api_Pat.l2 (slices_IndexFunc_api_Pat_api_Pat.R (B0.call (m + 1)) (m + 1)) p.subs p.subs.length 0 = some q := h1
      rw [h1, Option.bind_some, h2]
    rw [pat_fits.s, pat_fits.t, con, p.fits_eq]
    simp only [Option.bind_some, Bool.cond_eq_ite, beq_iff_eq, bne_iff_ne, Bool.not_not]
    have z1 : ((p.subs.length : Int) = 0) ↔ p.subs.length = 0 := by omega
    have z2 : ((p.set.length : Int) = 0) ↔ p.set.length = 0 := by omega
    have z3 : ((p.subs.length : Int) = 1) ↔ p.subs.length = 1 := by omega
    have z4 : ((p.set.length : Int) ≤ 256) ↔ p.set.length ≤ 256 := by omega
    simp only [z1, z2, z3, z4]
    by_cases k1 : p.kind = 1
    · by_cases h0 : p.subs.length = 0 <;> simp [k1, h0]
    · by_cases k2 : p.kind = 2
      · by_cases h0 : p.set.length = 0 <;> simp [k2, h0]
      · by_cases k3 : p.kind = 3
        · by_cases h0 : p.set.length = 0 <;> simp [k3, h0]
        · by_cases k4 : p.kind = 4
          · by_cases h0 : p.set.length = 0 <;> by_cases h1 : p.subs.length = 1 <;> simp [k4, h0, h1]
          · simp [k1, k2, k3, k4]

theorem pat_Right.spec (p : Pat) (k : Nat) (hk : 5 * p.sz + 1 < k) (hn : p.sz < 4611686018427387904) : pat_Right.C (B0.call k) p.kind p.set p.subs = some p.right := by
  obtain ⟨m, rfl⟩ : ∃ m, k = m + 1 := ⟨k - 1, by omega⟩
  rw [pat_Right.s, pat_Right.t, pat_Size.spec m p (by omega) hn, pat_fits.spec p.sz p m (Nat.le_refl _) (by omega) hn]
  unfold Pat.right
  by_cases h1 : p.parts ≤ 200
  · by_cases h2 : p.deep ≤ 40
    · have h1' : (p.parts : Int) ≤ 200 := by omega
      have h2' : (p.deep : Int) ≤ 40 := by omega
      simp [h1, h2, h1', h2']
    · have h1' : (p.parts : Int) ≤ 200 := by omega
      have h2' : ¬ (p.deep : Int) ≤ 40 := by omega
      simp [h2, h1', h2']
  · have h1' : ¬ (p.parts : Int) ≤ 200 := by omega
    simp [h1, h1']

end Go.Proofs.Ytopgnkolfeakaaa.D
/- A pattern in new memory; the same pattern. -/
namespace Go.Proofs.Ytopgnkolfeakaaa.D
open Go

theorem slices_Clone_api_Span_api_Span.spec (l : List (Int × Int)) (k : Nat) (hl : l.length < 8796093022208) : slices_Clone_api_Span_api_Span.C (B0.call (k + 1)) l = some l := by
  rw [slices_Clone_api_Span_api_Span.s, slices_Clone_api_Span_api_Span.t, room_ok (by omega)]
  cases l with
  | nil => rfl
  | cons x l => rfl

theorem pat_twin.loop (call : B0.Call) (l : List Pat) (hl : l.length < 1099511627776) (h : ∀ p ∈ l, pat_twin.C call p.kind p.set p.subs = some (p.kind, p.set, p.subs)) (a b : Int) (b' c' : List (Int × Int)) (d : List Pat) :
    ∀ (r q : List Pat) (i j : Nat), l.drop i = r → r.length < j → q.length = i → pat_twin.l3 (pat_twin.R call j) a b' d b c' q l l.length i = some (b, c', q ++ r) := by
  intro r
  induction r with
  | nil =>
    intro q i j hr hj hq
    obtain ⟨m, rfl, hm⟩ := succ_of hj
    rw [pat_twin.s3, pat_twin.t3, dec_ge (drop_nil' hr), cond_false, List.append_nil]
  | cons p r ih =>
    intro q i j hr hj hq
    obtain ⟨m, rfl, hm⟩ := succ_of hj
    obtain ⟨h1, h2, h3⟩ := drop_cons' hr
    rw [List.length_cons] at hj
    rw [pat_twin.s3, pat_twin.t3, dec_lt h1, cond_true, idx_nat, h2, Option.bind_some, h p (List.mem_of_getElem? h2), Option.bind_some, wrapS i (by omega), room_ok (by rw [List.length_singleton]; omega)]
    simp only [Pat.eta, Bool.and_true, cond_true]
    rw [ih (q ++ [p]) (i + 1) m h3 (by omega) (by rw [List.length_append, hq]; rfl), List.append_assoc]; rfl

theorem pat_twin.spec : ∀ (n : Nat) (p : Pat) (k : Nat), p.sz ≤ n → n < k → n < 1099511627776 → pat_twin.C (B0.call k) p.kind p.set p.subs = some (p.kind, p.set, p.subs) := by
  intro n
  induction n with
  | zero => intro p k h; rw [p.sz_eq] at h; omega
  | succ n ih =>
    intro p k hp hk hn
    obtain ⟨m, rfl⟩ : ∃ m, k = m + 2 := ⟨k - 2, by omega⟩
    have e := p.sz_eq
    have e1 := Pat.szL_len p.subs
    rw [pat_twin.s, pat_twin.t, slices_Clone_api_Span_api_Span.spec p.set m (by omega), Option.bind_some]
    exact pat_twin.loop (B0.call (m + 1)) p.subs (by omega) (fun q hq => ih q (m + 1) (by have := Pat.sz_sub hq; omega) (by omega) (by omega)) _ _ _ _ _ p.subs [] 0 (m + 1) List.drop_zero (by omega) rfl

/- two sets -/
theorem ref01_Same.loop (call : B0.Call) (a b : List (Int × Int)) (hl : a.length < 9223372036854775807) (he : a.length = b.length) :
    ∀ (r : List (Int × Int)) (i j : Nat), a.drop i = r → r.length < j → ref01_Same.l4 (ref01_Same.R call j) a b a.length i = some (decide (r = b.drop i)) := by
  intro r
  induction r with
  | nil =>
    intro i j hr hj
    obtain ⟨m, rfl, hm⟩ := succ_of hj
    have : b.drop i = [] := List.drop_eq_nil_of_le (by have := drop_nil' hr; omega)
    rw [ref01_Same.s4, ref01_Same.t4, dec_ge (drop_nil' hr), cond_false, this]; rfl
  | cons p r ih =>
    intro i j hr hj
    obtain ⟨m, rfl, hm⟩ := succ_of hj
    obtain ⟨h1, h2, h3⟩ := drop_cons' hr
    have hb : i < b.length := by omega
    have h4 : b.drop i = b[i] :: b.drop (i + 1) := List.drop_eq_getElem_cons hb
    rw [List.length_cons] at hj
    rw [ref01_Same.s4, ref01_Same.t4, dec_lt h1, cond_true, idx_nat, h2, Option.bind_some, idx_nat, List.getElem?_eq_getElem hb, Option.bind_some, wrapS i (by omega), h4, ih (i + 1) m h3 (by omega)]
    unfold eqI
    by_cases e : p = b[i]
    · rw [← e]; simp
    · have : ¬ (p.1 = b[i].1 ∧ p.2 = b[i].2) := fun h => e (Prod.ext h.1 h.2)
      simp only [List.cons.injEq, e, false_and, decide_false]
      rw [show ((p.1 == b[i].1) && ((p.2 == b[i].2) && true)) = false by
        rw [Bool.and_true, Bool.and_eq_false_iff]
        by_cases h5 : p.1 = b[i].1
        · right; simpa using fun h6 => this ⟨h5, h6⟩
        · left; simpa using h5]
      rfl

theorem ref01_Same.spec (a b : List (Int × Int)) (k : Nat) (hk : a.length < k) (hl : a.length < 9223372036854775807) (hb : b.length < 9223372036854775807) : ref01_Same.C (B0.call (k + 1)) a b = some (decide (a = b)) := by
  rw [ref01_Same.s, ref01_Same.t]
  by_cases h : a.length = b.length
  · have e : ((a.length : Int) != (b.length : Int)) = false := by simp [h]
    rw [e, cond_false]
    exact (ref01_Same.loop (B0.call k) a b hl h a 0 k List.drop_zero hk).trans (by rw [List.drop_zero])
  · have e : ((a.length : Int) != (b.length : Int)) = true := by simp; omega
    rw [e, cond_true, decide_eq_false (fun h' => h (by rw [h']))]

/- a pattern is the same as itself -/
theorem ref05_Same.loop (call : B0.Call) (p : Pat) (hl : p.subs.length < 9223372036854775807) (h : ∀ q ∈ p.subs, ref05_Same.C call q.kind q.set q.subs q.kind q.set q.subs = some true) :
    ∀ (r : List Pat) (i j : Nat), p.subs.drop i = r → r.length < j → ref05_Same.l4 (ref05_Same.R call j) p.kind p.set p.subs p.kind p.set p.subs p.subs.length i = some true := by
  intro r
  induction r with
  | nil =>
    intro i j hr hj
    obtain ⟨m, rfl, hm⟩ := succ_of hj
    rw [ref05_Same.s4, ref05_Same.t4, dec_ge (drop_nil' hr), cond_false]
  | cons q r ih =>
    intro i j hr hj
    obtain ⟨m, rfl, hm⟩ := succ_of hj
    obtain ⟨h1, h2, h3⟩ := drop_cons' hr
    rw [List.length_cons] at hj
    rw [ref05_Same.s4, ref05_Same.t4, dec_lt h1, cond_true, idx_nat, h2, Option.bind_some, Option.bind_some, h q (List.mem_of_getElem? h2), Option.bind_some, wrapS i (by omega)]
    exact ih (i + 1) m h3 (by omega)

theorem ref05_Same.refl : ∀ (n : Nat) (p : Pat) (k : Nat), p.sz ≤ n → n + 1 < k → n < 1099511627776 → ref05_Same.C (B0.call k) p.kind p.set p.subs p.kind p.set p.subs = some true := by
  intro n
  induction n with
  | zero => intro p k h; rw [p.sz_eq] at h; omega
  | succ n ih =>
    intro p k hp hk hn
    obtain ⟨m, rfl⟩ : ∃ m, k = m + 2 := ⟨k - 2, by omega⟩
    have e := p.sz_eq
    have e1 := Pat.szL_len p.subs
    rw [ref05_Same.s, ref05_Same.t, ref01_Same.spec p.set p.set m (by omega) (by omega) (by omega)]
    simp only [bne_self_eq_false, cond_false, Option.bind_some, decide_true, Bool.not_true]
    exact ref05_Same.loop (B0.call (m + 1)) p (by omega) (fun q hq => ih q (m + 1) (by have := Pat.sz_sub hq; omega) (by omega) (by omega)) p.subs 0 (m + 1) List.drop_zero (by omega)

end Go.Proofs.Ytopgnkolfeakaaa.D
/- jpat: what the reader makes of its tokens. -/
namespace Go.Proofs.Ytopgnkolfeakaaa.D
open Go

/- sets of at most one span -/
mutual
def Pat.thin : Pat → Prop
  | .mk _ s l => s.length ≤ 1 ∧ Pat.thinL l
def Pat.thinL : List Pat → Prop
  | [] => True
  | p :: l => p.thin ∧ Pat.thinL l
end
theorem Pat.thin_eq (p : Pat) : p.thin ↔ p.set.length ≤ 1 ∧ Pat.thinL p.subs := by cases p; rw [Pat.thin]; rfl
theorem Pat.thinL_iff : ∀ l : List Pat, Pat.thinL l ↔ ∀ p ∈ l, p.thin
  | [] => by rw [Pat.thinL]; simp
  | p :: l => by rw [Pat.thinL, Pat.thinL_iff l]; simp

theorem Pat.thin_szL : ∀ {l : List Pat}, (∀ p ∈ l, p.sz + 1 ≤ 3 * p.parts) → Pat.szL l ≤ 3 * Pat.partsL l
  | [], _ => by rw [Pat.szL]; omega
  | p :: l, h => by
    rw [Pat.szL, Pat.partsL]
    have := h p List.mem_cons_self
    have := Pat.thin_szL (l := l) fun q hq => h q (List.mem_cons_of_mem _ hq)
    omega
theorem Pat.thin_sz (p : Pat) : p.thin → p.sz + 1 ≤ 3 * p.parts := by
  refine Pat.induct (motive := fun p => p.thin → p.sz + 1 ≤ 3 * p.parts) (fun p ih ht => ?_) p
  rw [Pat.thin_eq, Pat.thinL_iff] at ht
  have := Pat.thin_szL fun q hq => ih q hq (ht.2 q hq)
  rw [p.sz_eq, p.parts_eq]
  omega

def Good (p : Pat) : Prop := p.thin ∧ p.parts ≤ 200
theorem Good.sz {p : Pat} (h : Good p) : p.sz ≤ 600 := by have := p.thin_sz h.1; have := h.2; omega

theorem partsL_le {l : List Pat} {n : Nat} (h : ∀ p ∈ l, p.parts ≤ n) : Pat.partsL l ≤ l.length * n := by
  induction l with
  | nil => rw [Pat.partsL]; exact Nat.zero_le _
  | cons p l ih =>
    rw [Pat.partsL, List.length_cons, Nat.add_mul, Nat.one_mul]
    have := h p List.mem_cons_self
    have := ih fun q hq => h q (List.mem_cons_of_mem _ hq)
    omega

theorem jpat_own.loop (call : B0.Call) (l : List Pat) (hl : l.length < 1099511627776) (h : ∀ p ∈ l, jpat_own.C call p.kind p.set p.subs = some (p.kind, p.set, p.subs)) (a b : Int) (b' c' : List (Int × Int)) (d : List Pat) :
    ∀ (r q : List Pat) (i j : Nat), l.drop i = r → r.length < j → q.length = i → jpat_own.l3 (jpat_own.R call j) a b' d b c' q l l.length i = some (b, c', q ++ r) := by
  intro r
  induction r with
  | nil =>
    intro q i j hr hj hq
    obtain ⟨m, rfl, hm⟩ := succ_of hj
    rw [jpat_own.s3, jpat_own.t3, dec_ge (drop_nil' hr), cond_false, List.append_nil]
  | cons p r ih =>
    intro q i j hr hj hq
    obtain ⟨m, rfl, hm⟩ := succ_of hj
    obtain ⟨h1, h2, h3⟩ := drop_cons' hr
    rw [List.length_cons] at hj
    rw [jpat_own.s3, jpat_own.t3, dec_lt h1, cond_true, idx_nat, h2, Option.bind_some, h p (List.mem_of_getElem? h2), Option.bind_some, wrapS i (by omega), room_ok (by rw [List.length_singleton]; omega)]
    simp only [Pat.eta, Bool.and_true, cond_true]
    rw [ih (q ++ [p]) (i + 1) m h3 (by omega) (by rw [List.length_append, hq]; rfl), List.append_assoc]; rfl

theorem jpat_own.spec : ∀ (n : Nat) (p : Pat) (k : Nat), p.sz ≤ n → n < k → n < 1099511627776 → jpat_own.C (B0.call k) p.kind p.set p.subs = some (p.kind, p.set, p.subs) := by
  intro n
  induction n with
  | zero => intro p k h; rw [p.sz_eq] at h; omega
  | succ n ih =>
    intro p k hp hk hn
    obtain ⟨m, rfl⟩ : ∃ m, k = m + 2 := ⟨k - 2, by omega⟩
    have e := p.sz_eq
    have e1 := Pat.szL_len p.subs
    rw [jpat_own.s, jpat_own.t, room_ok (by omega)]
    exact jpat_own.loop (B0.call (m + 1)) p.subs (by omega) (fun q hq => ih q (m + 1) (by have := Pat.sz_sub hq; omega) (by omega) (by omega)) _ _ _ _ _ p.subs [] 0 (m + 1) List.drop_zero (by omega) rfl

/- Times -/
def Thins (l : List Pat) : Prop := ∀ p ∈ l, p.thin ∧ p.parts ≤ 203

theorem Thins.snoc {l : List Pat} {p : Pat} (h : Thins l) (h1 : p.thin) (h2 : p.parts ≤ 203) : Thins (l ++ [p]) := fun q hq => by
  rcases List.mem_append.mp hq with hq | hq
  · exact h q hq
  · rw [List.mem_singleton.mp hq]; exact ⟨h1, h2⟩

def TimesOk (r : Option (Int × List (Int × Int) × List Pat × Int)) : Prop := ∃ (y : Pat) (e : Int), r = some (y.kind, y.set, y.subs, e) ∧ (e = 0 → Good y)

theorem TimesOk.err (e : Int) (h : e ≠ 0) : TimesOk (some (0, [], [], e)) := ⟨.mk 0 [] [], e, rfl, fun h' => absurd h' h⟩

theorem Times.end_ (m : Nat) (hm : 10000000 ≤ m) (l : List Pat) (hl : Thins l) (hn : l.length ≤ 402) :
    TimesOk (Option.bind (pat_Right.C (B0.call m) 2 [] l) fun r0 => bif (!r0) then some (0, ([], ([], 6))) else some (2, ([], (l, 0)))) := by
  have h1 : Pat.partsL l ≤ l.length * 203 := partsL_le fun p hp => (hl p hp).2
  have ht : (Pat.mk 2 [] l).thin := by rw [Pat.thin_eq, Pat.thinL_iff]; exact ⟨Nat.zero_le _, fun p hp => (hl p hp).1⟩
  have h2 := Pat.thin_sz _ ht
  have h3 : (Pat.mk 2 [] l).parts = Pat.partsL l + 1 := Pat.parts_eq _
  have := pat_Right.spec (Pat.mk 2 [] l) m (by omega) (by omega)
  have this : pat_Right.C (B0.call m) 2 [] l = some (Pat.mk 2 [] l).right := this
  rw [this, Option.bind_some]
  cases hr : (Pat.mk 2 [] l).right with
  | false => exact TimesOk.err 6 (by decide)
  | true =>
    refine ⟨.mk 2 [] l, 0, rfl, fun _ => ⟨ht, ?_⟩⟩
    unfold Pat.right at hr
    simp only [Bool.and_eq_true, decide_eq_true_eq] at hr
    exact hr.1.1

theorem Times.loop17 (q : Nat) (hq : 10000000 ≤ q) (x : Pat) (hx : Good x) (a : Int) (b : List (Int × Int)) (c : List Pat) (n : Nat) (hn : n ≤ 200) :
    ∀ (r i j : Nat) (l : List Pat), i + r = n → r < j → Thins l → l.length ≤ 201 + i →
      TimesOk (pat_Times.l17 (pat_Times.R (B0.call q) j) x.kind x.set x.subs a b c 2 [] l n i) := by
  intro r
  induction r with
  | zero =>
    intro i j l hi hj hl hlen
    obtain ⟨m, rfl, hm⟩ := succ_of hj
    rw [pat_Times.s17, pat_Times.t17, dec_ge (by omega), cond_false]
    exact Times.end_ q hq l hl (by omega)
  | succ r ih =>
    intro i j l hi hj hl hlen
    obtain ⟨m, rfl, hm⟩ := succ_of hj
    rw [pat_Times.s17, pat_Times.t17, dec_lt (by omega), cond_true, pat_twin.spec x.sz x q (Nat.le_refl _) (by have := hx.sz; omega) (by have := hx.sz; omega), Option.bind_some, wrapS i (by omega),
      room_ok (by rw [List.length_singleton]; omega)]
    simp only [Pat.eta, Bool.and_true, cond_true]
    refine ih (i + 1) m _ (by omega) (by omega) (hl.snoc ?_ ?_) (by rw [List.length_append, List.length_singleton]; omega)
    · rw [Pat.thin_eq, Pat.thinL_iff]
      refine ⟨Nat.zero_le _, fun p hp => ?_⟩
      have hp : p ∈ [x, Pat.mk 2 [] []] := hp
      rcases List.mem_cons.mp hp with rfl | hp
      · exact hx.1
      · rw [List.mem_singleton.mp hp, Pat.thin_eq, Pat.thinL_iff]; exact ⟨Nat.zero_le _, fun p hp => by cases hp⟩
    · rw [Pat.parts_eq]
      show Pat.partsL [x, Pat.mk 2 [] []] + 1 ≤ 203
      rw [Pat.partsL, Pat.partsL, Pat.partsL, Pat.parts_eq (Pat.mk 2 [] [])]
      show x.parts + (Pat.partsL [] + 1 + 0) + 1 ≤ 203
      rw [Pat.partsL]
      have := hx.2
      omega

theorem Times.loop11 (q : Nat) (hq : 10000000 ≤ q) (x : Pat) (hx : Good x) (most : Int) (a : Int) (b : List (Int × Int)) (c : List Pat) (n : Nat) (hn : n ≤ 200) (hm : most < 0 ∨ (n : Int) ≤ most ∧ most ≤ n + 200) :
    ∀ (r i j : Nat) (l : List Pat), i + r = n → r + 300 < j → Thins l → l.length ≤ i →
      TimesOk (pat_Times.l11 (pat_Times.R (B0.call q) j) n most x.kind x.set x.subs a b c 2 [] l n i) := by
  intro r
  induction r with
  | zero =>
    intro i j l hi hj hl hlen
    obtain ⟨m, rfl, hm'⟩ := succ_of hj
    rw [pat_Times.s11, pat_Times.t11, dec_ge (by omega), cond_false]
    have key : ∀ (n2 : Nat) (l : List Pat), n2 ≤ 200 → Thins l → l.length ≤ 201 → TimesOk (pat_Times.l17 (pat_Times.R (B0.call q) m) x.kind x.set x.subs a b c 2 [] l n2 0) := fun n2 l h1 h2 h3 =>
      Times.loop17 q hq x hx a b c n2 h1 n2 0 m l (by omega) (by omega) h2 (by omega)
    rcases hm with hm | ⟨hm1, hm2⟩
    · rw [decide_eq_true hm, cond_true, pat_twin.spec x.sz x q (Nat.le_refl _) (by have := hx.sz; omega) (by have := hx.sz; omega), Option.bind_some, room_ok (by rw [List.length_singleton]; omega)]
      simp only [Pat.eta, Bool.and_true, cond_true]
      have e2 : maxI 0 (IntKind.wrap .i64 (maxI most (n : Int) - n)) = ((0 : Nat) : Int) := by
        have : maxI most (n : Int) = n := by unfold maxI; rw [if_pos (by omega)]
        rw [this, wrap64 (by omega) (by omega)]
        unfold maxI; split <;> omega
      rw [e2]
      refine key 0 _ (by omega) (hl.snoc ?_ ?_) (by rw [List.length_append, List.length_singleton]; omega)
      · rw [Pat.thin_eq, Pat.thinL_iff]
        refine ⟨Nat.zero_le _, fun p hp => ?_⟩
        have hp : p ∈ [x] := hp
        rw [List.mem_singleton.mp hp]; exact hx.1
      · rw [Pat.parts_eq]
        show Pat.partsL [x] + 1 ≤ 203
        rw [Pat.partsL, Pat.partsL]
        have := hx.2
        omega
    · rw [decide_eq_false (by omega), cond_false]
      have e2 : maxI 0 (IntKind.wrap .i64 (maxI most (n : Int) - n)) = (((most - n).toNat : Nat) : Int) := by
        have : maxI most (n : Int) = most := by unfold maxI; rw [if_neg (by omega)]
        rw [this, wrap64 (by omega) (by omega)]
        unfold maxI; split <;> omega
      rw [e2]
      exact key _ _ (by omega) hl (by omega)
  | succ r ih =>
    intro i j l hi hj hl hlen
    obtain ⟨m, rfl, hm'⟩ := succ_of hj
    rw [pat_Times.s11, pat_Times.t11, dec_lt (by omega), cond_true, pat_twin.spec x.sz x q (Nat.le_refl _) (by have := hx.sz; omega) (by have := hx.sz; omega), Option.bind_some, wrapS i (by omega),
      room_ok (by rw [List.length_singleton]; omega)]
    simp only [Pat.eta, Bool.and_true, cond_true]
    exact ih (i + 1) m _ (by omega) (by omega) (hl.snoc hx.1 (by have := hx.2; omega)) (by rw [List.length_append, List.length_singleton]; omega)

theorem pat_Times.spec (x : Pat) (hx : Good x) (least most : Int) (h0 : 0 ≤ least) (h1 : least < 4611686018427387904) (h2 : most < 4611686018427387904) (h3 : -1 ≤ most) (k : Nat) (hk : 10000000 < k) :
    TimesOk (pat_Times.C (B0.call k) x.kind x.set x.subs least most) := by
  obtain ⟨m, rfl⟩ : ∃ m, k = m + 1 := ⟨k - 1, by omega⟩
  have hs := hx.sz
  rw [pat_Times.s, pat_Times.t, pat_Right.spec x m (by omega) (by omega), Option.bind_some, decide_eq_false (by omega), cond_false]
  have e4 := TimesOk.err 4 (by decide)
  have e2 := TimesOk.err 2 (by decide)
  have e6 := TimesOk.err 6 (by decide)
  have go : least ≤ 200 → (most < 0 ∨ least ≤ most ∧ most ≤ least + 200) → TimesOk (pat_Times.l11 (pat_Times.R (B0.call m) m) least most x.kind x.set x.subs 0 [] [] 2 [] [] least 0) := fun h4 h5 => by
    have := Times.loop11 m (by omega) x hx most 0 [] [] least.toNat (by omega) (by omega) least.toNat 0 m [] (by omega) (by omega) (fun p hp => by cases hp) (Nat.zero_le _)
    have e : ((least.toNat : Nat) : Int) = least := by omega
    rw [e] at this
    exact this
  cases x.right with
  | false => exact e4
  | true =>
    simp only [Bool.not_true, cond_false, Bool.cond_decide]
    by_cases c1 : most ≥ 0
    · rw [wrap64 (by omega) (by omega)]
      by_cases c2 : most < least
      · simp only [c1, c2, if_true]; exact e2
      · by_cases c3 : least > 200
        · simp only [c1, c2, c3, if_true, if_false]; exact e6
        · by_cases c4 : most - least > 200
          · simp only [c1, c2, c3, c4, if_true, if_false]; exact e6
          · simp only [c1, c2, c3, c4, if_true, if_false]; exact go (by omega) (.inr (by omega))
    · by_cases c3 : least > 200
      · simp only [c1, c3, if_true, if_false]; exact e6
      · simp only [c1, c3, if_false]; exact go (by omega) (.inl (by omega))

end Go.Proofs.Ytopgnkolfeakaaa.D
/- jpat: the reader comes to an end. -/
namespace Go.Proofs.Ytopgnkolfeakaaa.D
open Go

abbrev Toks := List (Int × Int)
/- the end stands at the end, and nowhere else -/
def T (l : Toks) : Prop := ∃ pre : Toks, l = pre ++ [(101, 0)] ∧ ∀ t ∈ pre, t.1 ≠ 101

theorem T.ne {l : Toks} (h : T l) : ∃ t r, l = t :: r := by
  obtain ⟨pre, rfl, _⟩ := h
  cases pre with
  | nil => exact ⟨_, _, rfl⟩
  | cons t r => exact ⟨_, _, rfl⟩

theorem T.tail {t : Int × Int} {r : Toks} (h : T (t :: r)) (h1 : t.1 ≠ 101) : T r := by
  obtain ⟨pre, e, hp⟩ := h
  cases pre with
  | nil => injection e with e1 e2; rw [e1] at h1; exact absurd rfl h1
  | cons u pre =>
    injection e with e1 e2
    exact ⟨pre, e2, fun t ht => hp t (List.mem_cons_of_mem _ ht)⟩

theorem jpat_parser_is.spec (t : Int × Int) (r : Toks) (f a g : Bool) (kind : Int) (k : Nat) : jpat_parser_is.C (B0.call (k + 1)) (t :: r) f a g kind = some (t.1 == kind, t :: r, f, a, g) := by
  rw [jpat_parser_is.s, jpat_parser_is.t, idx_zero]; rfl

theorem jpat_parser_take.spec (l : Toks) (hT : T l) (f a g : Bool) (kind : Int) (hk : kind ≠ 101) (k : Nat) (h2 : 2 ≤ k) :
    ∃ b l', jpat_parser_take.C (B0.call k) l f a g kind = some (b, l', f, a, g) ∧ T l' ∧ (b = true → l'.length + 1 = l.length) ∧ (b = false → l' = l) := by
  obtain ⟨m, rfl⟩ : ∃ m, k = m + 2 := ⟨k - 2, by omega⟩
  obtain ⟨t, r, rfl⟩ := hT.ne
  rw [jpat_parser_take.s, jpat_parser_take.t, jpat_parser_is.spec, Option.bind_some]
  cases hb : (t.1 == kind) with
  | false => exact ⟨false, t :: r, rfl, hT, fun h => (by cases h), fun _ => rfl⟩
  | true =>
    have e : t.1 = kind := by simpa using hb
    have h1 : decide ((1 : Int) ≤ ((t :: r).length : Int)) = true := decide_eq_true (by rw [List.length_cons]; omega)
    have h3 : decide (((t :: r).length : Int) ≤ ((t :: r).length : Int)) = true := decide_eq_true (Int.le_refl _)
    have h4 : List.drop (Int.toNat 1) (List.take (Int.toNat ((t :: r).length : Int)) (t :: r)) = r := by
      rw [Int.toNat_natCast, List.take_length]; rfl
    refine ⟨true, r, ?_, hT.tail (by rw [e]; exact hk), fun _ => rfl, fun h => by cases h⟩
    simp only [Bool.not_true, cond_false, h1, h3, h4, Bool.and_true]
    rfl

theorem jpat_parser_need.spec (l : Toks) (hT : T l) (f a g : Bool) (kind : Int) (hk : kind ≠ 101) (k : Nat) (h2 : 3 ≤ k) :
    ∃ l' f', jpat_parser_need.C (B0.call k) l f a g kind = some (l', f', a, g) ∧ T l' ∧ l'.length ≤ l.length ∧ (l'.length + 1 = l.length ∨ f' = true) ∧ (f = true → f' = true) := by
  obtain ⟨m, rfl⟩ : ∃ m, k = m + 1 := ⟨k - 1, by omega⟩
  obtain ⟨b, l', e, hT', h3, h4⟩ := jpat_parser_take.spec l hT f a g kind hk m (by omega)
  rw [jpat_parser_need.s, jpat_parser_need.t, e, Option.bind_some]
  cases b with
  | true => exact ⟨l', f, rfl, hT', by have := h3 rfl; omega, .inl (h3 rfl), fun h => h⟩
  | false => exact ⟨l', true, rfl, hT', by rw [h4 rfl]; exact Nat.le_refl _, .inr rfl, fun _ => rfl⟩

theorem wrap32_range (x : Int) : 0 ≤ IntKind.wrap .u32 x ∧ IntKind.wrap .u32 x < 4294967296 := by
  have : IntKind.wrap .u32 x = x % 4294967296 := by rw [IntKind.wrap_u32]
  omega

theorem jpat_parser_number.spec (l : Toks) (hT : T l) (f a g : Bool) (k : Nat) (h2 : 4 ≤ k) :
    ∃ n l' f' a', jpat_parser_number.C (B0.call k) l f a g = some (n, l', f', a', g) ∧ T l' ∧ 0 ≤ n ∧ n < 4294967296 ∧ l'.length ≤ l.length ∧ (l'.length + 1 = l.length ∨ f' = true) ∧ (f = true → f' = true) := by
  obtain ⟨m, rfl⟩ : ∃ m, k = m + 1 := ⟨k - 1, by omega⟩
  obtain ⟨t, r, rfl⟩ := hT.ne
  obtain ⟨l', f', e, hT', h3, h4, h5⟩ := jpat_parser_need.spec (t :: r) hT f a g 110 (by decide) m (by omega)
  rw [jpat_parser_number.s, jpat_parser_number.t, idx_zero, List.getElem?_cons_zero, Option.bind_some, e, Option.bind_some]
  cases f' with
  | true => exact ⟨0, l', true, a, rfl, hT', by omega, by omega, h3, h4, h5⟩
  | false =>
    simp only [cond_false, Bool.cond_decide]
    split
    · exact ⟨0, l', false, true, rfl, hT', by omega, by omega, h3, h4, h5⟩
    · exact ⟨_, l', false, a, rfl, hT', (wrap32_range _).1, (wrap32_range _).2, h3, h4, h5⟩

/- what a reader's function is to give -/
def Res (n : Nat) (f : Bool) (r : Option (Int × List (Int × Int) × List Pat × Toks × Bool × Bool × Bool)) : Prop :=
  ∃ (y : Pat) (l' : Toks) (f' a' g' : Bool), r = some (y.kind, y.set, y.subs, l', f', a', g') ∧ Good y ∧ T l' ∧ l'.length ≤ n ∧ (f = true → f' = true)
/- .. and something is taken, or the form is wrong -/
def ResS (n : Nat) (f : Bool) (r : Option (Int × List (Int × Int) × List Pat × Toks × Bool × Bool × Bool)) : Prop :=
  ∃ (y : Pat) (l' : Toks) (f' a' g' : Bool), r = some (y.kind, y.set, y.subs, l', f', a', g') ∧ Good y ∧ T l' ∧ l'.length ≤ n ∧ (f = true → f' = true) ∧ (l'.length < n ∨ f' = true)

theorem good_leaf (k : Int) (s : List (Int × Int)) (h : s.length ≤ 1) : Good (.mk k s []) := by
  refine ⟨?_, ?_⟩
  · rw [Pat.thin_eq, Pat.thinL_iff]; exact ⟨h, fun p hp => by cases hp⟩
  · rw [Pat.parts_eq]; show Pat.partsL [] + 1 ≤ 200; rw [Pat.partsL]; omega

theorem jpat_parser_made.spec (l : Toks) (f a g : Bool) (kind : Int) (s : List Pat) (hs : ∀ p ∈ s, Good p) (hn : s.length ≤ 5000) (k : Nat) (hk : 10000000 < k) :
    ∃ (y : Pat) (g' : Bool), jpat_parser_made.C (B0.call k) l f a g kind s = some (y.kind, y.set, y.subs, l, f, a, g') ∧ Good y := by
  obtain ⟨m, rfl⟩ : ∃ m, k = m + 1 := ⟨k - 1, by omega⟩
  have ht : (Pat.mk kind [] s).thin := by rw [Pat.thin_eq, Pat.thinL_iff]; exact ⟨Nat.zero_le _, fun p hp => (hs p hp).1⟩
  have h1 : Pat.partsL s ≤ s.length * 200 := partsL_le fun p hp => (hs p hp).2
  have h2 := Pat.thin_sz _ ht
  have h3 : (Pat.mk kind [] s).parts = Pat.partsL s + 1 := Pat.parts_eq _
  have sz := pat_Size.spec m (Pat.mk kind [] s) (by omega) (by omega)
  have sz : pat_Size.C (B0.call m) kind [] s = some (((Pat.mk kind [] s).parts : Int), ((Pat.mk kind [] s).deep : Int)) := sz
  rw [jpat_parser_made.s, jpat_parser_made.t, sz, Option.bind_some]
  simp only [Bool.cond_decide]
  split
  · exact ⟨.mk 2 [] [], true, rfl, good_leaf _ _ (Nat.zero_le _)⟩
  · split
    · exact ⟨.mk 2 [] [], true, rfl, good_leaf _ _ (Nat.zero_le _)⟩
    · exact ⟨.mk kind [] s, g, rfl, ht, by omega⟩

theorem jpat_parser_many.spec (l : Toks) (f a g : Bool) (kind : Int) (s : List Pat) (hs : ∀ p ∈ s, Good p) (hn : s.length ≤ 5000) (k : Nat) (hk : 10000001 < k) :
    ∃ (y : Pat) (g' : Bool), jpat_parser_many.C (B0.call k) l f a g kind s = some (y.kind, y.set, y.subs, l, f, a, g') ∧ Good y := by
  obtain ⟨m, rfl⟩ : ∃ m, k = m + 1 := ⟨k - 1, by omega⟩
  rw [jpat_parser_many.s, jpat_parser_many.t]
  cases hb : ((s.length : Int) == 1) with
  | false =>
    obtain ⟨y, g', e, hy⟩ := jpat_parser_made.spec l f a g kind s hs hn m (by omega)
    rw [cond_false, e]
    exact ⟨y, g', rfl, hy⟩
  | true =>
    have e : s.length = 1 := by have : (s.length : Int) = 1 := by simpa using hb
                                omega
    match s, e with
    | [p], _ => exact ⟨p, g, rfl, hs p List.mem_cons_self⟩

theorem jpat_parser_times.spec (l : Toks) (f a g : Bool) (x : Pat) (hx : Good x) (least most : Int) (h0 : 0 ≤ least) (h1 : least < 4611686018427387904) (h2 : most < 4611686018427387904) (h3 : -1 ≤ most) (k : Nat) (hk : 10000001 < k) :
    ∃ (y : Pat) (a' g' : Bool), jpat_parser_times.C (B0.call k) l f a g x.kind x.set x.subs least most = some (y.kind, y.set, y.subs, l, f, a', g') ∧ Good y := by
  obtain ⟨m, rfl⟩ : ∃ m, k = m + 1 := ⟨k - 1, by omega⟩
  obtain ⟨y, e, h, hg⟩ := pat_Times.spec x hx least most h0 h1 h2 h3 m (by omega)
  rw [jpat_parser_times.s, jpat_parser_times.t, h, Option.bind_some]
  cases hb : (e == 0) with
  | true =>
    have : e = 0 := by simpa using hb
    exact ⟨y, a, g, by simp only [hb, cond_true], hg this⟩
  | false =>
    cases hb2 : (e == 2) with
    | true => exact ⟨.mk 2 [] [], true, g, by simp only [hb, hb2, cond_false, cond_true]; rfl, good_leaf _ _ (Nat.zero_le _)⟩
    | false => exact ⟨.mk 2 [] [], a, true, by simp only [hb, hb2, cond_false]; rfl, good_leaf _ _ (Nat.zero_le _)⟩

/- what is known of the small ones -/
structure Leaf (C : B0.Call) : Prop where
  is_ : ∀ (t : Int × Int) (r : Toks) (f a g : Bool) (kind : Int), jpat_parser_is.C C (t :: r) f a g kind = some (t.1 == kind, t :: r, f, a, g)
  take : ∀ (l : Toks), T l → ∀ (f a g : Bool) (kind : Int), kind ≠ 101 → ∃ b l', jpat_parser_take.C C l f a g kind = some (b, l', f, a, g) ∧ T l' ∧ (b = true → l'.length + 1 = l.length) ∧ (b = false → l' = l)
  need : ∀ (l : Toks), T l → ∀ (f a g : Bool) (kind : Int), kind ≠ 101 → ∃ l' f', jpat_parser_need.C C l f a g kind = some (l', f', a, g) ∧ T l' ∧ l'.length ≤ l.length ∧ (l'.length + 1 = l.length ∨ f' = true) ∧ (f = true → f' = true)
  number : ∀ (l : Toks), T l → ∀ (f a g : Bool), ∃ n l' f' a', jpat_parser_number.C C l f a g = some (n, l', f', a', g) ∧ T l' ∧ 0 ≤ n ∧ n < 4294967296 ∧ l'.length ≤ l.length ∧ (l'.length + 1 = l.length ∨ f' = true) ∧ (f = true → f' = true)
  made : ∀ (l : Toks) (f a g : Bool) (kind : Int) (s : List Pat), (∀ p ∈ s, Good p) → s.length ≤ 5000 → ∃ (y : Pat) (g' : Bool), jpat_parser_made.C C l f a g kind s = some (y.kind, y.set, y.subs, l, f, a, g') ∧ Good y
  many : ∀ (l : Toks) (f a g : Bool) (kind : Int) (s : List Pat), (∀ p ∈ s, Good p) → s.length ≤ 5000 → ∃ (y : Pat) (g' : Bool), jpat_parser_many.C C l f a g kind s = some (y.kind, y.set, y.subs, l, f, a, g') ∧ Good y
  times : ∀ (l : Toks) (f a g : Bool) (x : Pat), Good x → ∀ (least most : Int), 0 ≤ least → least < 4611686018427387904 → most < 4611686018427387904 → -1 ≤ most →
    ∃ (y : Pat) (a' g' : Bool), jpat_parser_times.C C l f a g x.kind x.set x.subs least most = some (y.kind, y.set, y.subs, l, f, a', g') ∧ Good y

theorem leaf (k : Nat) (hk : 10000001 < k) : Leaf (B0.call k) where
  is_ t r f a g kind := by obtain ⟨m, rfl⟩ : ∃ m, k = m + 1 := ⟨k - 1, by omega⟩
                           exact jpat_parser_is.spec t r f a g kind m
  take l h f a g kind hk' := jpat_parser_take.spec l h f a g kind hk' k (by omega)
  need l h f a g kind hk' := jpat_parser_need.spec l h f a g kind hk' k (by omega)
  number l h f a g := jpat_parser_number.spec l h f a g k (by omega)
  made l f a g kind s h1 h2 := jpat_parser_made.spec l f a g kind s h1 h2 k (by omega)
  many l f a g kind s h1 h2 := jpat_parser_many.spec l f a g kind s h1 h2 k hk
  times l f a g x hx least most h0 h1 h2 h3 := jpat_parser_times.spec l f a g x hx least most h0 h1 h2 h3 k hk

theorem jpat_parser_count.res (C : B0.Call) (H : Leaf C) (R : B0.Rec 29) (l : Toks) (hT : T l) (f a g : Bool) (x : Pat) (hx : Good x) : Res l.length f (jpat_parser_count.t C R l f a g x.kind x.set x.subs) := by
  obtain ⟨n, l1, f1, a1, e1, T1, n0, n1, L1, _, M1⟩ := H.number l hT f a g
  rw [jpat_parser_count.t, e1, Option.bind_some]
  have wn : IntKind.wrap .i64 n = n := wrap64 (by omega) (by omega)
  have fin : ∀ (l2 : Toks) (f2 a2 g2 : Bool) (most : Int), T l2 → l2.length ≤ l.length → (f = true → f2 = true) → most < 4611686018427387904 → -1 ≤ most →
      Res l.length f (bif f2 then some (x.kind, x.set, x.subs, l2, f2, a2, g2) else bif a2 then some (x.kind, x.set, x.subs, l2, f2, a2, g2) else
        Option.bind (jpat_parser_times.C C l2 f2 a2 g2 x.kind x.set x.subs n most) fun r => some (r.1, r.2.1, r.2.2.1, r.2.2.2.1, r.2.2.2.2.1, r.2.2.2.2.2.1, r.2.2.2.2.2.2)) := by
    intro l2 f2 a2 g2 most h1 h2 h3 h4 h5
    cases hf : f2 with
    | true => exact ⟨x, l2, true, a2, g2, rfl, hx, h1, h2, fun _ => rfl⟩
    | false =>
      rw [hf] at h3
      cases a2 with
      | true => exact ⟨x, l2, false, true, g2, rfl, hx, h1, h2, h3⟩
      | false =>
        obtain ⟨y, a', g', e, hy⟩ := H.times l2 false false g2 x hx n most n0 (by omega) h4 h5
        rw [cond_false, cond_false, e]
        exact ⟨y, l2, false, a', g', rfl, hy, h1, h2, h3⟩
  cases f1 with
  | true =>
    obtain ⟨l2, f2, e2, T2, L2, _, M2⟩ := H.need l1 T1 true a1 g 125 (by decide)
    simp only [Bool.not_true, cond_false, e2, Option.bind_some, wn]
    exact fin l2 f2 a1 g n T2 (by omega) (fun _ => M2 rfl) (by omega) (by omega)
  | false =>
    obtain ⟨b2, l2, e2, T2, L2, E2⟩ := H.take l1 T1 false a1 g 44 (by decide)
    have L2 : l2.length ≤ l1.length := by
      cases b2 with
      | true => have := L2 rfl; omega
      | false => rw [E2 rfl]; exact Nat.le_refl _
    simp only [Bool.not_false, cond_true, e2, Option.bind_some]
    cases b2 with
    | false =>
      obtain ⟨l3, f3, e3, T3, L3, _, M3⟩ := H.need l2 T2 false a1 g 125 (by decide)
      simp only [cond_false, e3, Option.bind_some, wn]
      exact fin l3 f3 a1 g n T3 (by omega) (fun h => M3 (M1 h)) (by omega) (by omega)
    | true =>
      obtain ⟨t, r, rfl⟩ := T2.ne
      simp only [cond_true, H.is_ t r false a1 g 110, Option.bind_some]
      cases hb : (t.1 == 110) with
      | true =>
        obtain ⟨n4, l4, f4, a4, e4, T4, n40, n41, L4, _, M4⟩ := H.number (t :: r) T2 false a1 g
        obtain ⟨l5, f5, e5, T5, L5, _, M5⟩ := H.need l4 T4 f4 a4 g 125 (by decide)
        simp only [cond_true, e4, e5, Option.bind_some, wn, wrap64 (x := n4) (by omega) (by omega)]
        exact fin l5 f5 a4 g n4 T5 (by omega) (fun h => M5 (M4 (M1 h))) (by omega) (by omega)
      | false =>
        obtain ⟨l5, f5, e5, T5, L5, _, M5⟩ := H.need (t :: r) T2 false a1 g 125 (by decide)
        simp only [cond_false, e5, Option.bind_some, wn]
        exact fin l5 f5 a1 g (-1) T5 (by omega) (fun h => M5 (M1 h)) (by omega) (by omega)

end Go.Proofs.Ytopgnkolfeakaaa.D
/- jpat: the reader comes to an end: items, cats, patterns. -/
namespace Go.Proofs.Ytopgnkolfeakaaa.D
open Go

theorem Good.mk_list {x : Pat} (h : Good x) : ∀ p ∈ [Pat.mk x.kind x.set x.subs], Good p := fun p hp => by rw [List.mem_singleton.mp hp, Pat.eta]; exact h
theorem good_two {x y : Pat} (h : Good x) (h' : Good y) : ∀ p ∈ [Pat.mk x.kind x.set x.subs, Pat.mk y.kind y.set y.subs], Good p := fun p hp => by
  rcases List.mem_cons.mp hp with rfl | hp
  · rw [Pat.eta]; exact h
  · rw [List.mem_singleton.mp hp, Pat.eta]; exact h'

theorem jpat_parser_atom.res (C : B0.Call) (H : Leaf C) (hA : pat_Any.C C = some (1, [(0, 4294967295)], [])) (n : Nat) (hP : ∀ (l : Toks) (f a g : Bool), T l → l.length < n → Res l.length f (jpat_parser_pattern.C C l f a g))
    (R : B0.Rec 28) (l : Toks) (hT : T l) (hn : l.length ≤ n) (f a g : Bool) : ResS l.length f (jpat_parser_atom.t C R l f a g) := by
  rw [jpat_parser_atom.t]
  obtain ⟨b1, l1, e1, T1, L1, E1⟩ := H.take l hT f a g 46 (by decide)
  rw [e1, Option.bind_some]
  cases b1 with
  | true =>
    have := L1 rfl
    simp only [cond_true, hA, Option.bind_some]
    exact ⟨.mk 1 [(0, 4294967295)] [], l1, f, a, g, rfl, good_leaf _ _ (Nat.le_refl _), T1, by omega, fun h => h, .inl (by omega)⟩
  | false =>
    have q1 := E1 rfl
    subst q1
    obtain ⟨b2, l2, e2, T2, L2, E2⟩ := H.take l1 T1 f a g 33 (by decide)
    simp only [cond_false, e2, Option.bind_some]
    cases b2 with
    | true =>
      have := L2 rfl
      exact ⟨.mk 3 [] [], l2, f, a, g, rfl, good_leaf _ _ (Nat.zero_le _), T2, by omega, fun h => h, .inl (by omega)⟩
    | false =>
      have q2 := E2 rfl
      subst q2
      obtain ⟨b3, l3, e3, T3, L3, E3⟩ := H.take l2 T2 f a g 40 (by decide)
      simp only [cond_false, e3, Option.bind_some]
      cases b3 with
      | true =>
        have := L3 rfl
        obtain ⟨y, l4, f4, a4, g4, e4, G4, T4, L4, M4⟩ := hP l3 f a g T3 (by omega)
        obtain ⟨l5, f5, e5, T5, L5, _, M5⟩ := H.need l4 T4 f4 a4 g4 41 (by decide)
        simp only [cond_true, e4, e5, Option.bind_some]
        exact ⟨y, l5, f5, a4, g4, rfl, G4, T5, by omega, fun h => M5 (M4 h), .inl (by omega)⟩
      | false =>
        have q3 := E3 rfl
        subst q3
        obtain ⟨n4, l4, f4, a4, e4, T4, n40, n41, L4, S4, M4⟩ := H.number l3 T3 f a g
        simp only [cond_false, e4, Option.bind_some]
        cases f4 with
        | true => exact ⟨.mk 1 [(n4, n4)] [], l4, true, a4, g, rfl, good_leaf _ _ (Nat.le_refl _), T4, L4, fun _ => rfl, .inr rfl⟩
        | false =>
          have S4 : l4.length + 1 = l3.length := by rcases S4 with h | h; exact h; cases h
          obtain ⟨b5, l5, e5, T5, L5, E5⟩ := H.take l4 T4 false a4 g 45 (by decide)
          simp only [Bool.not_false, cond_true, e5, Option.bind_some]
          cases b5 with
          | true =>
            have := L5 rfl
            obtain ⟨n6, l6, f6, a6, e6, T6, n60, n61, L6, S6, M6⟩ := H.number l5 T5 false a4 g
            simp only [cond_true, e6, Option.bind_some]
            cases a6 with
            | true => exact ⟨.mk 1 [(n4, n6)] [], l6, f6, true, g, rfl, good_leaf _ _ (Nat.le_refl _), T6, by omega, fun h => M6 (M4 h), .inl (by omega)⟩
            | false => exact ⟨.mk 1 [(n4, n6)] [], l6, f6, _, g, rfl, good_leaf _ _ (Nat.le_refl _), T6, by omega, fun h => M6 (M4 h), .inl (by omega)⟩
          | false =>
            have q5 := E5 rfl
            subst q5
            exact ⟨.mk 1 [(n4, n4)] [], l5, false, a4, g, rfl, good_leaf _ _ (Nat.le_refl _), T5, by omega, M4, .inl (by omega)⟩

theorem Res.mono {n n' : Nat} {f f' : Bool} {r} (h : Res n f r) (hn : n ≤ n') (hf : f' = true → f = true) : Res n' f' r := by
  obtain ⟨y, l, f2, a, g, e, h1, h2, h3, h4⟩ := h
  exact ⟨y, l, f2, a, g, e, h1, h2, by omega, fun h => h4 (hf h)⟩

theorem jpat_parser_item.loop (C : B0.Call) (H : Leaf C) (hC : ∀ (l : Toks) (f a g : Bool) (x : Pat), T l → Good x → Res l.length f (jpat_parser_count.C C l f a g x.kind x.set x.subs)) (t0 : Int) (t1 : List (Int × Int)) (t2 : List Pat) :
    ∀ (m : Nat) (l : Toks) (f a g : Bool) (x : Pat) (j : Nat), l.length ≤ m → m < j → T l → Good x → Res l.length f (jpat_parser_item.l2 (jpat_parser_item.R C j) l f a g t0 t1 t2 x.kind x.set x.subs) := by
  intro m
  induction m with
  | zero => intro l f a g x j hl _ hT; obtain ⟨t, r, rfl⟩ := hT.ne; rw [List.length_cons] at hl; omega
  | succ m ih =>
    intro l f a g x j hl hj hT hx
    obtain ⟨j, rfl, hj'⟩ := succ_of hj
    rw [jpat_parser_item.s2, jpat_parser_item.t2]
    cases f with
    | true => exact ⟨x, l, true, a, g, rfl, hx, hT, Nat.le_refl _, fun _ => rfl⟩
    | false =>
      obtain ⟨b1, l1, e1, T1, L1, E1⟩ := H.take l hT false a g 42 (by decide)
      simp only [Bool.not_false, cond_true, e1, Option.bind_some]
      cases b1 with
      | true =>
        have := L1 rfl
        obtain ⟨y, g2, e2, G2⟩ := H.made l1 false a g 4 [Pat.mk x.kind x.set x.subs] hx.mk_list (by simp)
        simp only [cond_true, e2, Option.bind_some]
        exact (ih l1 false a g2 y j (by omega) (by omega) T1 G2).mono (by omega) fun h => h
      | false =>
        have q1 := E1 rfl
        subst q1
        obtain ⟨b2, l2, e2, T2, L2, E2⟩ := H.take l1 T1 false a g 43 (by decide)
        simp only [cond_false, e2, Option.bind_some]
        cases b2 with
        | true =>
          have := L2 rfl
          obtain ⟨y, g3, e3, G3⟩ := H.made l2 false a g 4 [Pat.mk x.kind x.set x.subs] hx.mk_list (by simp)
          obtain ⟨z, g4, e4, G4⟩ := H.made l2 false a g3 2 [Pat.mk x.kind x.set x.subs, Pat.mk y.kind y.set y.subs] (good_two hx G3) (by simp)
          simp only [cond_true, e3, e4, Option.bind_some]
          exact (ih l2 false a g4 z j (by omega) (by omega) T2 G4).mono (by omega) fun h => h
        | false =>
          have q2 := E2 rfl
          subst q2
          obtain ⟨b3, l3, e3, T3, L3, E3⟩ := H.take l2 T2 false a g 63 (by decide)
          simp only [cond_false, e3, Option.bind_some]
          cases b3 with
          | true =>
            have := L3 rfl
            obtain ⟨y, g4, e4, G4⟩ := H.made l3 false a g 3 [Pat.mk x.kind x.set x.subs, Pat.mk 2 [] []] (good_two (y := .mk 2 [] []) hx (good_leaf _ _ (Nat.zero_le _))) (by simp)
            simp only [cond_true, e4, Option.bind_some]
            exact (ih l3 false a g4 y j (by omega) (by omega) T3 G4).mono (by omega) fun h => h
          | false =>
            have q3 := E3 rfl
            subst q3
            obtain ⟨b4, l4, e4, T4, L4, E4⟩ := H.take l3 T3 false a g 123 (by decide)
            simp only [cond_false, e4, Option.bind_some]
            cases b4 with
            | true =>
              have := L4 rfl
              obtain ⟨y, l5, f5, a5, g5, e5, G5, T5, L5, M5⟩ := hC l4 false a g x T4 hx
              simp only [cond_true, e5, Option.bind_some]
              exact (ih l5 f5 a5 g5 y j (by omega) (by omega) T5 G5).mono (by omega) M5
            | false =>
              have q4 := E4 rfl
              subst q4
              exact ⟨x, l4, false, a, g, rfl, hx, T4, Nat.le_refl _, fun h => h⟩

theorem jpat_parser_item.res (C : B0.Call) (H : Leaf C) (hC : ∀ (l : Toks) (f a g : Bool) (x : Pat), T l → Good x → Res l.length f (jpat_parser_count.C C l f a g x.kind x.set x.subs))
    (l : Toks) (f a g : Bool) (hA : ResS l.length f (jpat_parser_atom.C C l f a g)) (j : Nat) (hj : l.length < j) : ResS l.length f (jpat_parser_item.t C (jpat_parser_item.R C j) l f a g) := by
  obtain ⟨y, l1, f1, a1, g1, e1, G1, T1, L1, M1, S1⟩ := hA
  rw [jpat_parser_item.t, e1, Option.bind_some]
  obtain ⟨z, l2, f2, a2, g2, e2, G2, T2, L2, M2⟩ := jpat_parser_item.loop C H hC 0 [] [] l1.length l1 f1 a1 g1 y j (Nat.le_refl _) (by omega) T1 G1
  exact ⟨z, l2, f2, a2, g2, e2, G2, T2, by omega, fun h => M2 (M1 h), by rcases S1 with h | h; exact .inl (by omega); exact .inr (M2 h)⟩

theorem goods_snoc {s : List Pat} {y : Pat} (hs : ∀ p ∈ s, Good p) (hy : Good y) : ∀ p ∈ s ++ [Pat.mk y.kind y.set y.subs], Good p := fun p hp => by
  rcases List.mem_append.mp hp with hp | hp
  · exact hs p hp
  · exact hy.mk_list p hp

theorem jpat_parser_cat.loop (C : B0.Call) (H : Leaf C) (N : Nat) (hI : ∀ (l : Toks) (f a g : Bool), T l → l.length ≤ N → ResS l.length f (jpat_parser_item.C C l f a g)) (t0 : Int) (t1 : List (Int × Int)) (t2 : List Pat) :
    ∀ (m : Nat) (l : Toks) (f a g : Bool) (s : List Pat) (j : Nat), l.length ≤ m → l.length ≤ N → m + 1 < j → T l → (∀ p ∈ s, Good p) → s.length + m ≤ 4000 →
      Res l.length f (jpat_parser_cat.l2 (jpat_parser_cat.R C j) l f a g t0 t1 t2 s) := by
  have stop : ∀ (l : Toks) (f a g : Bool) (s : List Pat) (j : Nat), 0 < j → T l → (∀ p ∈ s, Good p) → s.length ≤ 5000 → Res l.length f (Option.bind (jpat_parser_many.C C l f a g 2 s) fun r => some (r.1, r.2.1, r.2.2.1, r.2.2.2.1, r.2.2.2.2.1, r.2.2.2.2.2.1, r.2.2.2.2.2.2)) := by
    intro l f a g s j _ hT hs hn
    obtain ⟨y, g', e, hy⟩ := H.many l f a g 2 s hs hn
    rw [e]
    exact ⟨y, l, f, a, g', rfl, hy, hT, Nat.le_refl _, fun h => h⟩
  have done : ∀ (l : Toks) (a g : Bool) (s : List Pat) (j : Nat), 0 < j → T l → (∀ p ∈ s, Good p) → s.length ≤ 5000 → Res l.length true (jpat_parser_cat.l2 (jpat_parser_cat.R C j) l true a g t0 t1 t2 s) := by
    intro l a g s j hj hT hs hn
    obtain ⟨j, rfl, _⟩ := succ_of hj
    rw [jpat_parser_cat.s2, jpat_parser_cat.t2]
    exact stop l true a g s 1 (by omega) hT hs hn
  intro m
  induction m with
  | zero => intro l f a g s j hl _ _ hT; obtain ⟨t, r, rfl⟩ := hT.ne; rw [List.length_cons] at hl; omega
  | succ m ih =>
    intro l f a g s j hl hN hj hT hs hn
    obtain ⟨j, rfl, hj'⟩ := succ_of hj
    cases f with
    | true => exact done l a g s _ (by omega) hT hs (by omega)
    | false =>
      rw [jpat_parser_cat.s2, jpat_parser_cat.t2]
      obtain ⟨t, r, rfl⟩ := hT.ne
      have step : Res (t :: r).length false (Option.bind (jpat_parser_item.C C (t :: r) false a g) fun r1 =>
          bif ((room ((List.length s) + (List.length ((Pat.mk r1.1 r1.2.1 r1.2.2.1) :: []))) 56) && (((true && true) && true) && true)) then
            jpat_parser_cat.l2 (jpat_parser_cat.R C j) r1.2.2.2.1 r1.2.2.2.2.1 r1.2.2.2.2.2.1 r1.2.2.2.2.2.2 t0 t1 t2 (s ++ ((Pat.mk r1.1 r1.2.1 r1.2.2.1) :: []))
          else none) := by
        obtain ⟨y, l1, f1, a1, g1, e1, G1, T1, L1, M1, S1⟩ := hI (t :: r) false a g hT hN
        rw [e1, Option.bind_some, room_ok (by rw [List.length_singleton]; omega)]
        cases f1 with
        | true => exact (done l1 a1 g1 _ j (by omega) T1 (goods_snoc hs G1) (by rw [List.length_append, List.length_singleton]; omega)).mono L1 fun h => (by cases h)
        | false =>
          have S1 : l1.length < (t :: r).length := by rcases S1 with h | h; exact h; cases h
          exact (ih l1 false a1 g1 _ j (by omega) (by omega) (by omega) T1 (goods_snoc hs G1) (by rw [List.length_append, List.length_singleton]; omega)).mono (by omega) fun h => h
      have fin := stop (t :: r) false a g s 1 (by omega) hT hs (by omega)
      simp only [Bool.not_false, cond_true, H.is_, Option.bind_some]
      cases (t.1 == 46) with
      | true => exact step
      | false =>
        cases (t.1 == 33) with
        | true => exact step
        | false =>
          cases (t.1 == 40) with
          | true => exact step
          | false =>
            cases (t.1 == 110) with
            | true => exact step
            | false => exact fin

theorem jpat_parser_pattern.loop (C : B0.Call) (H : Leaf C) (N : Nat) (hI : ∀ (l : Toks) (f a g : Bool), T l → l.length ≤ N → Res l.length f (jpat_parser_cat.C C l f a g)) (t0 : Int) (t1 : List (Int × Int)) (t2 : List Pat) :
    ∀ (m : Nat) (l : Toks) (f a g : Bool) (s : List Pat) (j : Nat), l.length ≤ m → l.length ≤ N → m < j → T l → (∀ p ∈ s, Good p) → s.length + m ≤ 4000 →
      Res l.length f (jpat_parser_pattern.l2 (jpat_parser_pattern.R C j) l f a g t0 t1 t2 s) := by
  intro m
  induction m with
  | zero => intro l f a g s j hl _ _ hT; obtain ⟨t, r, rfl⟩ := hT.ne; rw [List.length_cons] at hl; omega
  | succ m ih =>
    intro l f a g s j hl hN hj hT hs hn
    obtain ⟨j, rfl, hj'⟩ := succ_of hj
    rw [jpat_parser_pattern.s2, jpat_parser_pattern.t2]
    have stop : ∀ (l' : Toks) (f : Bool), T l' → l'.length ≤ l.length → Res l.length f (Option.bind (jpat_parser_many.C C l' f a g 3 s) fun r => some (r.1, r.2.1, r.2.2.1, r.2.2.2.1, r.2.2.2.2.1, r.2.2.2.2.2.1, r.2.2.2.2.2.2)) := by
      intro l' f hT' hl'
      obtain ⟨y, g', e, hy⟩ := H.many l' f a g 3 s hs (by omega)
      rw [e]
      exact ⟨y, l', f, a, g', rfl, hy, hT', hl', fun h => h⟩
    cases f with
    | true => exact stop l true hT (Nat.le_refl _)
    | false =>
      obtain ⟨b1, l1, e1, T1, L1, E1⟩ := H.take l hT false a g 124 (by decide)
      simp only [Bool.not_false, cond_true, e1, Option.bind_some]
      cases b1 with
      | false => exact stop l1 false T1 (by rw [E1 rfl]; exact Nat.le_refl _)
      | true =>
        have := L1 rfl
        obtain ⟨y, l2, f2, a2, g2, e2, G2, T2, L2, M2⟩ := hI l1 false a g T1 (by omega)
        simp only [cond_true, e2, Option.bind_some]
        rw [room_ok (by rw [List.length_singleton]; omega)]
        exact (ih l2 f2 a2 g2 _ j (by omega) (by omega) (by omega) T2 (goods_snoc hs G2) (by rw [List.length_append, List.length_singleton]; omega)).mono (by omega) M2

/- all together -/
theorem jpat_parser_pattern.spec : ∀ (n : Nat) (l : Toks) (f a g : Bool) (k : Nat), l.length ≤ n → n ≤ 3000 → T l → 10010000 + 10 * n ≤ k → Res l.length f (jpat_parser_pattern.C (B0.call k) l f a g) := by
  intro n
  induction n with
  | zero => intro l f a g k hl _ hT; obtain ⟨t, r, rfl⟩ := hT.ne; rw [List.length_cons] at hl; omega
  | succ n ih =>
    have atom : ∀ (l : Toks) (f a g : Bool) (k : Nat), l.length ≤ n + 1 → n + 1 ≤ 3000 → T l → 10010000 + 10 * n + 2 ≤ k → ResS l.length f (jpat_parser_atom.C (B0.call k) l f a g) := by
      intro l f a g k hl hn hT hk
      obtain ⟨m, rfl⟩ : ∃ m, k = m + 1 := ⟨k - 1, by omega⟩
      obtain ⟨q, rfl⟩ : ∃ q, m = q + 1 := ⟨m - 1, by omega⟩
      rw [jpat_parser_atom.s]
      exact jpat_parser_atom.res _ (leaf _ (by omega)) (by rw [pat_Any.s, pat_Any.t]) (n + 1) (fun l f a g h1 h2 => ih l f a g (q + 1) (by omega) (by omega) h1 (by omega)) _ l hT hl f a g
    have count : ∀ (k : Nat), 10010000 ≤ k → ∀ (l : Toks) (f a g : Bool) (x : Pat), T l → Good x → Res l.length f (jpat_parser_count.C (B0.call k) l f a g x.kind x.set x.subs) := by
      intro k hk l f a g x hT hx
      obtain ⟨m, rfl⟩ : ∃ m, k = m + 1 := ⟨k - 1, by omega⟩
      rw [jpat_parser_count.s]
      exact jpat_parser_count.res _ (leaf _ (by omega)) _ l hT f a g x hx
    have item : ∀ (l : Toks) (f a g : Bool) (k : Nat), l.length ≤ n + 1 → n + 1 ≤ 3000 → T l → 10010000 + 10 * n + 3 ≤ k → ResS l.length f (jpat_parser_item.C (B0.call k) l f a g) := by
      intro l f a g k hl hn hT hk
      obtain ⟨m, rfl⟩ : ∃ m, k = m + 1 := ⟨k - 1, by omega⟩
      rw [jpat_parser_item.s]
      exact jpat_parser_item.res _ (leaf _ (by omega)) (count m (by omega)) l f a g (atom l f a g m hl hn hT (by omega)) m (by omega)
    have cat : ∀ (l : Toks) (f a g : Bool) (k : Nat), l.length ≤ n + 1 → n + 1 ≤ 3000 → T l → 10010000 + 10 * n + 4 ≤ k → Res l.length f (jpat_parser_cat.C (B0.call k) l f a g) := by
      intro l f a g k hl hn hT hk
      obtain ⟨m, rfl⟩ : ∃ m, k = m + 1 := ⟨k - 1, by omega⟩
      rw [jpat_parser_cat.s, jpat_parser_cat.t]
      exact jpat_parser_cat.loop _ (leaf _ (by omega)) (n + 1) (fun l f a g h1 h2 => item l f a g m h2 hn h1 (by omega)) 0 [] [] l.length l f a g [] m (Nat.le_refl _) hl (by omega) hT (fun p hp => by cases hp) (by rw [List.length_nil]; omega)
    intro l f a g k hl hn hT hk
    obtain ⟨m, rfl⟩ : ∃ m, k = m + 1 := ⟨k - 1, by omega⟩
    rw [jpat_parser_pattern.s, jpat_parser_pattern.t]
    obtain ⟨y, l1, f1, a1, g1, e1, G1, T1, L1, M1⟩ := cat l f a g m hl hn hT (by omega)
    rw [e1, Option.bind_some]
    exact (jpat_parser_pattern.loop _ (leaf _ (by omega)) (n + 1) (fun l f a g h1 h2 => cat l f a g m h2 hn h1 (by omega)) 0 [] [] l1.length l1 f1 a1 g1 _ m (Nat.le_refl _) (by omega) (by omega) T1 G1.mk_list (by rw [List.length_singleton]; omega)).mono L1 M1

end Go.Proofs.Ytopgnkolfeakaaa.D
/- jpat: tokens; blanks change none. -/
namespace Go.Proofs.Ytopgnkolfeakaaa.D
open Go

def digB (b : UInt8) : Bool := decide ((b.toNat : Int) ≥ 48) && decide ((b.toNat : Int) ≤ 57)
def signsB : List UInt8 := [124, 40, 41, 45, 46, 33, 42, 43, 63, 123, 125, 44]
def sigB (b : UInt8) : Bool := decide (Lib.indexByte signsB (b.toNat : Int).toNat.toUInt8 ≥ 0)
def stepD (n : Int) (b : UInt8) : Int := minI (IntKind.wrap .u64 ((IntKind.wrap .u64 (n * 10)) + (IntKind.wrap .u64 (IntKind.wrap .u8 (((UInt8.toNat b) : Int) - 48))))) 4294967296
def tkD : Int → List UInt8 → Int × List UInt8
  | n, [] => (n, [])
  | n, b :: l => if digB b then tkD (stepD n b) l else (n, b :: l)
def firstD (b : UInt8) : Int := IntKind.wrap .u64 (IntKind.wrap .u8 (((UInt8.toNat b) : Int) - 48))
def numT (b : UInt8) (l : List UInt8) : Int × Int := if b.toNat = 48 ∧ (tkD (firstD b) l).2.length < l.length then (120, 0) else (110, (tkD (firstD b) l).1)
def tk : Nat → List UInt8 → Toks
  | 0, _ => []
  | _ + 1, [] => [(101, 0)]
  | k + 1, b :: l => if b.toNat = 32 then tk k l else if sigB b then ((b.toNat : Int), 0) :: tk k l else if digB b then numT b l :: tk k (tkD (firstD b) l).2 else (120, 0) :: tk k l

theorem tkD_len : ∀ (l : List UInt8) (n : Int), (tkD n l).2.length ≤ l.length
  | [], n => Nat.le_refl _
  | b :: l, n => by
    rw [tkD]
    split
    · have := tkD_len l (stepD n b); rw [List.length_cons]; omega
    · exact Nat.le_refl _

theorem tk_fuel : ∀ (k : Nat) (l : List UInt8) (k' : Nat), l.length < k → l.length < k' → tk k l = tk k' l := by
  intro k
  induction k with
  | zero => intro l k' h; omega
  | succ k ih =>
    intro l k' h h'
    obtain ⟨k', rfl, _⟩ := succ_of h'
    cases l with
    | nil => rfl
    | cons b l =>
      rw [List.length_cons] at h h'
      have := tkD_len l (firstD b)
      rw [tk, tk, ih l k' (by omega) (by omega), ih (tkD (firstD b) l).2 k' (by omega) (by omega)]

theorem sig_not {b : UInt8} (h : sigB b = true) : (b.toNat : Int) ≠ 101 := by
  intro e
  unfold sigB at h
  rw [e] at h
  exact absurd h (by decide)

theorem T_cons {t : Int × Int} {l : Toks} (h : t.1 ≠ 101) (hl : T l) : T (t :: l) := by
  obtain ⟨pre, rfl, hp⟩ := hl
  exact ⟨t :: pre, rfl, fun u hu => by rcases List.mem_cons.mp hu with rfl | hu; exact h; exact hp u hu⟩

theorem numT_ne (b : UInt8) (l : List UInt8) : (numT b l).1 ≠ 101 := by
  unfold numT
  split
  · show (120 : Int) ≠ 101; decide
  · show (110 : Int) ≠ 101; decide

theorem tk_T : ∀ (k : Nat) (l : List UInt8), l.length < k → T (tk k l) ∧ (tk k l).length ≤ l.length + 1 := by
  intro k
  induction k with
  | zero => intro l h; omega
  | succ k ih =>
    intro l h
    cases l with
    | nil => exact ⟨⟨[], rfl, fun t h => by cases h⟩, Nat.le_refl _⟩
    | cons b l =>
      rw [List.length_cons] at h
      have := tkD_len l (firstD b)
      obtain ⟨h1, h2⟩ := ih l (by omega)
      rw [tk, List.length_cons]
      split
      · exact ⟨h1, by omega⟩
      · split
        · rename_i hs; exact ⟨T_cons (sig_not hs) h1, by rw [List.length_cons]; omega⟩
        · split
          · obtain ⟨h3, h4⟩ := ih (tkD (firstD b) l).2 (by omega)
            exact ⟨T_cons (numT_ne b l) h3, by rw [List.length_cons]; omega⟩
          · exact ⟨T_cons (by decide) h1, by rw [List.length_cons]; omega⟩

theorem jpat_tokens.loop (C : B0.Call) (hI : ∀ (c : Int) (l : List UInt8), strings_IndexByte.C C l c = some (Lib.indexByte l c.toNat.toUInt8)) (s : List UInt8) (hs : s.length ≤ 2000) :
    ∀ (m : Nat), (∀ (i j : Nat) (out : Toks), (s.drop i).length ≤ m → i ≤ s.length → 2 * m + 1 < j → out.length ≤ i → jpat_tokens.l3 (jpat_tokens.R C j) s out i = some (out ++ tk (m + 1) (s.drop i))) ∧
      (∀ (i j : Nat) (out : Toks) (c n : Int) (fr : Nat), (s.drop i).length ≤ m → i ≤ s.length → 2 * m + 2 < j → out.length < i → fr < i →
        jpat_tokens.l13 (jpat_tokens.R C j) s out i c n fr = some (out ++ (if c = 48 ∧ (s.length - (tkD n (s.drop i)).2.length) - fr > 1 then (120, 0) else (110, (tkD n (s.drop i)).1)) :: tk (m + 1) (tkD n (s.drop i)).2)) := by
  intro m
  induction m with
  | zero =>
    have A : ∀ (i j : Nat) (out : Toks), (s.drop i).length ≤ 0 → i ≤ s.length → 2 * 0 + 1 < j → out.length ≤ i → jpat_tokens.l3 (jpat_tokens.R C j) s out i = some (out ++ tk (0 + 1) (s.drop i)) := by
      intro i j out h1 h2 h3 h4
      obtain ⟨j, rfl, _⟩ := succ_of h3
      have e : s.drop i = [] := List.eq_nil_of_length_eq_zero (by omega)
      have ei : s.length = i := by have := drop_nil' e; omega
      rw [jpat_tokens.s3, jpat_tokens.t3, e, show ((i : Int) == (s.length : Int)) = true by rw [ei]; simp, cond_true, room_ok (by rw [List.length_singleton]; omega)]
      rfl
    refine ⟨A, fun i j out c n fr h1 h2 h3 h4 h5 => ?_⟩
    obtain ⟨j, rfl, _⟩ := succ_of h3
    have e : s.drop i = [] := List.eq_nil_of_length_eq_zero (by omega)
    have ei : s.length = i := by have := drop_nil' e; omega
    have w : IntKind.wrap .i64 ((i : Int) - (fr : Int)) = ((i - fr : Nat) : Int) := by rw [wrap64 (by omega) (by omega)]; omega
    rw [jpat_tokens.s13, jpat_tokens.t13, dec_ge (by omega), cond_false, w, room_ok (by rw [List.length_singleton]; omega), room_ok (by rw [List.length_singleton]; omega)]
    simp only [Bool.and_true, cond_true, e, tkD, List.length_nil, Nat.sub_zero, ei]
    rw [A i j _ (by rw [e]; exact Nat.le_refl 0) h2 (by omega) (by rw [List.length_append, List.length_singleton]; omega), A i j _ (by rw [e]; exact Nat.le_refl 0) h2 (by omega) (by rw [List.length_append, List.length_singleton]; omega), e]
    by_cases c1 : c = 48
    · have c1' : (c == 48) = true := by simp [c1]
      by_cases c2 : i - fr > 1
      · have c2' : decide (((i - fr : Nat) : Int) > 1) = true := decide_eq_true (by omega)
        rw [c1', c2', if_pos ⟨c1, c2⟩]; simp
      · have c2' : decide (((i - fr : Nat) : Int) > 1) = false := decide_eq_false (by omega)
        rw [c1', c2', if_neg (fun h => c2 h.2)]; simp
    · have c1' : (c == 48) = false := by simp [c1]
      rw [c1', if_neg (fun h => c1 h.1)]; simp
  | succ m ih =>
    obtain ⟨ihA, ihB⟩ := ih
    have A : ∀ (i j : Nat) (out : Toks), (s.drop i).length ≤ m + 1 → i ≤ s.length → 2 * (m + 1) + 1 < j → out.length ≤ i → jpat_tokens.l3 (jpat_tokens.R C j) s out i = some (out ++ tk (m + 1 + 1) (s.drop i)) := by
      intro i j out h1 h2 h3 h4
      cases hd : s.drop i with
      | nil =>
        rw [hd] at h1
        obtain ⟨j, rfl, _⟩ := succ_of h3
        have ei : s.length = i := by have := drop_nil' hd; omega
        rw [jpat_tokens.s3, jpat_tokens.t3, show ((i : Int) == (s.length : Int)) = true by rw [ei]; simp, cond_true, room_ok (by rw [List.length_singleton]; omega)]
        rfl
      | cons b r =>
        obtain ⟨g1, g2, g3⟩ := drop_cons' hd
        obtain ⟨j, rfl, _⟩ := succ_of h3
        rw [hd, List.length_cons] at h1
        have hr : r.length ≤ m := by omega
        have next : ∀ (q : Toks), q.length ≤ i + 1 → jpat_tokens.l3 (jpat_tokens.R C j) s q ((i + 1 : Nat) : Int) = some (q ++ tk (m + 1) r) := fun q hq => by
          have := ihA (i + 1) j q (by rw [g3]; exact hr) (by omega) (by omega) hq
          rwa [g3] at this
        rw [jpat_tokens.s3, jpat_tokens.t3, show ((i : Int) == (s.length : Int)) = false by simp; omega, cond_false, idx_nat, g2, Option.bind_some, hI, wrapS i (by omega), Option.bind_some,
          room_ok (by rw [List.length_singleton]; omega), room_ok (by rw [List.length_singleton]; omega)]
        simp only [Bool.and_true, cond_true]
        rw [next out (by omega), next _ (by rw [List.length_append, List.length_singleton]; omega), next _ (by rw [List.length_append, List.length_singleton]; omega), tk]
        by_cases c1 : b.toNat = 32
        · have c1' : (((b.toNat : Nat) : Int) == 32) = true := by rw [c1]; rfl
          rw [c1', cond_true, if_pos c1]
        · have c1' : (((b.toNat : Nat) : Int) == 32) = false := by
            rw [beq_eq_false_iff_ne]; omega
          rw [c1', cond_false, if_neg c1]
          have es : decide (Lib.indexByte (124 :: (40 :: (41 :: (45 :: (46 :: (33 :: (42 :: (43 :: (63 :: (123 :: (125 :: (44 :: [])))))))))))) (b.toNat : Int).toNat.toUInt8 ≥ 0) = sigB b := rfl
          rw [es]
          cases c2 : sigB b with
          | true => rw [cond_true, if_pos rfl, List.append_assoc]; rfl
          | false =>
            rw [cond_false, if_neg (by simp)]
            cases c3 : decide ((b.toNat : Int) ≥ 48) with
            | false =>
              have : digB b = false := by unfold digB; rw [c3]; rfl
              rw [cond_false, this, if_neg (by simp), List.append_assoc]; rfl
            | true =>
              rw [cond_true]
              cases c4 : decide ((b.toNat : Int) ≤ 57) with
              | false =>
                have : digB b = false := by unfold digB; rw [c4, Bool.and_false]
                rw [cond_false, this, if_neg (by simp), List.append_assoc]; rfl
              | true =>
                have : digB b = true := by unfold digB; rw [c3, c4]; rfl
                have w : IntKind.wrap .i64 (((i + 1 : Nat) : Int) - 1) = (i : Int) := by rw [wrap64 (by omega) (by omega)]; omega
                rw [cond_true, this, if_pos rfl, w, ihB (i + 1) j out _ _ i (by rw [g3]; exact hr) (by omega) (by omega) (by omega) (by omega), g3]
                have hlen : s.length = i + 1 + r.length := by
                  have : (s.drop i).length = s.length - i := List.length_drop
                  rw [hd, List.length_cons] at this; omega
                have hq := tkD_len r (firstD b)
                have e1 : (if (b.toNat : Int) = 48 ∧ s.length - (tkD (firstD b) r).2.length - i > 1 then ((120 : Int), (0 : Int)) else (110, (tkD (firstD b) r).1)) = numT b r := by
                  unfold numT
                  by_cases q1 : b.toNat = 48 ∧ (tkD (firstD b) r).2.length < r.length
                  · rw [if_pos q1, if_pos ⟨by omega, by omega⟩]
                  · rw [if_neg q1, if_neg (fun h => q1 ⟨by omega, by omega⟩)]
                exact congrArg (fun z => some (out ++ z :: tk (m + 1) (tkD (firstD b) r).2)) e1
    refine ⟨A, fun i j out c n fr h1 h2 h3 h4 h5 => ?_⟩
    obtain ⟨j, rfl, _⟩ := succ_of h3
    have w : IntKind.wrap .i64 ((i : Int) - (fr : Int)) = ((i - fr : Nat) : Int) := by rw [wrap64 (by omega) (by omega)]; omega
    have tail : ∀ (n : Int), (bif (c == 48) then
          bif (decide (((i - fr : Nat) : Int) > 1)) then jpat_tokens.l3 (jpat_tokens.R C j) s (out ++ ((120, 0) :: [])) i else jpat_tokens.l3 (jpat_tokens.R C j) s (out ++ ((110, n) :: [])) i
        else jpat_tokens.l3 (jpat_tokens.R C j) s (out ++ ((110, n) :: [])) i) = some (out ++ (if c = 48 ∧ i - fr > 1 then (120, 0) else (110, n)) :: tk (m + 1 + 1) (s.drop i)) := by
      intro n
      rw [A i j _ h1 h2 (by omega) (by rw [List.length_append, List.length_singleton]; omega), A i j _ h1 h2 (by omega) (by rw [List.length_append, List.length_singleton]; omega)]
      by_cases c1 : c = 48
      · have c1' : (c == 48) = true := by simp [c1]
        by_cases c2 : i - fr > 1
        · have c2' : decide (((i - fr : Nat) : Int) > 1) = true := decide_eq_true (by omega)
          rw [c1', c2', if_pos ⟨c1, c2⟩]; simp
        · have c2' : decide (((i - fr : Nat) : Int) > 1) = false := decide_eq_false (by omega)
          rw [c1', c2', if_neg (fun h => c2 h.2)]; simp
      · have c1' : (c == 48) = false := by simp [c1]
        rw [c1', if_neg (fun h => c1 h.1)]; simp
    have hlen : (s.drop i).length = s.length - i := List.length_drop
    rw [jpat_tokens.s13, jpat_tokens.t13, w, room_ok (by rw [List.length_singleton]; omega), room_ok (by rw [List.length_singleton]; omega)]
    simp only [Bool.and_true, cond_true]
    rw [tail n]
    cases hd : s.drop i with
    | nil =>
      have ei : s.length = i := by have := drop_nil' hd; omega
      rw [dec_ge (by omega), cond_false, tkD, List.length_nil, Nat.sub_zero, ei]
    | cons b r =>
      obtain ⟨g1, g2, g3⟩ := drop_cons' hd
      rw [hd, List.length_cons] at h1 hlen
      rw [dec_lt g1, cond_true, idx_nat, g2, Option.bind_some, Option.bind_some, Option.bind_some, wrapS i (by omega)]
      have hn : digB b = false → tkD n (b :: r) = (n, b :: r) := fun h => by rw [tkD, h]; rfl
      have fin : digB b = false → some (out ++ (if c = 48 ∧ i - fr > 1 then (120, 0) else (110, n)) :: tk (m + 1 + 1) (b :: r)) = some (out ++ (if c = 48 ∧ s.length - (tkD n (b :: r)).2.length - fr > 1 then (120, 0) else (110, (tkD n (b :: r)).1)) :: tk (m + 1 + 1) (tkD n (b :: r)).2) := fun h => by
        rw [hn h]
        have e : s.length - (b :: r).length = i := by rw [List.length_cons]; omega
        show _ = some (out ++ (if c = 48 ∧ s.length - (b :: r).length - fr > 1 then (120, 0) else (110, n)) :: tk (m + 1 + 1) (b :: r))
        rw [e]
      cases c3 : decide ((b.toNat : Int) ≥ 48) with
      | false => rw [cond_false]; exact fin (by unfold digB; rw [c3]; rfl)
      | true =>
        rw [cond_true]
        cases c4 : decide ((b.toNat : Int) ≤ 57) with
        | false => rw [cond_false]; exact fin (by unfold digB; rw [c4, Bool.and_false])
        | true =>
          have hdg : digB b = true := by unfold digB; rw [c3, c4]; rfl
          have := ihB (i + 1) j out c (stepD n b) fr (by rw [g3]; omega) (by omega) (by omega) (by omega) (by omega)
          rw [g3] at this
          rw [cond_true]
          have hq := tkD_len r (stepD n b)
          rw [tkD, hdg, if_pos rfl, ← tk_fuel (m + 1) (tkD (stepD n b) r).2 (m + 1 + 1) (by omega) (by omega)]
          exact this

theorem jpat_tokens.spec (s : List UInt8) (hs : s.length ≤ 2000) (k : Nat) (hk : 5000 < k) (hI : ∀ (c : Int) (l : List UInt8), strings_IndexByte.C (B0.call k) l c = some (Lib.indexByte l c.toNat.toUInt8)) :
    jpat_tokens.C (B0.call (k + 1)) s = some (tk (s.length + 1) s) := by
  rw [jpat_tokens.s, jpat_tokens.t]
  exact ((jpat_tokens.loop (B0.call k) hI s hs s.length).1 0 k [] (by rw [List.drop_zero]; exact Nat.le_refl _) (Nat.zero_le _) (by omega) (Nat.le_refl _)).trans (by rw [List.drop_zero]; rfl)

end Go.Proofs.Ytopgnkolfeakaaa.D
/- JpatBlanks: blanks that may stand, or not, change nothing. -/
namespace Go.Proofs.Ytopgnkolfeakaaa.D
open Go

/- a text with blanks ahead of each sign -/
def blk (m : Nat) : List UInt8 → List UInt8
  | [] => []
  | b :: l => (if digB b then [b] else List.replicate m 32 ++ [b]) ++ blk m l

theorem tk_blanks (m : Nat) : ∀ (n k : Nat) (l : List UInt8), l.length + n < k → tk k (List.replicate n 32 ++ l) = tk k l := by
  intro n
  induction n with
  | zero => intro k l _; rfl
  | succ n ih =>
    intro k l hk
    obtain ⟨k, rfl, _⟩ := succ_of hk
    rw [List.replicate_succ, List.cons_append, tk, if_pos (by decide), ih k l (by omega)]
    exact tk_fuel _ _ _ (by omega) (by omega)

theorem dig32 : digB 32 = false := by decide

theorem tkD_blk (m : Nat) : ∀ (l : List UInt8) (n : Int), (tkD n (blk m l ++ [32])) = ((tkD n l).1, blk m (tkD n l).2 ++ [32]) := by
  intro l
  induction l with
  | nil => intro n; rfl
  | cons b l ih =>
    intro n
    rw [blk]
    cases h : digB b with
    | true =>
      rw [if_pos rfl, List.singleton_append, List.cons_append, tkD, tkD, h, if_pos rfl, if_pos rfl, ih]
    | false =>
      have h2 : tkD n (b :: l) = (n, b :: l) := by rw [tkD, h]; rfl
      rw [if_neg (by simp), h2]
      show _ = (n, blk m (b :: l) ++ [32])
      rw [blk, h, if_neg (by simp)]
      cases m with
      | zero => show tkD n (b :: (blk 0 l ++ [32])) = _; rw [tkD, h]; rfl
      | succ m => show tkD n (32 :: _) = _; rw [tkD, dig32]; rfl

theorem blk_len (m : Nat) (hm : m ≤ 2) : ∀ l, l.length ≤ (blk m l).length ∧ (blk m l).length ≤ 3 * l.length
  | [] => ⟨Nat.le_refl _, Nat.le_refl _⟩
  | b :: l => by
    obtain ⟨h1, h2⟩ := blk_len m hm l
    rw [blk, List.length_append, List.length_cons]
    split
    · rw [List.length_singleton]; omega
    · rw [List.length_append, List.length_replicate, List.length_singleton]; omega

theorem tk_blk (m : Nat) (hm : m ≤ 2) : ∀ (n : Nat) (l : List UInt8) (k : Nat), l.length ≤ n → 3 * l.length + 1 < k → tk k (blk m l ++ [32]) = tk k l := by
  intro n
  induction n with
  | zero =>
    intro l k hl hk
    have : l = [] := List.eq_nil_of_length_eq_zero (by omega)
    subst this
    obtain ⟨k, rfl, _⟩ := succ_of hk
    obtain ⟨k, rfl, _⟩ := succ_of (show 0 < k by omega)
    rfl
  | succ n ih =>
    intro l k hl hk
    cases l with
    | nil =>
      obtain ⟨k, rfl, _⟩ := succ_of hk
      obtain ⟨k, rfl, _⟩ := succ_of (show 0 < k by omega)
      rfl
    | cons b l =>
      rw [List.length_cons] at hl hk
      obtain ⟨k, rfl, _⟩ := succ_of hk
      have hbl := blk_len m hm l
      have h1 := ih l k (by omega) (by omega)
      rw [blk]
      cases hd : digB b with
      | true =>
        have ht := tkD_len l (firstD b)
        have h2 := ih (tkD (firstD b) l).2 k (by omega) (by omega)
        have hb2 := blk_len m hm (tkD (firstD b) l).2
        rw [if_pos rfl, List.singleton_append, List.cons_append, tk, tk, hd, h1]
        have e1 : numT b (blk m l ++ [32]) = numT b l := by
          unfold numT
          rw [tkD_blk]
          by_cases q : (tkD (firstD b) l).2.length < l.length
          · -- the rest with blanks is shorter too
            have lt : ∀ (l : List UInt8) (n : Int), (tkD n l).2.length < l.length → (blk m (tkD n l).2).length < (blk m l).length := by
              intro l
              induction l with
              | nil => intro n h; exact absurd h (by rw [List.length_nil]; omega)
              | cons c l ihl =>
                intro n h
                rw [tkD] at h ⊢
                cases hc : digB c with
                | false => rw [hc, if_neg (by simp)] at h; exact absurd h (Nat.lt_irrefl _)
                | true =>
                  rw [if_pos rfl, blk, hc, if_pos rfl, List.length_append, List.length_singleton]
                  rcases Nat.lt_or_ge (tkD (stepD n c) l).2.length l.length with h3 | h3
                  · have := ihl _ h3; omega
                  · have h4 := tkD_len l (stepD n c)
                    have h5 : (tkD (stepD n c) l).2 = l := by
                      have suf : ∀ (l : List UInt8) (n : Int), (tkD n l).2.length = l.length → (tkD n l).2 = l := by
                        intro l n
                        cases l with
                        | nil => intro _; rfl
                        | cons d l =>
                          intro h
                          rw [tkD] at h ⊢
                          split
                          · rename_i hdd
                            rw [if_pos hdd, List.length_cons] at h
                            have := tkD_len l (stepD n d)
                            omega
                          · rfl
                      exact suf l _ (by omega)
                    rw [h5]; omega
            have := lt l (firstD b) q
            have q' : (blk m (tkD (firstD b) l).2 ++ [32]).length < (blk m l ++ [32]).length := by rw [List.length_append, List.length_append]; omega
            by_cases z : b.toNat = 48
            · rw [if_pos ⟨z, q'⟩, if_pos ⟨z, q⟩]
            · rw [if_neg (fun h => z h.1), if_neg (fun h => z h.1)]
          · have suf : ∀ (l : List UInt8) (n : Int), (tkD n l).2.length = l.length → (tkD n l).2 = l := by
              intro l n
              cases l with
              | nil => intro _; rfl
              | cons d l =>
                intro h
                rw [tkD] at h ⊢
                split
                · rename_i hdd
                  rw [if_pos hdd, List.length_cons] at h
                  have := tkD_len l (stepD n d)
                  omega
                · rfl
            have e := suf l (firstD b) (by omega)
            rw [if_neg (fun h => by
              have this : (blk m (tkD (firstD b) l).2 ++ [32]).length < (blk m l ++ [32]).length := h.2
              rw [e] at this; exact absurd this (Nat.lt_irrefl _)), if_neg (fun h => q h.2)]
        rw [e1]
        have e2 : (tkD (firstD b) (blk m l ++ [32])).2 = blk m (tkD (firstD b) l).2 ++ [32] := by rw [tkD_blk]
        rw [e2, h2]
      | false =>
        rw [if_neg (by simp), List.append_assoc, List.append_assoc, tk_blanks m m (k + 1) _ (by
          rw [List.singleton_append, List.length_cons, List.length_append, List.length_singleton]; omega), List.singleton_append, tk, tk, hd, h1]
        rfl

/- how JpatBlanks makes the text -/
theorem blk_snoc (m : Nat) (l : List UInt8) (b : UInt8) : blk m (l ++ [b]) = blk m l ++ (if digB b then [b] else List.replicate m 32 ++ [b]) := by
  induction l with
  | nil => show blk m [b] = _; rw [blk, blk, blk, List.append_nil, List.nil_append]
  | cons c l ih => show blk m (c :: (l ++ [b])) = _; rw [blk, blk, ih, List.append_assoc]

theorem take_snoc {l : List UInt8} {i : Nat} {b : UInt8} (h : l[i]? = some b) : l.take (i + 1) = l.take i ++ [b] := by
  rw [List.take_add_one, h]; rfl

theorem one_byte {l : List UInt8} {i : Nat} {b : UInt8} (h : l[i]? = some b) : List.drop i (List.take (i + 1) l) = [b] := by
  have hi : i < l.length := (List.getElem?_eq_some_iff.mp h).1
  rw [take_snoc h, List.drop_append, List.length_take, Nat.min_eq_left (by omega), Nat.sub_self, List.drop_eq_nil_of_le (by rw [List.length_take]; omega)]; rfl

noncomputable def Fin0 (C : B0.Call) (s t : List UInt8) : Option Bool :=
  bif (decide (((List.length (t ++ (32 :: []))) : Int) > 2000)) then some true
  else Option.bind (jpat_Parse.C C s) fun r0 => Option.bind (jpat_Parse.C C (t ++ (32 :: []))) fun r1 =>
    bif (r0.2.2.2 == r1.2.2.2) then Option.bind (ref05_Same.C C r0.1 r0.2.1 r0.2.2.1 r1.1 r1.2.1 r1.2.2.1) fun r2 => some r2 else some false

theorem blanks_loop (C : B0.Call) (s : List UInt8) (n : Int) (hs : s.length ≤ 300) (hn : 0 ≤ n) :
    ∀ (r : List UInt8) (i j : Nat), s.drop i = r → i ≤ s.length → 5 * r.length + 1 < j →
      law07_JpatBlanks.l7 (law07_JpatBlanks.R C j) s n (blk (n.tmod 3).toNat (s.take i)) s.length i = Fin0 C s (blk (n.tmod 3).toNat s) := by
  have hm : (n.tmod 3).toNat ≤ 2 := by have := Int.tmod_lt_of_pos n (show (0 : Int) < 3 by decide); omega
  have hm0 : 0 ≤ n.tmod 3 := Int.tmod_nonneg 3 hn
  intro r
  induction r with
  | nil =>
    intro i j hr hi hj
    obtain ⟨j, rfl, _⟩ := succ_of hj
    have hl := drop_nil' hr
    have hb := blk_len (n.tmod 3).toNat hm s
    rw [law07_JpatBlanks.s7, law07_JpatBlanks.t7, dec_ge hl, cond_false, List.take_of_length_le hl, room_ok (by rw [List.length_singleton]; omega), cond_true]
    rfl
  | cons b r ih =>
    intro i j hr hi hj
    obtain ⟨j, rfl, hj'⟩ := succ_of hj
    obtain ⟨g1, g2, g3⟩ := drop_cons' hr
    rw [List.length_cons] at hj
    have hb := blk_len (n.tmod 3).toNat hm (s.take i)
    rw [List.length_take, Nat.min_eq_left (by omega)] at hb
    have cut : ((decide ((0 : Int) ≤ (i : Int)) && decide ((i : Int) ≤ (IntKind.wrap .i64 ((i : Int) + 1)))) && decide ((IntKind.wrap .i64 ((i : Int) + 1)) ≤ ((List.length s) : Int))) = true := by
      rw [wrapS i (by omega)]
      simp only [Bool.and_eq_true, decide_eq_true_eq]; omega
    have piece : (List.drop (Int.toNat (i : Int)) (List.take (Int.toNat (IntKind.wrap .i64 ((i : Int) + 1))) s)) = [b] := by
      rw [wrapS i (by omega), Int.toNat_natCast, Int.toNat_natCast]; exact one_byte g2
    have nxt := ih (i + 1) 
    -- the inner loop
    have inner : ∀ (q c j : Nat) (t : List UInt8), c + q = (n.tmod 3).toNat → q + 5 * r.length + 3 < j → t.length ≤ 3000 → t ++ List.replicate q 32 ++ [b] = blk (n.tmod 3).toNat (s.take (i + 1)) →
        law07_JpatBlanks.l12 (law07_JpatBlanks.R C j) s n t i s.length i (n.tmod 3) c = Fin0 C s (blk (n.tmod 3).toNat s) := by
      intro q
      induction q with
      | zero =>
        intro c j t hc hj ht he
        obtain ⟨j, rfl, _⟩ := succ_of hj
        have : decide ((c : Int) < n.tmod 3) = false := decide_eq_false (by omega)
        rw [law07_JpatBlanks.s12, law07_JpatBlanks.t12, this, cond_false, cut, cond_true, piece, room_ok (by rw [List.length_singleton]; omega), cond_true, wrapS i (by omega)]
        rw [List.replicate_zero, List.append_nil] at he
        rw [he]
        exact nxt j g3 (by omega) (by omega)
      | succ q ihq =>
        intro c j t hc hj ht he
        obtain ⟨j, rfl, _⟩ := succ_of hj
        have : decide ((c : Int) < n.tmod 3) = true := decide_eq_true (by omega)
        have w : IntKind.wrap .u8 ((c : Int) + 1) = ((c + 1 : Nat) : Int) := by rw [IntKind.wrap_u8]; omega
        rw [law07_JpatBlanks.s12, law07_JpatBlanks.t12, this, cond_true, room_ok (by rw [List.length_singleton]; omega), cond_true, w]
        refine ihq (c + 1) j _ (by omega) (by omega) ?_ ?_
        · have hl := congrArg List.length he
          have hb1 := (blk_len (n.tmod 3).toNat hm (s.take (i + 1))).2
          rw [List.length_take] at hb1
          rw [List.length_append, List.length_append, List.length_replicate, List.length_singleton] at hl
          rw [List.length_append, List.length_singleton]
          omega
        · rw [← he, List.append_assoc t, List.replicate_succ]; rfl
    have hsn : blk (n.tmod 3).toNat (s.take (i + 1)) = blk (n.tmod 3).toNat (s.take i) ++ (if digB b then [b] else List.replicate (n.tmod 3).toNat 32 ++ [b]) := by rw [take_snoc g2, blk_snoc]
    rw [law07_JpatBlanks.s7, law07_JpatBlanks.t7, dec_lt g1, cond_true, idx_nat, g2, Option.bind_some, Option.bind_some]
    have go12 : digB b = false → law07_JpatBlanks.l12 (law07_JpatBlanks.R C j) s n (blk (n.tmod 3).toNat (s.take i)) i s.length i (n.tmod 3) 0 = Fin0 C s (blk (n.tmod 3).toNat s) := fun hd =>
      inner (n.tmod 3).toNat 0 j _ (by omega) (by omega) (by omega) (by rw [hsn, hd, if_neg (by simp), List.append_assoc])
    cases c3 : decide ((b.toNat : Int) ≥ 48) with
    | false => rw [cond_false]; exact go12 (by unfold digB; rw [c3]; rfl)
    | true =>
      rw [cond_true]
      cases c4 : decide ((b.toNat : Int) ≤ 57) with
      | false => rw [Bool.not_false, cond_true]; exact go12 (by unfold digB; rw [c4, Bool.and_false])
      | true =>
        have hd : digB b = true := by unfold digB; rw [c3, c4]; rfl
        rw [Bool.not_true, cond_false, cut, cond_true, piece, room_ok (by rw [List.length_singleton]; omega), cond_true, wrapS i (by omega)]
        rw [hd, if_pos rfl] at hsn
        rw [← hsn]
        exact nxt j g3 (by omega) (by omega)

/- what a text says, by its tokens alone -/
theorem jpat_Parse.of_toks (k : Nat) (hk : 10100000 ≤ k) (q : Toks) (hT : T q) (hq : q.length ≤ 3000) : ∃ (y : Pat) (e : Int), y.sz ≤ 600 ∧
    ∀ u : List UInt8, u.length ≤ 2000 → jpat_tokens.C (B0.call k) u = some q → jpat_Parse.C (B0.call (k + 1)) u = some (y.kind, y.set, y.subs, e) := by
  obtain ⟨y, l', f, a, g, e, G, T', L, _⟩ := jpat_parser_pattern.spec q.length q false false false k (Nat.le_refl _) hq hT (by omega)
  have z : (Pat.mk 0 [] []).sz ≤ 600 := by rw [Pat.sz_eq]; show 0 + Pat.szL [] + 1 ≤ 600; rw [Pat.szL]; omega
  obtain ⟨t, r, rfl⟩ := T'.ne
  obtain ⟨m, rfl⟩ : ∃ m, k = m + 1 := ⟨k - 1, by omega⟩
  have hs := G.sz
  have hr := pat_Right.spec y (m + 1) (by omega) (by omega)
  have ho := jpat_own.spec 600 y (m + 1) hs (by omega) (by omega)
  have key : ∀ (out : Option (Int × List (Int × Int) × List Pat × Int)), (∀ u : List UInt8, u.length ≤ 2000 → jpat_tokens.C (B0.call (m + 1)) u = some q → jpat_Parse.C (B0.call (m + 1 + 1)) u = out) → (∃ (y : Pat) (e : Int), y.sz ≤ 600 ∧ out = some (y.kind, y.set, y.subs, e)) →
      ∃ (y : Pat) (e : Int), y.sz ≤ 600 ∧ ∀ u : List UInt8, u.length ≤ 2000 → jpat_tokens.C (B0.call (m + 1)) u = some q → jpat_Parse.C (B0.call (m + 1 + 1)) u = some (y.kind, y.set, y.subs, e) := by
    rintro out h ⟨y, e, h1, h2⟩
    exact ⟨y, e, h1, fun u hu ht => (h u hu ht).trans h2⟩
  have open_ : ∀ u : List UInt8, u.length ≤ 2000 → jpat_tokens.C (B0.call (m + 1)) u = some q → jpat_Parse.C (B0.call (m + 1 + 1)) u =
      bif f then some (0, [], [], 4) else bif (!(t.1 == 101)) then some (0, [], [], 4) else bif a then some (0, [], [], 5) else bif g then some (0, [], [], 6) else bif (!y.right) then some (0, [], [], 6) else some (y.kind, y.set, y.subs, 0) := by
    intro u hu ht
    rw [jpat_Parse.s, jpat_Parse.t, decide_eq_false (by omega), cond_false, ht, Option.bind_some, e, Option.bind_some, jpat_parser_is.spec, Option.bind_some, hr, Option.bind_some, ho, Option.bind_some]
  refine key _ open_ ?_
  cases f with
  | true => exact ⟨.mk 0 [] [], 4, z, rfl⟩
  | false =>
    cases (t.1 == 101) with
    | false => exact ⟨.mk 0 [] [], 4, z, rfl⟩
    | true =>
      cases a with
      | true => exact ⟨.mk 0 [] [], 5, z, rfl⟩
      | false =>
        cases g with
        | true => exact ⟨.mk 0 [] [], 6, z, rfl⟩
        | false =>
          cases y.right with
          | false => exact ⟨.mk 0 [] [], 6, z, rfl⟩
          | true => exact ⟨y, 0, hs, rfl⟩

theorem index_spec (k : Nat) (c : Int) (l : List UInt8) : strings_IndexByte.C (B0.call (k + 1)) l c = some (Lib.indexByte l c.toNat.toUInt8) := rfl

theorem law07_JpatBlanks.spec (s : List UInt8) (n : Int) (hn : 0 ≤ n) (k : Nat) (hk : 10200000 ≤ k) (hA : law07_alive.C (B0.call k) = some true) : law07_JpatBlanks.C (B0.call (k + 1)) s n = some true := by
  rw [law07_JpatBlanks.s, law07_JpatBlanks.t, hA, Option.bind_some]
  simp only [Bool.not_true, cond_false, Bool.cond_decide]
  split
  · rfl
  · rename_i h300
    have hs : s.length ≤ 300 := by omega
    have hm : (n.tmod 3).toNat ≤ 2 := by have := Int.tmod_lt_of_pos n (show (0 : Int) < 3 by decide); omega
    refine (blanks_loop (B0.call k) s n hs hn s 0 k List.drop_zero (Nat.zero_le _) (by omega)).trans ?_
    unfold Fin0
    simp only [Bool.cond_decide]
    split
    · rfl
    · rename_i h2000
      obtain ⟨m, rfl⟩ : ∃ m, k = m + 3 := ⟨k - 3, by omega⟩
      have hbl := blk_len (n.tmod 3).toNat hm s
      have hl2 : (blk (n.tmod 3).toNat s ++ [32]).length ≤ 2000 := by
        have : ((List.length (blk (n.tmod 3).toNat s ++ [32]) : Nat) : Int) ≤ 2000 := by omega
        omega
      have hT := tk_T (s.length + 1) s (by omega)
      have t1 := jpat_tokens.spec s (by omega) (m + 1) (by omega) (index_spec m)
      have t2 := jpat_tokens.spec (blk (n.tmod 3).toNat s ++ [32]) hl2 (m + 1) (by omega) (index_spec m)
      have e2 : tk ((blk (n.tmod 3).toNat s ++ [32]).length + 1) (blk (n.tmod 3).toNat s ++ [32]) = tk (s.length + 1) s := by
        rw [tk_fuel _ _ (3 * s.length + 5) (by omega) (by rw [List.length_append, List.length_singleton]; omega), tk_blk (n.tmod 3).toNat hm s.length s _ (Nat.le_refl _) (by omega)]
        exact tk_fuel _ _ _ (by omega) (by omega)
      rw [e2] at t2
      obtain ⟨y, e, hy, hp⟩ := jpat_Parse.of_toks (m + 2) (by omega) (tk (s.length + 1) s) hT.1 (by omega)
      rw [hp s (by omega) t1, hp _ hl2 t2, Option.bind_some, Option.bind_some]
      simp only [beq_self_eq_true, cond_true]
      rw [ref05_Same.refl 600 y (m + 3) hy (by omega) (by omega)]; rfl

end Go.Proofs.Ytopgnkolfeakaaa.D
/- strings.IndexByte is what it is said to be. -/
namespace Go.Proofs.Ytopgnkolfeakaaa.D
open Go Go.RowKit

theorem mixed : Try.prog.follows .mixedOrders = true := by kernel_rfl

theorem lite_IndexByte (s : ByteArray) (c : Int) (w : World) :
    Calls Try.prog 22 #[.string s, .int .u8 c] w fun e w' => e = .returned (.int .i64 (Lib.indexByte s.data.toList c.toNat.toUInt8)) ∧ w' = w := by
  have mixed := mixed
  go_enter Try.func22, Try.ntmps22
  go_wp2
  rw [run_callFunc_extern Try.func27 (by kernel_rfl) (by kernel_rfl) (by kernel_rfl) (e := Extern.BytealgIndexByte.indexByte) (by kernel_rfl), Lib.run_indexByteString]
  simp only [Result.andThen]
  rw [Oper.upon_value]
  go_wp2
  go_ret
  exact ⟨rfl, rfl⟩

theorem strings_IndexByte_calls (s : ByteArray) (c : Int) (w : World) :
    Calls Try.prog 15 #[.string s, .int .u8 c] w fun e w' => e = .returned (.int .i64 (Lib.indexByte s.data.toList c.toNat.toUInt8)) ∧ w' = w := by
  have mixed := mixed
  go_enter Try.func15, Try.ntmps15
  go_wp2_with (go_at_call 22; refine (lite_IndexByte _ _ _).mono ?_; rintro e w' ⟨rfl, rfl⟩)
  go_ret
  exact ⟨rfl, rfl⟩

theorem strings_IndexByte_ok (xs : List X) (y : (sig0 15).row.T) (h : ext_strings_IndexByte xs = some y) : FnOk Try.prog (sig0 15) 15 xs y := by
  unfold ext_strings_IndexByte at h
  split at h
  · rename_i s c
    cases h
    refine fnOk_same (t := .int .i64) (c := ⟨.int .i64, Lib.indexByte s c.toNat.toUInt8⟩) rfl rfl rfl rfl (fun args w => run_enter Try.func15 (by kernel_rfl) (Option.eq_some_of_isSome (by kernel_rfl)) args w) ?_
    intro w vs G hE
    have hl := hE.len
    match vs, hl, hE with
    | [a, b], _, hE =>
      have h0 : RepV w G (.cell .str s false) a := hE.tmps 0
      have h1 : RepV w G (.cell (.int .u8) c false) b := hE.tmps 1
      cases h0 with
      | cell _ _ _ _ h0 =>
      cases h1 with
      | cell _ _ _ _ h1 =>
      rw [h0.str_inv, h1.int_inv]
      refine (strings_IndexByte_calls ⟨⟨s⟩⟩ c w).mono ?_
      rintro e w' ⟨rfl, rfl⟩
      exact ⟨_, rfl, rfl, .int _ _⟩
  · cases h

theorem names_ok : (Try.prog.funcs.toList.all fun fn => !(fn.name == "runtime.NumGoroutine")) = true := by kernel_rfl

theorem sound {k f : Nat} {xs : List X} {y : (B0.sig f).row.T} (h : B0.call k f xs = some y) : FnOk Try.prog (B0.sig f) f xs y := by
  refine book_sound B0 mixed ?_ ?_ h
  · intro f fn c hf _
    have hf : Try.prog.funcs[f]? = some fn := hf
    have h2 := (List.all_eq_true.mp names_ok) fn (by rw [← Array.getElem?_toList] at hf; exact List.mem_of_getElem? hf)
    simpa using h2
  · intro f g xs y hx hy
    have hx : ext0 f = some g := hx
    unfold ext0 at hx
    split at hx
    · cases hx; exact strings_IndexByte_ok xs y hy
    · cases hx

end Go.Proofs.Ytopgnkolfeakaaa.D
namespace Go.Proofs.Ytopgnkolfeakaaa.D
open Go
theorem alive_true (k : Nat) : law07_alive.C (B0.call (k + 80)) = some true := by kernel_rfl
end Go.Proofs.Ytopgnkolfeakaaa.D
namespace Go.Proofs.Ytopgnkolfeakaaa.jpatBlanks
open Go.ChangeShapes Go.WideShapes Go.ChangeAt Go.RowKit Go.Proofs.Ytopgnkolfeakaaa.D
open Go.ChangeMaps (open_string shut_string)
theorem own : ownKnob Try.prog.godebug = none := by kernel_rfl
theorem laidOut : laidOutB Try.prog = true := by kernel_rfl
set_option maxRecDepth 100000 in
theorem lifted (os : Os) (started : os.Started) (H : Type) (enc : TypeId × Value → H) :
    ReturnsInHanded {} Try.checked os 3 .any (Rows.jpatBlanksSpec.pre6 enc Try.prog Try.f3 Rows.jpatBlanksRow.domain false) (Rows.jpatBlanksSpec.post enc Try.prog Try.f3 false true false false) := by
  refine returnsInHanded_of_change_sized (C := Try.checked) own started (by kernel_rfl) Try.func3
    (ChangeSpec.witness6 (enc := enc) (C := Try.checked) false ⟨#[], #[.string ⟨#[]⟩, .int .u8 0], []⟩ 8 (by kernel_rfl) (by kernel_rfl) (by kernel_rfl) (by kernel_rfl)) ?_
  intro W base args ds gs before hval0 hW hcnd hsz0 _
  have hval : ∀ (j : Nat) t v, Try.f3.params[j]? = some t → args[j]? = some v → Value.okWide Try.prog W .any base t v := hval0
  have hW' := hW
  obtain ⟨p, q, hA0, hV, rfl, hfz, hnd⟩ := hW
  have hA : DataW.TrodAll enc Try.prog W 0 (fun _ => true) true Try.f3.params.toList args.toList ds p := hA0
  rw [Try.params3] at hA hval
  obtain ⟨v0, vs0, d0, ds0, p0, q0, hargs, rfl, rfl, h0, r0⟩ := trodAll_cons hA
  obtain ⟨v1, vs1, d1, ds1, p1, q1, rfl, rfl, rfl, h1, r1⟩ := trodAll_cons r0
  obtain ⟨rfl, rfl, rfl⟩ := trodAll_nil r1
  obtain rfl : args = #[v0, v1] := by cases args; simp_all
  obtain ⟨rfl, rfl⟩ := trodVars_none hV
  obtain ⟨a0, rfl, rfl, rfl, w0⟩ := open_string Try.underlying9 (hval 0 9 v0 rfl rfl) h0
  obtain ⟨a1, rfl, rfl, rfl, w1⟩ := open_int Try.underlying5 (hval 1 5 v1 rfl rfl) h1
  clear hA0 hval0 hsz0
  have hn : 0 ≤ a1 := by
    have h2 : (decide (IntKind.u8.min ≤ a1) && decide (a1 ≤ IntKind.u8.max)) = true := w1
    rw [Bool.and_eq_true, decide_eq_true_eq] at h2
    exact h2.1
  obtain ⟨⟨s⟩⟩ := a0
  obtain ⟨k, hk⟩ : ∃ k : Nat, 10200000 ≤ k := ⟨10200000, Nat.le_refl _⟩
  have hc : B0.call (k + 80 + 1) 3 [.cell .str s false, .cell (.int .u8) a1 false] = some true := law07_JpatBlanks.spec s a1 hn (k + 80) (by omega) (alive_true k)
  have hok := sound hc
  have ha : ArgsOk W [.cell .str s false, .cell (.int .u8) a1 false] [.string ⟨⟨s⟩⟩, .int .u8 a1] := .cell _ _ _ _ _ (.str s) (.cell _ _ _ _ _ (.int _ _) .nil)
  refine (bool_call (b := true) hok ha rfl rfl rfl).mono fun e W' ⟨he, bel⟩ => ?_
  subst he
  exact ⟨_, rfl, _, _, _, [], _, [], hW', trodAll_mk1 (shut_bool Try.underlying4 _), (trodAll_cons_mk (shut_string Try.underlying9 w0) (trodAll_cons_mk (shut_int Try.underlying5 w1) trodAll_mk0)), rfl, bel.frame _, fun h => by cases h⟩
theorem over : Rows.jpatBlanksRow.holds Try.pinned (OpenSpec.ofChange Rows.jpatBlanksSpec) :=
  OpenClaim.holds_of_wide 3 Try.f3 rfl rfl rfl rfl rfl rfl rfl ⟨rfl, rfl, rfl, rfl, rfl⟩ rfl rfl rfl rfl rfl (by kernel_rfl) Try.func3 (by kernel_rfl)
    (of_decide_eq_true (by kernel_rfl)) (by unfold Func.isWrapper; first | (rw [if_pos (by decide +kernel)]; kernel_rfl) | (rw [if_neg (by decide +kernel)]; exact ⟨rfl, rfl⟩))
    (fun os started H enc _ => lifted os started H enc)
theorem proved : Rows.JpatBlanksSaid := over
end Go.Proofs.Ytopgnkolfeakaaa.jpatBlanks
namespace Go.Proofs.Ytopgnkolfeakaaa
/-- The row, under a short name, for the claim. -/
theorem jpatBlanks_holds : Rows.JpatBlanksSaid := jpatBlanks.proved
#print axioms jpatBlanks_holds
end Go.Proofs.Ytopgnkolfeakaaa
