/- Part of the proof of the law PosRuns: the functions that it reaches, by contract. -/
import Derived.Below
import Derived.Sort.AssemblyPlain
import Derived.Lib.BitFns
import Derived.Shelf.GgSortFunc.RowK
import Derived.Shelf.SlSortCmp.InsertionK
import Derived.KernelRfl
import Derived.Shelf.SlSortCmp.WholeK
import Derived.Shelf.SlSortCmp.NoneTotal
import Derived.RowKit
import Derived.WalkKit
import Derived.Test.YtoifbdaaiejbnaaCPosRuns0
import Derived.Test.YtoifbdaaiejbnaaCPosRuns1
set_option linter.unusedVariables false
set_option linter.unusedSimpArgs false
/- A region that draws its order: any order comes to the same. -/
namespace Go.Proofs.Ytoifbdaaiejbnaa.D
open Go

theorem interN_false {l m : List Nat} (h : interN l m = false) : ∀ x ∈ l, x ∉ m := by
  induction l with
  | nil => intro x hx; cases hx
  | cons a l ih =>
    unfold interN at h
    rw [Bool.or_eq_false_iff] at h
    intro x hx hm
    rcases List.mem_cons.mp hx with rfl | hx
    · rw [memN_iff.mpr hm] at h; cases h.1
    · exact ih h.2 x hx hm

theorem apartAll_at {x : Note} {i : Nat} : ∀ {l : List Note}, apartAll x i l = true → ∀ (k : Nat) y, l[k]? = some y → memN i y.anc = true ∨ x.apart y = true := by
  intro l
  induction l with
  | nil => intro _ k y h; cases k <;> cases h
  | cons a l ih =>
    intro h k y hk
    unfold apartAll at h
    rw [Bool.and_eq_true, Bool.or_eq_true] at h
    cases k with
    | zero => simp only [List.getElem?_cons_zero, Option.some.injEq] at hk; subst hk; exact h.1
    | succ k => exact ih h.2 k y (by simpa using hk)

theorem okNotes_at : ∀ {l : List Note} {i : Nat}, okNotes i l = true → ∀ (j k : Nat) x y, j < k → l[j]? = some x → l[k]? = some y → memN (i + j) y.anc = true ∨ x.apart y = true := by
  intro l
  induction l with
  | nil => intro i _ j k x y _ h; cases j <;> cases h
  | cons a l ih =>
    intro i h j k x y hjk hj hk
    unfold okNotes at h
    rw [Bool.and_eq_true] at h
    cases k with
    | zero => omega
    | succ k =>
      have hk' : l[k]? = some y := by simpa using hk
      cases j with
      | zero => simp only [List.getElem?_cons_zero, Option.some.injEq] at hj; subst hj; rw [Nat.add_zero]; exact apartAll_at h.1 k y hk'
      | succ j =>
        have := ih h.2 j k x y (Nat.lt_of_succ_lt_succ hjk) (by simpa using hj) hk'
        have e : i + 1 + j = i + (j + 1) := by omega
        rwa [e] at this

/- e' does not touch what e reads and writes -/
structure NoConf (e' e : Evt) : Prop where
  t : ∀ t ∈ e.n.ts, e'.o.dst ≠ some t
  r : ∀ κ ∈ e.n.rs, κ ∉ keysOf e'.ws
  a : Apart e e'

theorem noconf_l {e e' : Evt} (hd : e.n.d = e.o.dst) (hd' : e'.n.d = e'.o.dst) (hw : e.n.ws = keysOf e.ws) (hw' : e'.n.ws = keysOf e'.ws) (h : e'.n.apart e.n = true) : NoConf e' e := by
  unfold Note.apart at h
  simp only [Bool.and_eq_true, Bool.not_eq_true'] at h
  obtain ⟨⟨⟨h1, h2⟩, h3⟩, h4⟩ := h
  have i1 := interN_false h1
  have i3 := interN_false h3
  rw [hd', hd] at i1
  rw [hw', hw] at i3
  refine ⟨fun t ht e0 => ?_, fun κ hk hm => i3 κ hm (List.mem_append_right _ hk), ⟨fun t ht e0 => ?_, fun κ hk hm => i3 κ hm (List.mem_append_left _ hk)⟩⟩
  · exact i1 t (by rw [e0]; exact List.mem_singleton.mpr rfl) (List.mem_append_right _ ht)
  · exact i1 t (by rw [e0]; exact List.mem_singleton.mpr rfl) (List.mem_append_left _ (by rw [ht]; exact List.mem_singleton.mpr rfl))

theorem noconf_r {e e' : Evt} (hd : e.n.d = e.o.dst) (hd' : e'.n.d = e'.o.dst) (hw : e.n.ws = keysOf e.ws) (hw' : e'.n.ws = keysOf e'.ws) (h : e.n.apart e'.n = true) : NoConf e' e := by
  unfold Note.apart at h
  simp only [Bool.and_eq_true, Bool.not_eq_true'] at h
  obtain ⟨⟨⟨h1, h2⟩, h3⟩, h4⟩ := h
  have i1 := interN_false h1
  have i2 := interN_false h2
  have i3 := interN_false h3
  have i4 := interN_false h4
  rw [hd', hd] at i1
  rw [hd'] at i2
  rw [hw', hw] at i3
  rw [hw'] at i4
  refine ⟨fun t ht e0 => i2 t ht (by rw [e0]; exact List.mem_singleton.mpr rfl), fun κ hk hm => i4 κ hk hm, ⟨fun t ht e0 => ?_, fun κ hk hm => i3 κ hk (List.mem_append_left _ hm)⟩⟩
  exact i1 t (by rw [ht]; exact List.mem_singleton.mpr rfl) (List.mem_append_left _ (by rw [e0]; exact List.mem_singleton.mpr rfl))

/- what must have come before -/
def Preds (p : Nat → Bool) (o : Oper) : Prop := ∀ e ∈ o.after.toList, Region.binds .any e = true → p e.on = true

def Closed (p : Nat → Bool) (es : List Evt) : Prop := ∀ (k : Nat) e, es[k]? = some e → p k = true → Preds p e.o

theorem anc_in {p : Nat → Bool} {es : List Evt} (hcl : Closed p es) (hanc : ∀ (k : Nat) e, es[k]? = some e → e.n.anc = ancOf (ancs (es.take k)) e.o) :
    ∀ (n k : Nat) e, k < n → es[k]? = some e → Preds p e.o → ∀ j, j ∈ e.n.anc → p j = true := by
  intro n
  induction n with
  | zero => intro k e h; omega
  | succ n ih =>
    intro k e hk he hp j hj
    rw [hanc k e he] at hj
    unfold ancOf at hj
    obtain ⟨l, hl, hjl⟩ := List.mem_flatten.mp hj
    obtain ⟨ed, hed, rfl⟩ := List.mem_map.mp hl
    obtain ⟨hmem, hb⟩ := List.mem_filter.mp hed
    have hon := hp ed hmem hb
    rcases List.mem_cons.mp hjl with rfl | hjl
    · exact hon
    · unfold ancs at hjl
      rw [List.getElem?_map] at hjl
      cases hq : (es.take k)[ed.on]? with
      | none => rw [hq] at hjl; cases hjl
      | some e' =>
        rw [hq] at hjl
        rw [List.getElem?_take] at hq
        split at hq
        · rename_i hlt
          exact ih ed.on e' (by omega) hq (hcl ed.on e' hq hon) j hjl
        · cases hq

section
variable {C : Ctx} {w : World} {a : Act} {s : S} {G : Gh}

theorem inv_drawn (I : Inv C w a s G) (n : Nat) : Inv C { w with drawn := n } a s G := by
  have hs : Step w { w with drawn := n } (fun _ => False) := ⟨Nat.le_refl _, fun _ _ _ => rfl, rfl, rfl, rfl⟩
  have hm : ∀ g, False → given (G.L g) := fun _ e => e.elim
  refine ⟨fun t => (I.tmps t).step hs hm (Ext.refl G), I.none_, I.defers, ?_, I.roots⟩
  exact I.mem.step hs hm (Ext.refl G) (fun r _ => .inl ⟨rfl, fun g _ h => ⟨fun e => e, h⟩⟩) (fun p e c h => .inl ⟨h, fun g _ hL => ⟨fun e => e, hL⟩⟩) (fun p c h => .inl h) (fun g hg => I.mem.fresh g hg) (fun g _ _ => rfl)

end

def left (listed : Array Bool) (N : Nat) : Nat := (List.range N).countP fun i => !listed.getD i false

theorem left_set {listed : Array Bool} {N i : Nat} (hi : i < N) (hs : listed.size = N) (hp : listed.getD i false = false) : left listed N = left (listed.setIfInBounds i true) N + 1 := by
  have key : ∀ M, left listed M = left (listed.setIfInBounds i true) M + (if i < M then 1 else 0) := by
    intro M
    induction M with
    | zero => rfl
    | succ M ih =>
      unfold left at ih ⊢
      rw [List.range_succ, List.countP_append, List.countP_append, ih]
      have hone : ∀ (f : Nat → Bool), List.countP f [M] = if f M = true then 1 else 0 := fun f => by simp [List.countP_cons]
      rw [hone, hone]
      by_cases h : i = M
      · subst h
        have e1 : (listed.setIfInBounds i true).getD i false = true := by simp [hs, hi]
        rw [hp, e1]
        simp
      · have e1 : (listed.setIfInBounds i true).getD M false = listed.getD M false := by
          simp [Array.getElem?_setIfInBounds_ne h]
        rw [e1]
        have e2 : (i < M + 1) = (i < M) := by apply propext; omega
        simp only [e2]
        omega
  have := key N
  rw [if_pos hi] at this
  exact this

theorem left_zero {listed : Array Bool} {N : Nat} (h : left listed N = 0) : ∀ i, i < N → listed.getD i false = true := by
  intro i hi
  unfold left at h
  rw [List.countP_eq_zero] at h
  have := h i (List.mem_range.mpr hi)
  simpa using this

theorem repl_getD (n i : Nat) : (Array.replicate n false).getD i false = false := by
  simp only [Array.getD_eq_getD_getElem?, Array.getElem?_replicate]
  split <;> rfl

theorem getD_tf {l : Array Bool} {i : Nat} (h : i < l.size) : l.getD i true = l.getD i false := by
  simp [Array.getD_eq_getD_getElem?, h]

theorem mem_ready {ops : Array Oper} {listed : Array Bool} {i : Nat} : i ∈ Region.ready .any ops listed ↔ i < ops.size ∧ listed.getD i true = false ∧ ∃ o, ops[i]? = some o ∧ Preds (fun j => listed.getD j false) o := by
  unfold Region.ready
  rw [List.mem_filter, List.mem_range, Bool.and_eq_true, Bool.not_eq_true']
  refine and_congr_right fun _ => and_congr_right fun _ => ?_
  have key : ∀ o : Oper, (o.after.all fun e => !Region.binds .any e || listed.getD e.on false) = true ↔ Preds (fun j => listed.getD j false) o := by
    intro o
    rw [← Array.all_toList, List.all_eq_true]
    unfold Preds
    refine forall_congr' fun e => forall_congr' fun _ => ?_
    cases Region.binds .any e <;> simp
  cases hi : ops[i]? with
  | none => simp
  | some o =>
    simp only [Option.map_some, Option.getD_some, Option.some.injEq, exists_eq_left']
    exact key o

theorem draws_ok (E : Bs) (hm : E.P.follows .mixedOrders = true) (hC : CallsDo E) : DrawsOk E := by
  intro C w a s G ρ kt y ops id Q I hnt hu hlen h hk
  obtain ⟨es, e1, e2, e3, e4⟩ := draw_trace ops.toList s [] [] h
  have hN : es.length = ops.size := by
    have := congrArg List.length e1
    simpa using this
  have hop : ∀ (k : Nat) e, es[k]? = some e → ops[k]? = some e.o := fun k e he => by
    have : ops.toList[k]? = some e.o := by rw [← e1, List.getElem?_map, he]; rfl
    simpa using this
  have hok : ∀ (k : Nat) e, es[k]? = some e → EvtOk E ops.toList (ancs (es.take k)) (after s (es.take k)) e := fun k e he => by
    have := e4 k e he
    rwa [List.nil_append] at this
  have hlenk : ∀ (k : Nat) e, es[k]? = some e → (ancs (es.take k)).length = k := fun k e he => by
    have := (List.getElem?_eq_some_iff.mp he).1
    unfold ancs
    rw [List.length_map, List.length_take]; omega
  have hanc : ∀ (k : Nat) e, es[k]? = some e → e.n.anc = ancOf (ancs (es.take k)) e.o := fun k e he => (hok k e he).anc
  have hbase : ∀ k, s.base k = s.base 0 + k * 64 := fun k => by unfold S.base; rw [Nat.zero_mul, Nat.add_zero]
  have hpair : ∀ (j k : Nat) x y, j < k → es[j]? = some x → es[k]? = some y → j ∈ y.n.anc ∨ x.n.apart y.n = true := fun j k x y hjk hj hk => by
    have := okNotes_at (i := 0) e3 j k x.n y.n hjk (by rw [List.nil_append, List.getElem?_map, hj]; rfl) (by rw [List.nil_append, List.getElem?_map, hk]; rfl)
    rw [Nat.zero_add] at this
    rcases this with h | h
    · exact .inl (memN_iff.mp h)
    · exact .inr h
  -- apart from what is listed out of its turn
  have conf : ∀ (p : Nat → Bool) (i : Nat) e, Closed p es → es[i]? = some e → p i = false → Preds p e.o → ∀ (k : Nat) e', es[k]? = some e' → p k ≠ Nat.blt k i → k ≠ i → NoConf e' e := by
    intro p i e hcl hi hpi hpre k e' hk hne hki
    obtain ⟨hi1, hi2, hi3⟩ := hok i e hi |> fun q => (⟨q.d, q.ws, q.anc⟩ : _ ∧ _ ∧ _)
    obtain ⟨hk1, hk2, hk3⟩ := hok k e' hk |> fun q => (⟨q.d, q.ws, q.anc⟩ : _ ∧ _ ∧ _)
    rcases Nat.lt_or_gt_of_ne hki with hlt | hgt
    · have hb : Nat.blt k i = true := Nat.blt_eq.mpr hlt
      have hpk : p k = false := by
        cases hp : p k with
        | false => rfl
        | true => rw [hp, hb] at hne; exact absurd rfl hne
      rcases hpair k i e' e hlt hk hi with h | h
      · have := anc_in hcl hanc (i + 1) i e (Nat.lt_succ_self i) hi hpre k h
        rw [hpk] at this; cases this
      · exact noconf_l hi1 hk1 hi2 hk2 h
    · have hb : Nat.blt k i = false := by
        cases hb : Nat.blt k i with
        | false => rfl
        | true => have := Nat.blt_eq.mp hb; omega
      have hpk : p k = true := by
        cases hp : p k with
        | true => rfl
        | false => rw [hp, hb] at hne; exact absurd rfl hne
      rcases hpair i k e e' hgt hi hk with h | h
      · have := anc_in hcl hanc (k + 1) k e' (Nat.lt_succ_self k) hk (hcl k e' hk hpk) i h
        rw [hpi] at this; cases this
      · exact noconf_r hi1 hk1 hi2 hk2 h
  refine wp_region_any hm ?_
  have fin : ∀ (listed : Array Bool) (a' : Act) (w' : World) (G' : Gh), (∀ i, i < ops.size → listed.getD i false = true) → Inv C w' a' (partS (fun i => listed.getD i false) 0 es s) G' → a'.tmps.size = a.tmps.size →
      (∀ r, G'.used r → r < s.base 0 ∨ ∃ k, k < ops.size ∧ listed.getD k false = true ∧ s.base k ≤ r ∧ r < s.base k + 64) → Q .normal a' w' := by
    intro listed a' w' G' hall I' hta hu'
    have e : partS (fun i => listed.getD i false) 0 es s = after s es := by
      rw [partS_congr (q := fun j => Nat.blt j (0 + es.length)) es 0 s (fun k hk => by
        have h1 : Nat.blt (0 + k) (0 + es.length) = true := Nat.blt_eq.mpr (by omega)
        rw [h1]
        show listed.getD (0 + k) false = true
        rw [Nat.zero_add]; exact hall k (by omega)), partS_take, List.take_length]
    rw [e] at I'
    refine hk a' w' (after s es) G' e2 I' hta (by rw [← e]; exact partS_nx es 0 s) fun r hr => ?_
    rcases hu' r hr with h | ⟨k, hkN, _, _, h⟩
    · exact base_end s (l := 0) (by omega) h
    · refine base_end s hlen ?_
      have h1 := hbase k
      have h2 := hbase (0 + ops.toList.length)
      have h3 : ops.toList.length = ops.size := by simp
      rw [h3] at h2 ⊢
      omega
  have edge : ∀ (k : Nat) e, es[k]? = some e → ∀ ed ∈ e.o.after.toList, Region.binds .any ed = true → ed.on < k := fun k e he ed hed hb => by
    have := (hok k e he).edges
    unfold edgesOk at this
    have h2 := (List.all_eq_true.mp this) ed hed
    rw [hb, hlenk k e he] at h2
    simp only [Bool.not_true, Bool.false_or] at h2
    exact Nat.blt_eq.mp h2
  have hex : ∀ i, i < ops.size → ∃ e, es[i]? = some e := fun i hi => ⟨es[i], List.getElem?_eq_getElem (by omega)⟩
  have allnil : ∀ (listed : Array Bool), listed.size = ops.size → Region.ready .any ops listed = [] → ∀ n i, i < n → i < ops.size → listed.getD i false = true := by
    intro listed hsz hr n
    induction n with
    | zero => intro i hi; omega
    | succ n ih =>
      intro i hi hlt
      cases hp : listed.getD i false with
      | true => rfl
      | false =>
        exfalso
        obtain ⟨e, he⟩ := hex i hlt
        have : i ∈ Region.ready .any ops listed := mem_ready.mpr ⟨hlt, by rw [getD_tf (by omega)]; exact hp, e.o, hop i e he, fun ed hed hb => by
          have := edge i e he ed hed hb
          exact ih ed.on (by omega) (by omega)⟩
        rw [hr] at this
        cases this
  have main : ∀ (fuel : Nat) (listed : Array Bool) (a' : Act) (w' : World) (G' : Gh), listed.size = ops.size → left listed ops.size = fuel → Closed (fun i => listed.getD i false) es →
      Inv C w' a' (partS (fun i => listed.getD i false) 0 es s) G' → a'.tmps.size = a.tmps.size → (∀ r, G'.used r → r < s.base 0 ∨ ∃ k, k < ops.size ∧ listed.getD k false = true ∧ s.base k ≤ r ∧ r < s.base k + 64) →
      wpAny E.P .any ops Q fuel listed a' w' := by
    intro fuel
    induction fuel with
    | zero =>
      intro listed a' w' G' hsz hleft hcl I' hta hu'
      have hall := left_zero hleft
      refine ⟨?_, fin listed a' w' G' hall I' hta hu'⟩
      cases hr : Region.ready .any ops listed with
      | nil => rfl
      | cons i l =>
        exfalso
        obtain ⟨h1, h2, _⟩ := mem_ready.mp (show i ∈ Region.ready .any ops listed by rw [hr]; exact List.mem_cons_self)
        rw [getD_tf (by omega), hall i h1] at h2
        cases h2
    | succ fuel ih =>
      intro listed a' w' G' hsz hleft hcl I' hta hu'
      refine ⟨fun hr => fin listed a' w' G' (fun i hi => allnil listed hsz hr (i + 1) i (Nat.lt_succ_self i) hi) I' hta hu', fun i hi => ?_⟩
      obtain ⟨h1, h2, o, ho, hpre⟩ := mem_ready.mp hi
      rw [getD_tf (by omega)] at h2
      obtain ⟨e, he⟩ := hex i h1
      have eo : o = e.o := by have := hop i e he; rw [ho] at this; exact Option.some.inj this
      subst eo
      have K := hok i e he
      have hnc := conf (fun j => listed.getD j false) i e hcl he h2 hpre
      have hsi : after s (es.take i) = partS (fun j => Nat.blt j i) 0 es s := by
        have := partS_take es 0 i s
        rw [Nat.zero_add] at this
        exact this.symm
      have htm : ∀ t ∈ tmpsOf ops.toList e.o, (after s (es.take i)).tm t = (partS (fun j => listed.getD j false) 0 es s).tm t := fun t ht => by
        rw [hsi]
        refine agree_tm es 0 s s rfl fun k e' hk' hne => ?_
        rw [Nat.zero_add] at hne
        by_cases hki : k = i
        · subst hki
          exfalso
          have hb : Nat.blt k k = false := by
            cases hb : Nat.blt k k with
            | false => rfl
            | true => have := Nat.blt_eq.mp hb; omega
          rw [hb, h2] at hne
          exact hne rfl
        · exact (hnc k e' hk' (Ne.symm hne) hki).t t (by rw [K.ts]; exact ht)
      have hat : ∀ κ ∈ e.n.rs, At_ (after s (es.take i)) (partS (fun j => listed.getD j false) 0 es s) κ := fun κ hκ => by
        rw [hsi]
        refine agree_at es 0 s s (At_.refl s κ) fun k e' hk' hne => ?_
        rw [Nat.zero_add] at hne
        by_cases hki : k = i
        · subst hki
          exfalso
          have hb : Nat.blt k k = false := by
            cases hb : Nat.blt k k with
            | false => rfl
            | true => have := Nat.blt_eq.mp hb; omega
          rw [hb, h2] at hne
          exact hne rfl
        · exact (hnc k e' hk' (Ne.symm hne) hki).r κ hκ
      have hnx : (partS (fun j => listed.getD j false) 0 es s).nx = s.nx := partS_nx es 0 s
      have hset : ∀ j, (listed.setIfInBounds i true).getD j false = (listed.getD j false || Nat.beq j i) := fun j => by
        by_cases hji : j = i
        · subst hji
          have : (listed.setIfInBounds j true).getD j false = true := by simp [hsz, h1]
          rw [this, Nat.beq_refl, Bool.or_true]
        · have e1 : (listed.setIfInBounds i true).getD j false = listed.getD j false := by simp [Array.getElem?_setIfInBounds_ne (Ne.symm hji)]
          have e2 : Nat.beq j i = false := by
            cases hb : Nat.beq j i with
            | false => rfl
            | true => exact absurd (Nat.eq_of_beq_eq_true hb) hji
          rw [e1, e2, Bool.or_false]
      have hadd : partS (fun j => (listed.setIfInBounds i true).getD j false) 0 es s = (partS (fun j => listed.getD j false) 0 es s).ev1 e := by
        have := partS_add (p := fun j => listed.getD j false) es 0 i s he (by rw [Nat.zero_add]; exact h2) fun j e' hj hje hpj => by
          rw [Nat.zero_add] at hpj
          have hb : Nat.blt j i = false := by
            cases hb : Nat.blt j i with
            | false => rfl
            | true => have := Nat.blt_eq.mp hb; omega
          exact (hnc j e' hje (by rw [hb]; show listed.getD j false ≠ false; rw [hpj]; intro e; cases e) (by omega)).a
        rw [Nat.zero_add] at this
        rw [← this]
        exact partS_congr es 0 s fun k _ => hset (0 + k)
      have hcl' : Closed (fun j => (listed.setIfInBounds i true).getD j false) es := by
        intro k e' hk' hp ed hed hb
        show (listed.setIfInBounds i true).getD ed.on false = true
        have hp : (listed.setIfInBounds i true).getD k false = true := hp
        rw [hset] at hp ⊢
        rw [Bool.or_eq_true] at hp ⊢
        left
        rcases hp with hp | hp
        · exact hcl k e' hk' hp ed hed hb
        · have := Nat.eq_of_beq_eq_true hp
          subst this
          rw [he] at hk'
          cases hk'
          exact hpre ed hed hb
      have hleft' : left (listed.setIfInBounds i true) ops.size = fuel := by
        have := left_set h1 hsz h2
        omega
      have hsz' : (listed.setIfInBounds i true).size = ops.size := by simp [hsz]
      have hused : ∀ G2 : Gh, (∀ r, G2.used r → G'.used r ∨ (s.base i ≤ r ∧ r < s.base i + 64)) → ∀ r, G2.used r → r < s.base 0 ∨ ∃ k, k < ops.size ∧ (listed.setIfInBounds i true).getD k false = true ∧ s.base k ≤ r ∧ r < s.base k + 64 := by
        intro G2 h r hr
        rcases h r hr with h | h
        · rcases hu' r h with h | ⟨k, a1, a2, a3, a4⟩
          · exact .inl h
          · exact .inr ⟨k, a1, by rw [hset, a2]; rfl, a3, a4⟩
        · exact .inr ⟨i, h1, by rw [hset, Nat.beq_refl, Bool.or_true], h.1, h.2⟩
      unfold wpOp
      rw [hop i e he]
      have hbs : (after s (es.take i)).base (ancs (es.take i)).length = s.base i := by
        rw [hlenk i e he]
        unfold S.base
        rw [hsi, partS_nx]
      rcases K.does with ⟨hg, hp, hrs⟩ | ⟨hg, hv, hws⟩
      · rw [hbs] at hp
        have hg' : guardK ops.toList e.o (partS (fun j => listed.getD j false) 0 es s) (some ()) none = some () := by
          rw [← guard_congr htm]; exact hg _ _ _
        rcases guard_sound I' ops hg' with ⟨hw, _⟩ | ⟨_, hn, _⟩
        · show if Region.wanted e.o (yielded ops a'.tmps) = true then _ else _
          rw [if_pos hw]
          refine .inl ?_
          have htx : ∀ x ∈ e.o.op.operands.toList, ∀ t, x = .tmp t → t ∈ tmpsOf ops.toList e.o := fun x hx t hxt => by
            unfold tmpsOf
            refine List.mem_append_left _ (List.mem_filterMap.mpr ⟨x, hx, ?_⟩)
            rw [hxt]
          have hp' : opK E (s.base i) e.o (partS (fun j => listed.getD j false) 0 es s) pr = some (e.v, e.ws) := by
            cases hq : quietOp e.o.op with
            | true => rw [← opK_quiet hq (s1 := after s (es.take i)) fun x hx t hxt => htm t (htx x hx t hxt)]; exact hp
            | false =>
              have hrd : ∀ x ∈ e.o.op.operands.toList, Reads (after s (es.take i)) (partS (fun j => listed.getD j false) 0 es s) x := fun x hx t hxt => by
                refine ⟨htm t (htx x hx t hxt), agrV_of fun κ hκ => hat κ ?_⟩
                rw [hrs]
                unfold rootsOf1
                rw [hq]
                exact List.mem_flatten.mpr ⟨_, List.mem_map.mpr ⟨t, htx x hx t hxt, rfl⟩, hκ⟩
              rw [← opK_congr hrd]; exact hp
          have A : At E C (s.base i) e.o.dst w' a' (partS (fun j => listed.getD j false) 0 es s) G' := ⟨I', by rw [hta]; exact hnt, K.dst, fun r a1 a2 hr => by
            have b1 := hbase i
            rcases hu' r hr with h | ⟨k, b2, b3, b4, b5⟩
            · omega
            · have b6 := hbase k
              have : k ≠ i := fun e => by rw [e, h2] at b3; cases b3
              omega⟩
          obtain ⟨v, ws, hsame, hgoes⟩ := op_sound hC A hp'
          have hvw : v = e.v ∧ ws = e.ws := by
            have := (hsame _ pr).symm.trans hp'
            have := Option.some.inj this
            exact ⟨congrArg Prod.fst this, congrArg Prod.snd this⟩
          refine hgoes _ Q fun w2 G2 u I2 hu2 => ?_
          rw [hvw.1, hvw.2] at I2
          refine ih _ _ w2 G2 hsz' hleft' hcl' (by rw [hadd]; exact I2) ((put_size _ _ _).trans hta) (hused G2 hu2)
        · cases hn
      · have hg' : guardK ops.toList e.o (partS (fun j => listed.getD j false) 0 es s) none (some ()) = some () := by
          rw [← guard_congr htm]; exact hg _ _ _
        rcases guard_sound I' ops hg' with ⟨_, hn, _⟩ | ⟨hw, _⟩
        · cases hn
        · show if Region.wanted e.o (yielded ops a'.tmps) = true then _ else _
          rw [if_neg (by rw [hw]; simp)]
          have I2 := inv_skip I' e.o.dst E.nt (by rw [hta]; exact hnt) K.dst
          refine ih _ _ w' G' hsz' hleft' hcl' (by rw [hadd]; unfold S.ev1; rw [hv, hws]; exact I2) ((put_size _ _ _).trans hta) (hused G' fun r hr => .inl hr)
  refine main ops.size _ a _ G (by simp) ?_ ?_ ?_ rfl fun r hr => .inl (Nat.lt_of_lt_of_le (hu r hr) (base_zero s))
  · unfold left
    rw [List.countP_eq_length.mpr (fun i hi => by rw [repl_getD]; rfl)]
    simp
  · intro k e he hp
    have hp : (Array.replicate ops.size false).getD k false = true := hp
    rw [repl_getD] at hp
    cases hp
  · have : partS (fun i => (Array.replicate ops.size false).getD i false) 0 es s = s := by
      have := partS_congr (p := fun i => (Array.replicate ops.size false).getD i false) (q := fun j => Nat.blt j (0 + 0)) es 0 s (fun k _ => by
        have e : Nat.blt (0 + k) (0 + 0) = false := by
          cases hb : Nat.blt (0 + k) (0 + 0) with
          | false => rfl
          | true => have := Nat.blt_eq.mp hb; omega
        rw [e]; exact repl_getD _ _)
      rw [this, partS_take]; rfl
    rw [this]; exact inv_drawn I _

end Go.Proofs.Ytoifbdaaiejbnaa.D
/- What the interpreter comes to, the machine comes to. -/
namespace Go.Proofs.Ytoifbdaaiejbnaa.D
open Go

theorem book_sound (B : Book) (hm : B.P.follows .mixedOrders = true)
    (hN : ∀ (f : Nat) (fn : Func) (c : Code), B.P.funcs[f]? = some fn → fn.body = some c → (fn.name == "runtime.NumGoroutine") = false)
    (hX : ∀ f g xs y, B.ext f = some g → g xs = some y → FnOk B.P (B.sig f) f xs y) (hI : ∀ f I, B.inp f = some I → InpOk B.P f I) {k f : Nat} {xs : List X} {y : (B.sig f).row.T} (h : B.call k f xs = some y) : FnOk B.P (B.sig f) f xs y :=
  call_sound B (fun E hE hC => draws_ok E (by rw [hE]; exact hm) hC) (fun E hE hi hF => calls_do E hF (by rw [hi, hE]; exact hI)) hN hX k f xs y h

end Go.Proofs.Ytoifbdaaiejbnaa.D
/- A call from outside: its arguments are only read. -/
namespace Go.Proofs.Ytoifbdaaiejbnaa.D
open Go Go.RowKit

/- every block that is there is held still -/
def Gh.still (w : World) : Gh := { L := fun g => if g < w.heap.size then .st else .free, base := fun _ => none, hv := fun _ => .slice none 0 0, esz := fun _ => 0, used := fun _ => False }

def Old (w : World) (g : Nat) : Prop := g < w.heap.size

inductive ArgsOk (w : World) : List X → List Value → Prop
  | nil : ArgsOk w [] []
  | cell (c : CT) (y : c.T) (u : Value) (xs : List X) (us : List Value) (h : RepC w (Old w) ⟨c, y⟩ u) (ht : ArgsOk w xs us) : ArgsOk w (.cell c y false :: xs) (u :: us)
  | agg (m : List Cell) (vs : List Value) (xs : List X) (us : List Value) (hl : vs.length = m.length) (h : ∀ (j : Nat) x v, m[j]? = some x → vs[j]? = some v → RepC w (Old w) x v) (ht : ArgsOk w xs us) :
      ArgsOk w (.agg m :: xs) (.agg ⟨vs⟩ :: us)

section
variable {w : World}

theorem still_rep {c : Cell} {u : Value} (h : RepC w (Old w) c u) : RepC w ((Gh.still w).ok false) c u :=
  h.mono fun g _ _ hA hc => ⟨hc, .inl (if_pos hA)⟩

theorem args_entry {xs : List X} {us : List Value} (h : ArgsOk w xs us) : ∀ (i : Nat) (acc : S) (τ : Nat → Value), (∀ t, RepV w (Gh.still w) (acc.tm t) (τ t)) → (∀ (j : Nat) u, us[j]? = some u → τ (i + j) = u) →
    (entryS i xs acc).2 = [] ∧ (entryS i xs acc).1.bx = acc.bx ∧ (entryS i xs acc).1.pl = acc.pl ∧ (∀ t, RepV w (Gh.still w) ((entryS i xs acc).1.tm t) (τ t)) ∧ ∀ t, i + us.length ≤ t → (entryS i xs acc).1.tm t = acc.tm t := by
  induction h with
  | nil => intro i acc τ h _; exact ⟨rfl, rfl, rfl, h, fun t _ => rfl⟩
  | cell c y u xs us hr _ ih =>
    intro i acc τ ht hτ
    have hu : τ i = u := hτ 0 u rfl
    obtain ⟨h1, h2, h3, h4, h5⟩ := ih (i + 1) { acc with tm := upd acc.tm i (.cell c y false) } τ (fun t => by
      by_cases e : t = i
      · subst e
        show RepV w _ (upd acc.tm t _ t) _
        rw [upd_same, hu]; exact .cell _ _ _ _ (still_rep hr)
      · show RepV w _ (upd acc.tm i _ t) _
        rw [upd_other _ _ _ _ e]; exact ht t) (fun j u hj => by
      rw [Nat.add_assoc, Nat.add_comm 1 j]; exact hτ (j + 1) u (by simpa using hj))
    exact ⟨h1, h2, h3, h4, fun t hge => (h5 t (by rw [List.length_cons] at hge; omega)).trans (upd_other _ _ _ _ (by rw [List.length_cons] at hge; omega))⟩
  | agg m vs xs us hl hr _ ih =>
    intro i acc τ ht hτ
    have hu : τ i = .agg ⟨vs⟩ := hτ 0 _ rfl
    obtain ⟨h1, h2, h3, h4, h5⟩ := ih (i + 1) { acc with tm := upd acc.tm i (.agg (m.map .pl)) } τ (fun t => by
      by_cases e : t = i
      · subst e
        show RepV w _ (upd acc.tm t _ t) _
        rw [upd_same, hu]
        refine .agg _ vs (by rw [List.length_map, hl]) fun j b v hb hv => ?_
        rw [List.getElem?_map] at hb
        obtain ⟨x, hx, rfl⟩ := Option.map_eq_some_iff.mp hb
        exact ⟨still_rep (hr j x v hx hv), trivial⟩
      · show RepV w _ (upd acc.tm i _ t) _
        rw [upd_other _ _ _ _ e]; exact ht t) (fun j u hj => by
      rw [Nat.add_assoc, Nat.add_comm 1 j]; exact hτ (j + 1) u (by simpa using hj))
    exact ⟨h1, h2, h3, h4, fun t hge => (h5 t (by rw [List.length_cons] at hge; omega)).trans (upd_other _ _ _ _ (by rw [List.length_cons] at hge; omega))⟩

theorem args_len {xs : List X} {us : List Value} (h : ArgsOk w xs us) : us.length = xs.length := by
  induction h with
  | nil => rfl
  | cell c y u xs us _ _ ih => rw [List.length_cons, List.length_cons, ih]
  | agg m vs xs us _ _ _ ih => rw [List.length_cons, List.length_cons, ih]

theorem still_entry {xs : List X} {us : List Value} (h : ArgsOk w xs us) : rootsOf xs = [] ∧ Entry w (Gh.still w) us xs := by
  obtain ⟨h1, h2, h3, h4, h5⟩ := args_entry h 0 S.zero (fun t => (⟨us⟩ : Array Value).getD t undef) (fun t => .un _) (fun j u hj => by
    rw [Nat.zero_add, Array.getD_eq_getD_getElem?, List.getElem?_toArray, hj]; rfl)
  refine ⟨h1, args_len h, h4, fun t ht => (h5 t (by omega)).trans rfl, ?_, fun r hr => hr.elim, fun r hr => ?_⟩
  · rw [h2, h3]
    exact ⟨fun r hr => absurd rfl hr, fun p e c hp => (by cases hp), fun p c hp => (by cases hp), fun g hg => if_neg (Nat.not_lt.mpr hg), Step.refl w _, fun g _ _ => rfl⟩
  · rw [show rootsOf xs = [] from h1] at hr; cases hr

/- what a call from outside comes to -/
theorem still_call {P : Program} {f : Nat} {sg : Sig} {xs : List X} {us : List Value} {y : sg.row.T} (h : FnOk P sg f xs y) (ha : ArgsOk w xs us) :
    Calls P f ⟨us⟩ w (fun e w' => ∃ v, e = .returned v ∧ Below w.heap.size w w' ∧ ∃ G' vs q ps l m, v = oneU vs ∧ rowCells sg.row y = l ++ m ∧ ResOk w' G' sg.rs l vs q ∧ BoxesOk w' G' sg.bs [] m ps) := by
  obtain ⟨hr, he⟩ := still_entry ha
  refine Calls.mono (h.2 w us _ he) ?_
  rintro e w' ⟨v, rfl, G', vs, q, ps, l, m, h1, h2, h3, h4, _, hs, _, _, _⟩
  rw [hr] at h4
  refine ⟨v, rfl, ⟨hs.os, hs.tape, hs.output, hs.size, fun k hk => hs.same k hk fun hg => ?_⟩, G', vs, q, ps, l, m, h1, h2, h3, h4⟩
  have hg : given (if k < w.heap.size then Lab.st else .free) := hg
  rw [if_pos hk] at hg
  exact hg

theorem bool_call {P : Program} {f : Nat} {sg : Sig} {xs : List X} {us : List Value} {y : sg.row.T} (h : FnOk P sg f xs y) (ha : ArgsOk w xs us) (hrs : sg.rs = [.c .bool none]) (hbs : sg.bs = []) {b : Bool} (hy : rowCells sg.row y = [⟨.bool, b⟩]) :
    Calls P f ⟨us⟩ w (fun e w' => e = .returned (.bool b) ∧ Below w.heap.size w w') := by
  refine Calls.mono (still_call h ha) ?_
  rintro e w' ⟨v, rfl, hb, G', vs, q, ps, l, m, h1, h2, h3, h4⟩
  refine ⟨?_, hb⟩
  rw [hrs] at h3
  rw [hbs] at h4
  cases h4 with
  | nil =>
  cases h3 with
  | c t o rs x l' u us' q' ps' hc hr =>
  cases hr with
  | nil =>
  rw [hy, List.append_nil] at h2
  cases h2
  cases hc with
  | pl x u hrep =>
  rw [h1, hrep.bool_inv]; rfl

end

end Go.Proofs.Ytoifbdaaiejbnaa.D
/- From the interpreter to a function's own Lean text: the two equations that a printed function uses. -/
namespace Go.Proofs.Ytoifbdaaiejbnaa.D
open Go

def bodyOf (c : Option Code) : List Item := match c with | some c => [.code c] | none => []
def stk (c : Option Code) (r : Nat) : List Item := match c with | some c => (stackAt r c []).getD [] | none => []
def hasStk (c : Option Code) (r : Nat) : Bool := match c with | some c => (stackAt r c []).isSome | none => false

theorem stackAt_head {r : Nat} : ∀ (c : Code) (k l : List Item), stackAt r c k = some l → ∃ ops dr k', l = .code (.region r ops dr) :: k' := by
  intro c
  induction c with
  | region id ops dr =>
    intro k l h
    have h' : (bif Nat.beq id r then some (.code (.region id ops dr) :: k) else none) = some l := h
    cases hb : Nat.beq id r with
    | false => rw [hb] at h'; cases h'
    | true => rw [hb] at h'; cases h'; rw [Nat.eq_of_beq_eq_true hb]; exact ⟨_, _, _, rfl⟩
  | seq a b iha ihb =>
    intro k l h
    have h' : (match stackAt r a (.code b :: k) with | some l => some l | none => stackAt r b k) = some l := h
    cases ha : stackAt r a (.code b :: k) with
    | none => rw [ha] at h'; exact ihb _ _ h'
    | some q => rw [ha] at h'; cases h'; exact iha _ _ ha
  | cond c a b iha ihb =>
    intro k l h
    have h' : (match stackAt r a k with | some l => some l | none => stackAt r b k) = some l := h
    cases ha : stackAt r a k with
    | none => rw [ha] at h'; exact ihb _ _ h'
    | some q => rw [ha] at h'; cases h'; exact iha _ _ ha
  | block id b ih => intro k l h; exact ih _ _ h
  | loop b ih => intro k l h; exact ih _ _ h
  | scope b ih => intro k l h; exact ih _ _ h
  | _ => intro k l h; cases h

theorem call_eq (B : Book) {f : Nat} {fn : Func} (hx : (B.ext f).isNone = true) (hf : B.P.funcs[f]? = some fn) (hb : fn.body.isSome = true) (k : Nat) (xs : List X) :
    B.call (k + 1) f xs = den (B.env (B.call k) f fn (rootsOf xs) (B.goOn (B.call k) f fn (rootsOf xs) k)) 100000 false (bodyOf fn.body) (entryS 0 xs S.zero).1 := by
  cases hc : fn.body with
  | none => rw [hc] at hb; cases hb
  | some c =>
    cases he : B.ext f with
    | some g => rw [he] at hx; cases hx
    | none =>
      show (match B.ext f with
        | some g => g xs
        | none => match B.P.funcs[f]? with
          | some fn => match fn.body with
            | some c => den (B.env (B.call k) f fn (rootsOf xs) (B.goOn (B.call k) f fn (rootsOf xs) k)) 100000 false [.code c] (entryS 0 xs S.zero).1
            | none => none
          | none => none) = _
      rw [he]
      simp only [hf, hc]
      rfl

theorem goOn_eq (B : Book) {f r : Nat} {fn : Func} {ks : List K} (hs : hasStk fn.body r = true) (hc : B.cut f r = some ks) (call : B.Call) (roots : List Nat) (j : Nat) (xs : List X) :
    B.goOn call f fn roots (j + 1) (stk fn.body r) xs = den (B.env call f fn roots (B.goOn call f fn roots j)) 100000 true (stk fn.body r) (putXs ks xs S.zero) := by
  cases hb : fn.body with
  | none => rw [hb] at hs; cases hs
  | some c =>
    rw [hb] at hs
    have hs : (stackAt r c []).isSome = true := hs
    obtain ⟨l, hl⟩ := Option.isSome_iff_exists.mp hs
    obtain ⟨ops, dr, k', rfl⟩ := stackAt_head c [] l hl
    have e : stk (some c) r = .code (.region r ops dr) :: k' := by show (stackAt r c []).getD [] = _; rw [hl]; rfl
    rw [e]
    show (match B.cut f r with
      | some ks => den (B.env call f fn roots (B.goOn call f fn roots j)) 100000 true (.code (.region r ops dr) :: k') (putXs ks xs S.zero)
      | none => none) = _
    rw [hc]

end Go.Proofs.Ytoifbdaaiejbnaa.D
/- What is written over: slices.SortFunc at spans. -/
namespace Go.Proofs.Ytoifbdaaiejbnaa.D
open Go Go.Sort Go.Shelf Go.Lib

/- what Norm's closure says of two spans -/
def cmpSpan (a b : Int × Int) : Int := if a.1 < b.1 then -1 else if b.1 < a.1 then 1 else 0
def sortSpan (l : List (Int × Int)) : Option (List (Int × Int)) :=
  match l with
  | [] => some []
  | [x] => some [x]
  | l => if l.length < 4611686018427387904 then some (pdq (ltOf cmpSpan) l.toArray 0 l.length (Go.Lib.bitLen l.length) true true).toList else none
def inpSortSpan : Inp := { e := 80, c := .sl spanRow, h := fun l => sortSpan l, fns := [56] }
def inp0 : Nat → Option Inp := fun f => bif Nat.beq f 55 then some inpSortSpan else none

end Go.Proofs.Ytoifbdaaiejbnaa.D
/- The functions' signatures. Printed by dp.py. -/
namespace Go.Proofs.Ytoifbdaaiejbnaa.D
open Go
def sig0 : Nat → Sig := fun f => bif Nat.blt f 48 then (bif Nat.blt f 25 then (bif Nat.blt f 14 then (bif Nat.blt f 8 then (bif Nat.blt f 5 then (bif Nat.blt f 4 then (bif Nat.beq f 3 then ⟨[.s], [.c (.bool) none], []⟩ else ⟨[], [], []⟩) else (bif Nat.beq f 4 then ⟨[.s], [.c (.bool) none], []⟩ else ⟨[], [], []⟩)) else (bif Nat.blt f 6 then (bif Nat.beq f 5 then ⟨[.s, .s], [.c (.bool) none], []⟩ else ⟨[], [], []⟩) else (bif Nat.blt f 7 then (bif Nat.beq f 6 then ⟨[.s, .s], [.c (.bool) none], []⟩ else ⟨[], [], []⟩) else (bif Nat.beq f 7 then ⟨[], [.c (.bool) none], []⟩ else ⟨[], [], []⟩)))) else (bif Nat.blt f 11 then (bif Nat.blt f 9 then (bif Nat.beq f 8 then ⟨[.s], [.c (.bool) none], []⟩ else ⟨[], [], []⟩) else (bif Nat.blt f 10 then (bif Nat.beq f 9 then ⟨[.s], [.a [.int .i64, .sl spanRow, .pats]], []⟩ else ⟨[], [], []⟩) else (bif Nat.beq f 10 then ⟨[.s], [.a [.sl (.one (.sl spanRow)), .bool, .sl (.one (.int .i64)), .sl (.one (.int .i64)), .sl (.one (.sl (.one (.int .i64))))], .c (.int .i64) none], []⟩ else ⟨[], [], []⟩))) else (bif Nat.blt f 12 then (bif Nat.beq f 11 then ⟨[.s], [.a [.sl (.one (.sl spanRow)), .bool, .sl (.one (.int .i64)), .sl (.one (.int .i64)), .sl (.one (.sl (.one (.int .i64))))], .c (.int .i64) none], []⟩ else ⟨[], [], []⟩) else (bif Nat.blt f 13 then (bif Nat.beq f 12 then ⟨[.s, .s], [.c (.bool) none], []⟩ else ⟨[], [], []⟩) else (bif Nat.beq f 13 then ⟨[.s, .s], [.c (.bool) none], []⟩ else ⟨[], [], []⟩))))) else (bif Nat.blt f 19 then (bif Nat.blt f 16 then (bif Nat.blt f 15 then (bif Nat.beq f 14 then ⟨[.s], [.c (.bool) none], []⟩ else ⟨[], [], []⟩) else (bif Nat.beq f 15 then ⟨[.b, .b], [.c (.bool) none], []⟩ else ⟨[], [], []⟩)) else (bif Nat.blt f 17 then (bif Nat.beq f 16 then ⟨[.s, .b], [.c (.bool) none], []⟩ else ⟨[], [], []⟩) else (bif Nat.blt f 18 then (bif Nat.beq f 17 then ⟨[.s, .s], [.c (.bool) none], []⟩ else ⟨[], [], []⟩) else (bif Nat.beq f 18 then ⟨[.b, .b], [.c (.bool) none], []⟩ else ⟨[], [], []⟩)))) else (bif Nat.blt f 22 then (bif Nat.blt f 20 then (bif Nat.beq f 19 then ⟨[.s], [.c (.bool) none], []⟩ else ⟨[], [], []⟩) else (bif Nat.blt f 21 then (bif Nat.beq f 20 then ⟨[.b, .s], [.c (.bool) none], []⟩ else ⟨[], [], []⟩) else (bif Nat.beq f 21 then ⟨[.s], [.a [.int .i64, .sl spanRow, .pats]], []⟩ else ⟨[], [], []⟩))) else (bif Nat.blt f 23 then (bif Nat.beq f 22 then ⟨[.s], [.c (.int .i64) none, .c (.int .i64) none], []⟩ else ⟨[], [], []⟩) else (bif Nat.blt f 24 then (bif Nat.beq f 23 then ⟨[.s, .s], [.a [.bool, .sl (.one (.int .i64)), .sl (.one (.int .i64))]], [[(.sl (.one (.sl spanRow)), some 22), (.bool, none), (.sl (.one (.int .i64)), none), (.sl (.one (.int .i64)), none), (.sl (.one (.sl (.one (.int .i64)))), some 30)]]⟩ else ⟨[], [], []⟩) else (bif Nat.beq f 24 then ⟨[.s], [.c (.sl (.one (.int .i64))) (some 3)], []⟩ else ⟨[], [], []⟩)))))) else (bif Nat.blt f 36 then (bif Nat.blt f 30 then (bif Nat.blt f 27 then (bif Nat.blt f 26 then (bif Nat.beq f 25 then ⟨[.s], [.c (.bool) none], []⟩ else ⟨[], [], []⟩) else (bif Nat.beq f 26 then ⟨[.s], [.c (.int .i64) none], []⟩ else ⟨[], [], []⟩)) else (bif Nat.blt f 28 then (bif Nat.beq f 27 then ⟨[.s, .s], [.a [.bool, .sl (.one (.bool)), .sl (.one (.bool))]], [[(.int .i64, none), (.sl (.one (.sl spanRow)), some 22), (.sl (.one (.sl (.one (.bool)))), some 63)]]⟩ else ⟨[], [], []⟩) else (bif Nat.blt f 29 then (bif Nat.beq f 28 then ⟨[.b], [.c (.sl (.one (.int .i64))) none], []⟩ else ⟨[], [], []⟩) else (bif Nat.beq f 29 then ⟨[.b, .b], [.c (.bool) none], []⟩ else ⟨[], [], []⟩)))) else (bif Nat.blt f 33 then (bif Nat.blt f 31 then (bif Nat.beq f 30 then ⟨[.s], [.c (.int .i64) none, .c (.int .i64) none], []⟩ else ⟨[], [], []⟩) else (bif Nat.blt f 32 then (bif Nat.beq f 31 then ⟨[.s], [.c (.bool) none], []⟩ else ⟨[], [], []⟩) else (bif Nat.beq f 32 then ⟨[.s, .s, .s], [.c (.sl (.one (.int .i64))) none], []⟩ else ⟨[], [], []⟩))) else (bif Nat.blt f 34 then (bif Nat.beq f 33 then ⟨[.s, .s], [.c (.sl (.one (.int .i64))) none], []⟩ else ⟨[], [], []⟩) else (bif Nat.blt f 35 then (bif Nat.beq f 34 then ⟨[.b, .s], [.c (.bool) none], [[(.sl (.one (.sl spanRow)), none), (.bool, none), (.sl (.one (.int .i64)), none), (.sl (.one (.int .i64)), none), (.sl (.one (.sl (.one (.int .i64)))), none)]]⟩ else ⟨[], [], []⟩) else (bif Nat.beq f 35 then ⟨[.s], [.c (.bool) none], [[(.sl (.one (.sl spanRow)), none), (.bool, none), (.sl (.one (.int .i64)), none), (.sl (.one (.int .i64)), none), (.sl (.one (.sl (.one (.int .i64)))), none)]]⟩ else ⟨[], [], []⟩))))) else (bif Nat.blt f 42 then (bif Nat.blt f 39 then (bif Nat.blt f 37 then (bif Nat.beq f 36 then ⟨[.b, .s], [.c (.bool) none], []⟩ else ⟨[], [], []⟩) else (bif Nat.blt f 38 then (bif Nat.beq f 37 then ⟨[.s, .s], [], [[(.int .u64, none), (.int .u64, none), (.int .u64, none), (.int .u64, none)]]⟩ else ⟨[], [], []⟩) else (bif Nat.beq f 38 then ⟨[.s, .s, .s], [.a [.int .u64, .int .u64, .int .u64, .int .u64]], []⟩ else ⟨[], [], []⟩))) else (bif Nat.blt f 40 then (bif Nat.beq f 39 then ⟨[.s, .s], [.c (.bool) none], []⟩ else ⟨[], [], []⟩) else (bif Nat.blt f 41 then (bif Nat.beq f 40 then ⟨[.s], [.c (.sl spanRow) none], []⟩ else ⟨[], [], []⟩) else (bif Nat.beq f 41 then ⟨[.s, .s, .s], [.a [.bool, .sl (.one (.int .i64)), .sl (.one (.int .i64))]], [[(.sl (.one (.sl spanRow)), some 22), (.bool, none), (.sl (.one (.int .i64)), none), (.sl (.one (.int .i64)), none), (.sl (.one (.sl (.one (.int .i64)))), some 30)]]⟩ else ⟨[], [], []⟩)))) else (bif Nat.blt f 45 then (bif Nat.blt f 43 then (bif Nat.beq f 42 then ⟨[.s, .s, .s], [], [[(.sl (.one (.sl spanRow)), some 22), (.bool, none), (.sl (.one (.int .i64)), none), (.sl (.one (.int .i64)), none), (.sl (.one (.sl (.one (.int .i64)))), some 30)]]⟩ else ⟨[], [], []⟩) else (bif Nat.blt f 44 then (bif Nat.beq f 43 then ⟨[.s], [.c (.bool) none], []⟩ else ⟨[], [], []⟩) else (bif Nat.beq f 44 then ⟨[.s], [.c (.sl spanRow) none], []⟩ else ⟨[], [], []⟩))) else (bif Nat.blt f 46 then (bif Nat.beq f 45 then ⟨[.s, .s, .s], [], [[(.int .i64, none), (.sl (.one (.sl spanRow)), some 22), (.sl (.one (.sl (.one (.bool)))), some 63)]]⟩ else ⟨[], [], []⟩) else (bif Nat.blt f 47 then (bif Nat.beq f 46 then ⟨[.b, .b], [.c (.sl (.one (.bool))) none], []⟩ else ⟨[], [], []⟩) else (bif Nat.beq f 47 then ⟨[.s, .s], [.c (.bool) none], []⟩ else ⟨[], [], []⟩))))))) else (bif Nat.blt f 70 then (bif Nat.blt f 59 then (bif Nat.blt f 53 then (bif Nat.blt f 50 then (bif Nat.blt f 49 then (bif Nat.beq f 48 then ⟨[.s], [.c (.bool) none], []⟩ else ⟨[], [], []⟩) else (bif Nat.beq f 49 then ⟨[.s, .s], [.c (.bool) none], []⟩ else ⟨[], [], []⟩)) else (bif Nat.blt f 51 then (bif Nat.beq f 50 then ⟨[.b, .s], [.c (.int .i64) none, .c (.bool) none], []⟩ else ⟨[], [], []⟩) else (bif Nat.blt f 52 then (bif Nat.beq f 51 then ⟨[.o 3, .s, .o 3], [.c (.sl (.one (.int .i64))) (some 3)], []⟩ else ⟨[], [], []⟩) else (bif Nat.beq f 52 then ⟨[.b, .s], [.c (.int .i64) none], [[(.sl (.one (.sl spanRow)), none), (.bool, none), (.sl (.one (.int .i64)), none), (.sl (.one (.int .i64)), none), (.sl (.one (.sl (.one (.int .i64)))), none)]]⟩ else ⟨[], [], []⟩)))) else (bif Nat.blt f 56 then (bif Nat.blt f 54 then (bif Nat.beq f 53 then ⟨[.b, .s], [.c (.int .i64) none], []⟩ else ⟨[], [], []⟩) else (bif Nat.blt f 55 then (bif Nat.beq f 54 then ⟨[.s, .s], [.a [.int .u64, .int .u64, .int .u64, .int .u64]], []⟩ else ⟨[], [], []⟩) else (bif Nat.beq f 55 then ⟨[.s, .s], [], []⟩ else ⟨[], [], []⟩))) else (bif Nat.blt f 57 then (bif Nat.beq f 56 then ⟨[.s, .s], [.c (.int .i64) none], []⟩ else ⟨[], [], []⟩) else (bif Nat.blt f 58 then (bif Nat.beq f 57 then ⟨[.s, .s], [.c (.int .i64) none], []⟩ else ⟨[], [], []⟩) else (bif Nat.beq f 58 then ⟨[.s, .s, .s], [.c (.sl spanRow) none], []⟩ else ⟨[], [], []⟩))))) else (bif Nat.blt f 64 then (bif Nat.blt f 61 then (bif Nat.blt f 60 then (bif Nat.beq f 59 then ⟨[.s, .s], [.c (.int .i64) none], []⟩ else ⟨[], [], []⟩) else (bif Nat.beq f 60 then ⟨[.s, .s], [.c (.bool) none], [[(.int .u32, none)]]⟩ else ⟨[], [], []⟩)) else (bif Nat.blt f 62 then (bif Nat.beq f 61 then ⟨[.s], [.c (.bool) none], [[(.int .u32, none)]]⟩ else ⟨[], [], []⟩) else (bif Nat.blt f 63 then (bif Nat.beq f 62 then ⟨[.s, .s], [.c (.bool) none], []⟩ else ⟨[], [], []⟩) else (bif Nat.beq f 63 then ⟨[.s], [.c (.bool) none], []⟩ else ⟨[], [], []⟩)))) else (bif Nat.blt f 67 then (bif Nat.blt f 65 then (bif Nat.beq f 64 then ⟨[.s, .s], [.c (.bool) none], []⟩ else ⟨[], [], []⟩) else (bif Nat.blt f 66 then (bif Nat.beq f 65 then ⟨[.s, .s], [], []⟩ else ⟨[], [], []⟩) else (bif Nat.beq f 66 then ⟨[.s, .s, .s, .s, .s], [], []⟩ else ⟨[], [], []⟩))) else (bif Nat.blt f 68 then (bif Nat.beq f 67 then ⟨[.s], [.c (.int .i64) none], []⟩ else ⟨[], [], []⟩) else (bif Nat.blt f 69 then (bif Nat.beq f 68 then ⟨[.s], [.c (.bool) none], []⟩ else ⟨[], [], []⟩) else (bif Nat.beq f 69 then ⟨[.o 22], [.c (.sl (.one (.int .u32))) none], []⟩ else ⟨[], [], []⟩)))))) else (bif Nat.blt f 81 then (bif Nat.blt f 75 then (bif Nat.blt f 72 then (bif Nat.blt f 71 then (bif Nat.beq f 70 then ⟨[.b, .b], [.c (.sl spanRow) none], []⟩ else ⟨[], [], []⟩) else (bif Nat.beq f 71 then ⟨[.s, .s], [.c (.int .i64) none], [[(.int .u32, none)]]⟩ else ⟨[], [], []⟩)) else (bif Nat.blt f 73 then (bif Nat.beq f 72 then ⟨[.s], [.c (.bool) none], []⟩ else ⟨[], [], []⟩) else (bif Nat.blt f 74 then (bif Nat.beq f 73 then ⟨[.s, .s], [], []⟩ else ⟨[], [], []⟩) else (bif Nat.beq f 74 then ⟨[.s, .s, .s, .s], [], []⟩ else ⟨[], [], []⟩)))) else (bif Nat.blt f 78 then (bif Nat.blt f 76 then (bif Nat.beq f 75 then ⟨[.s, .s, .s, .s], [], []⟩ else ⟨[], [], []⟩) else (bif Nat.blt f 77 then (bif Nat.beq f 76 then ⟨[.s, .s, .s, .s], [], []⟩ else ⟨[], [], []⟩) else (bif Nat.beq f 77 then ⟨[.s, .s, .s, .s], [.c (.int .i64) none, .c (.int .i64) none], []⟩ else ⟨[], [], []⟩))) else (bif Nat.blt f 79 then (bif Nat.beq f 78 then ⟨[.s, .s, .s, .s], [], []⟩ else ⟨[], [], []⟩) else (bif Nat.blt f 80 then (bif Nat.beq f 79 then ⟨[.s, .s, .s, .s], [.c (.bool) none], []⟩ else ⟨[], [], []⟩) else (bif Nat.beq f 80 then ⟨[.s, .s, .s, .s, .s], [.c (.int .i64) none], []⟩ else ⟨[], [], []⟩))))) else (bif Nat.blt f 87 then (bif Nat.blt f 84 then (bif Nat.blt f 82 then (bif Nat.beq f 81 then ⟨[.s, .s, .s, .s, .s], [.c (.int .i64) none, .c (.bool) none], []⟩ else ⟨[], [], []⟩) else (bif Nat.blt f 83 then (bif Nat.beq f 82 then ⟨[.s], [.c (.int .i64) none], []⟩ else ⟨[], [], []⟩) else (bif Nat.beq f 83 then ⟨[.s], [.c (.int .i64) none], []⟩ else ⟨[], [], []⟩))) else (bif Nat.blt f 85 then (bif Nat.beq f 84 then ⟨[.o 48, .s], [.c (.sl (.one (.int .u32))) (some 48)], []⟩ else ⟨[], [], []⟩) else (bif Nat.blt f 86 then (bif Nat.beq f 85 then ⟨[.b, .s], [.c (.int .u32) none], []⟩ else ⟨[], [], []⟩) else (bif Nat.beq f 86 then ⟨[.s], [], []⟩ else ⟨[], [], []⟩)))) else (bif Nat.blt f 90 then (bif Nat.blt f 88 then (bif Nat.beq f 87 then ⟨[.s, .s, .s, .s, .s], [], []⟩ else ⟨[], [], []⟩) else (bif Nat.blt f 89 then (bif Nat.beq f 88 then ⟨[.s], [.c (.int .u64) none], []⟩ else ⟨[], [], []⟩) else (bif Nat.beq f 89 then ⟨[.s], [.c (.int .u64) none], [[(.int .u64, none)]]⟩ else ⟨[], [], []⟩))) else (bif Nat.blt f 91 then (bif Nat.beq f 90 then ⟨[.s, .s, .s, .s], [.c (.int .i64) none], [[(.int .i64, none)]]⟩ else ⟨[], [], []⟩) else (bif Nat.blt f 92 then (bif Nat.beq f 91 then ⟨[.s, .s, .s, .s, .s, .s], [.c (.int .i64) none], [[(.int .i64, none)]]⟩ else ⟨[], [], []⟩) else (bif Nat.beq f 92 then ⟨[.s, .s, .s, .s, .s], [.c (.int .i64) none, .c (.int .i64) none], [[(.int .i64, none)]]⟩ else ⟨[], [], []⟩)))))))
end Go.Proofs.Ytoifbdaaiejbnaa.D
/- What is known otherwise: slices.Insert at int. -/
namespace Go.Proofs.Ytoifbdaaiejbnaa.D
open Go

def insI (e0 e1 : Nat) (l : List Int) (i : Int) (v : List Int) : Option (List Int) :=
  if e0 = 3 ∧ e1 = 3 ∧ 0 ≤ i ∧ i.toNat ≤ l.length ∧ 0 < v.length ∧ l.length + v.length ≤ 17592186044416 then some (l.take i.toNat ++ v ++ l.drop i.toNat) else none
def ext_slices_Insert_int_int (xs : List X) : Option (List Int) :=
  match xs with
  | [.own e0 (.sl (.one (.int .i64))) l, .cell (.int .i64) i false, .own e1 (.sl (.one (.int .i64))) v] => insI e0 e1 l i v
  | _ => none

end Go.Proofs.Ytoifbdaaiejbnaa.D
/- The book: cuts, and what is known otherwise. Printed by dp.py. -/
namespace Go.Proofs.Ytoifbdaaiejbnaa.D
open Go
def cut0 : Nat → Nat → Option (List K) := fun f r => bif Nat.blt f 29 then (bif Nat.blt f 15 then (bif Nat.blt f 11 then (bif Nat.blt f 6 then (bif Nat.beq f 4 then (bif Nat.blt r 23 then (bif Nat.blt r 16 then (bif Nat.beq r 11 then some [.p 4 [none, none, none, none, none], .p 6 [none, none, none, none, none], .t 78, .t 79] else none) else (bif Nat.beq r 16 then some [.p 4 [none, none, none, none, none], .p 6 [none, none, none, none, none], .t 8, .o 9 3, .t 10, .t 78, .t 79, .t 90, .t 91, .t 92] else none)) else (bif Nat.blt r 27 then (bif Nat.beq r 23 then some [.p 4 [none, none, none, none, none], .p 6 [none, none, none, none, none], .t 8, .t 10, .t 78, .t 79, .o 108 3, .t 109, .t 110] else none) else (bif Nat.beq r 27 then some [.p 4 [none, none, none, none, none], .p 6 [none, none, none, none, none], .t 8, .t 10, .t 14, .t 15, .t 78, .t 79, .o 108 3, .t 109, .t 110, .t 118, .t 119, .t 120] else none))) else none) else (bif Nat.blt f 9 then (bif Nat.beq f 6 then (bif Nat.blt r 19 then (bif Nat.beq r 14 then some [.t 1, .p 5 [none, none, none, none, none], .t 7, .t 8, .t 65, .t 66, .t 67] else none) else (bif Nat.beq r 19 then some [.t 1, .p 5 [none, none, none, none, none], .t 7, .t 8, .t 85, .t 86, .t 87] else none)) else none) else (bif Nat.beq f 9 then (bif Nat.beq r 3 then some [.p 2 [none, some 80, some 25], .p 3 [none, none, some 25], .t 14, .t 15, .t 16] else none) else none))) else (bif Nat.blt f 12 then (bif Nat.beq f 11 then (bif Nat.beq r 5 then some [.p 1 [none, none, none], .p 2 [none, none, none, none, some 30], .p 4 [none, none, some 63], .t 5] else none) else none) else (bif Nat.blt f 13 then (bif Nat.beq f 12 then (bif Nat.blt r 10 then (bif Nat.beq r 4 then some [.p 2 [none, none, none, none, none], .p 3 [none, none, none, none, none], .t 48, .t 49] else none) else (bif Nat.beq r 10 then some [.p 2 [none, none, none, none, none], .p 3 [none, none, none, none, none], .t 67, .t 68] else none)) else none) else (bif Nat.beq f 13 then (bif Nat.beq r 4 then some [.p 2 [none, none, none], .p 3 [none, none, none], .t 30, .t 31] else none) else none)))) else (bif Nat.blt f 20 then (bif Nat.blt f 16 then (bif Nat.beq f 15 then (bif Nat.beq r 4 then some [.t 0, .t 1, .t 12, .t 13] else none) else none) else (bif Nat.blt f 18 then (bif Nat.beq f 16 then (bif Nat.blt r 9 then (bif Nat.beq r 5 then some [.p 2 [none, none, none, none, none], .t 5, .t 24, .t 25, .t 26] else none) else (bif Nat.beq r 9 then some [.p 2 [none, none, none, none, none], .t 7, .t 8, .t 24, .t 25, .t 26, .t 30, .t 31, .t 32] else none)) else none) else (bif Nat.beq f 18 then (bif Nat.beq r 4 then some [.t 0, .t 1, .t 12, .t 13] else none) else none))) else (bif Nat.blt f 23 then (bif Nat.blt f 22 then (bif Nat.beq f 20 then (bif Nat.beq r 2 then some [.t 1, .t 7, .t 8, .t 9] else none) else none) else (bif Nat.beq f 22 then (bif Nat.beq r 3 then some [.t 4, .t 5, .t 11, .t 12, .t 13] else none) else none)) else (bif Nat.blt f 26 then (bif Nat.beq f 23 then (bif Nat.blt r 18 then (bif Nat.beq r 10 then some [.p 0 [some 22, none, none, none, some 30], .p 4 [none, none, none], .p 6 [none, none, none], .t 57, .t 58, .t 59] else none) else (bif Nat.beq r 18 then some [.p 0 [some 22, none, none, none, some 30], .p 4 [none, none, none], .p 9 [none, none, none], .t 74, .t 75, .t 76] else none)) else none) else (bif Nat.beq f 26 then (bif Nat.beq r 5 then some [.t 3, .t 10, .t 11, .t 12] else none) else none))))) else (bif Nat.blt f 43 then (bif Nat.blt f 33 then (bif Nat.blt f 30 then (bif Nat.beq f 29 then (bif Nat.beq r 4 then some [.t 0, .t 1, .t 12, .t 13] else none) else none) else (bif Nat.blt f 32 then (bif Nat.beq f 30 then (bif Nat.beq r 3 then some [.t 2, .t 3, .t 9, .t 10, .t 11] else none) else none) else (bif Nat.beq f 32 then (bif Nat.beq r 3 then some [.t 2, .p 3 [none, none, none, none, none], .o 7 3, .t 10, .t 11, .t 12] else none) else none))) else (bif Nat.blt f 40 then (bif Nat.blt f 38 then (bif Nat.beq f 33 then (bif Nat.beq r 3 then some [.o 5 3, .t 12, .t 13, .t 14] else none) else none) else (bif Nat.beq f 38 then (bif Nat.blt r 19 then (bif Nat.blt r 13 then (bif Nat.beq r 5 then some [.p 3 [none, none, none], .p 5 [none, none, none, none], .p 6 [none, none, none, none], .p 7 [none, none, none, none], .t 19, .t 20, .t 21] else none) else (bif Nat.beq r 13 then some [.t 1, .p 6 [none, none, none, none], .p 7 [none, none, none, none], .t 43, .t 44, .t 45] else none)) else (bif Nat.blt r 25 then (bif Nat.beq r 19 then some [.t 1, .p 5 [none, none, none, none], .p 6 [none, none, none, none], .p 7 [none, none, none, none], .t 57, .t 58, .t 59] else none) else (bif Nat.beq r 25 then some [.t 1, .p 3 [none, none, none], .p 6 [none, none, none, none], .p 7 [none, none, none, none]] else none))) else none)) else (bif Nat.blt f 42 then (bif Nat.beq f 40 then (bif Nat.blt r 11 then (bif Nat.beq r 3 then some [.o 3 80, .t 10, .t 11, .t 12] else none) else (bif Nat.beq r 11 then some [.o 6 80, .o 28 80, .t 29, .t 30] else none)) else none) else (bif Nat.beq f 42 then (bif Nat.beq r 1 then some [.p 0 [some 22, none, none, none, some 30], .t 2, .t 8, .t 9, .t 10] else none) else none)))) else (bif Nat.blt f 53 then (bif Nat.blt f 50 then (bif Nat.beq f 43 then (bif Nat.beq r 8 then some [.t 46, .t 47, .t 48] else none) else none) else (bif Nat.blt f 52 then (bif Nat.beq f 50 then (bif Nat.beq r 3 then some [.t 0, .t 1, .t 6, .t 7, .t 8] else none) else none) else (bif Nat.beq f 52 then (bif Nat.beq r 2 then some [.t 0, .t 1, .t 7, .t 8, .f 1 0 64 [none, none, none, none, none]] else none) else none))) else (bif Nat.blt f 59 then (bif Nat.blt f 54 then (bif Nat.beq f 53 then (bif Nat.beq r 2 then some [.t 0, .t 1, .t 7, .t 8] else none) else none) else (bif Nat.beq f 54 then (bif Nat.beq r 2 then some [.p 2 [none, none, none, none], .p 4 [none, none, none, none], .t 7, .t 8] else none) else none)) else (bif Nat.blt f 71 then (bif Nat.beq f 59 then (bif Nat.beq r 2 then some [.t 0, .t 1, .t 7, .t 8] else none) else none) else (bif Nat.beq f 71 then (bif Nat.beq r 2 then some [.t 0, .t 1, .t 7, .t 8, .f 1 0 64 [none]] else none) else none)))))
def ext0 : (f : Nat) → Option (List X → Option (sig0 f).row.T)
  | 51 => some ext_slices_Insert_int_int
  | _ => none
noncomputable def B0 : Book := { P := Try.prog, pt := 25, sig := sig0, cut := cut0, ext := ext0, inp := inp0 }
end Go.Proofs.Ytoifbdaaiejbnaa.D
/- Calls, by the data they are given. Printed by dp.py. -/
set_option maxRecDepth 100000
namespace Go.Proofs.Ytoifbdaaiejbnaa.D
open Go
noncomputable def law08_PosOf.C (call : B0.Call) (p0_0 : Int) (p0_1 : List (Int × Int)) (p0_2 : List Pat) : Option Bool := call 3 [.agg [⟨.int .i64, p0_0⟩, ⟨.sl spanRow, p0_1⟩, ⟨.pats, p0_2⟩]]
noncomputable def law08_PosStars.C (call : B0.Call) (p0_0 : Int) (p0_1 : List (Int × Int)) (p0_2 : List Pat) : Option Bool := call 4 [.agg [⟨.int .i64, p0_0⟩, ⟨.sl spanRow, p0_1⟩, ⟨.pats, p0_2⟩]]
noncomputable def law08_PosRuns.C (call : B0.Call) (p0_0 : Int) (p0_1 : List (Int × Int)) (p0_2 : List Pat) (path1 : List Int) : Option Bool := call 5 [.agg [⟨.int .i64, p0_0⟩, ⟨.sl spanRow, p0_1⟩, ⟨.pats, p0_2⟩], .cell (.sl (.one (.int .u32))) path1 false]
noncomputable def law08_PosEnds.C (call : B0.Call) (p0_0 : Int) (p0_1 : List (Int × Int)) (p0_2 : List Pat) (path1 : List Int) : Option Bool := call 6 [.agg [⟨.int .i64, p0_0⟩, ⟨.sl spanRow, p0_1⟩, ⟨.pats, p0_2⟩], .cell (.sl (.one (.int .u32))) path1 false]
noncomputable def law08_alive.C (call : B0.Call) : Option Bool := call 7 []
noncomputable def ref05_Great.C (call : B0.Call) (p0_0 : Int) (p0_1 : List (Int × Int)) (p0_2 : List Pat) : Option Bool := call 8 [.agg [⟨.int .i64, p0_0⟩, ⟨.sl spanRow, p0_1⟩, ⟨.pats, p0_2⟩]]
noncomputable def ref05_Copy.C (call : B0.Call) (p0_0 : Int) (p0_1 : List (Int × Int)) (p0_2 : List Pat) : Option (Int × (List (Int × Int)) × (List Pat)) := call 9 [.agg [⟨.int .i64, p0_0⟩, ⟨.sl spanRow, p0_1⟩, ⟨.pats, p0_2⟩]]
noncomputable def pos_Of.C (call : B0.Call) (p0_0 : Int) (p0_1 : List (Int × Int)) (p0_2 : List Pat) : Option ((List (List (Int × Int))) × Bool × (List Int) × (List Int) × (List (List Int)) × Int) := call 10 [.agg [⟨.int .i64, p0_0⟩, ⟨.sl spanRow, p0_1⟩, ⟨.pats, p0_2⟩]]
noncomputable def ref08_Of.C (call : B0.Call) (p0_0 : Int) (p0_1 : List (Int × Int)) (p0_2 : List Pat) : Option ((List (List (Int × Int))) × Bool × (List Int) × (List Int) × (List (List Int)) × Int) := call 11 [.agg [⟨.int .i64, p0_0⟩, ⟨.sl spanRow, p0_1⟩, ⟨.pats, p0_2⟩]]
noncomputable def ref08_Same.C (call : B0.Call) (a0_0 : List (List (Int × Int))) (a0_1 : Bool) (a0_2 : List Int) (a0_3 : List Int) (a0_4 : List (List Int)) (b1_0 : List (List (Int × Int))) (b1_1 : Bool) (b1_2 : List Int) (b1_3 : List Int) (b1_4 : List (List Int)) : Option Bool := call 12 [.agg [⟨.sl (.one (.sl spanRow)), a0_0⟩, ⟨.bool, a0_1⟩, ⟨.sl (.one (.int .i64)), a0_2⟩, ⟨.sl (.one (.int .i64)), a0_3⟩, ⟨.sl (.one (.sl (.one (.int .i64)))), a0_4⟩], .agg [⟨.sl (.one (.sl spanRow)), b1_0⟩, ⟨.bool, b1_1⟩, ⟨.sl (.one (.int .i64)), b1_2⟩, ⟨.sl (.one (.int .i64)), b1_3⟩, ⟨.sl (.one (.sl (.one (.int .i64)))), b1_4⟩]]
noncomputable def ref05_Same.C (call : B0.Call) (a0_0 : Int) (a0_1 : List (Int × Int)) (a0_2 : List Pat) (b1_0 : Int) (b1_1 : List (Int × Int)) (b1_2 : List Pat) : Option Bool := call 13 [.agg [⟨.int .i64, a0_0⟩, ⟨.sl spanRow, a0_1⟩, ⟨.pats, a0_2⟩], .agg [⟨.int .i64, b1_0⟩, ⟨.sl spanRow, b1_1⟩, ⟨.pats, b1_2⟩]]
noncomputable def pat_Right.C (call : B0.Call) (p0_0 : Int) (p0_1 : List (Int × Int)) (p0_2 : List Pat) : Option Bool := call 14 [.agg [⟨.int .i64, p0_0⟩, ⟨.sl spanRow, p0_1⟩, ⟨.pats, p0_2⟩]]
noncomputable def ref08_Ints.C (call : B0.Call) (a0 : List Int) (b1 : List Int) : Option Bool := call 15 [.cell (.sl (.one (.int .i64))) a0 true, .cell (.sl (.one (.int .i64))) b1 true]
noncomputable def pos_Run.C (call : B0.Call) (x0_0 : List (List (Int × Int))) (x0_1 : Bool) (x0_2 : List Int) (x0_3 : List Int) (x0_4 : List (List Int)) (path1 : List Int) : Option Bool := call 16 [.agg [⟨.sl (.one (.sl spanRow)), x0_0⟩, ⟨.bool, x0_1⟩, ⟨.sl (.one (.int .i64)), x0_2⟩, ⟨.sl (.one (.int .i64)), x0_3⟩, ⟨.sl (.one (.sl (.one (.int .i64)))), x0_4⟩], .cell (.sl (.one (.int .u32))) path1 true]
noncomputable def pat_Match.C (call : B0.Call) (p0_0 : Int) (p0_1 : List (Int × Int)) (p0_2 : List Pat) (path1 : List Int) : Option Bool := call 17 [.agg [⟨.int .i64, p0_0⟩, ⟨.sl spanRow, p0_1⟩, ⟨.pats, p0_2⟩], .cell (.sl (.one (.int .u32))) path1 false]
noncomputable def ref01_Nums.C (call : B0.Call) (a0 : List Int) (b1 : List Int) : Option Bool := call 18 [.cell (.sl (.one (.int .u32))) a0 true, .cell (.sl (.one (.int .u32))) b1 true]
noncomputable def pat_Empty.C (call : B0.Call) (p0_0 : Int) (p0_1 : List (Int × Int)) (p0_2 : List Pat) : Option Bool := call 19 [.agg [⟨.int .i64, p0_0⟩, ⟨.sl spanRow, p0_1⟩, ⟨.pats, p0_2⟩]]
noncomputable def ref01_In.C (call : B0.Call) (l0 : List (Int × Int)) (n1 : Int) : Option Bool := call 20 [.cell (.sl spanRow) l0 true, .cell (.int .u32) n1 false]
noncomputable def law08_one.C (call : B0.Call) (n0 : Int) : Option (Int × (List (Int × Int)) × (List Pat)) := call 21 [.cell (.int .u32) n0 false]
noncomputable def ref05_Size.C (call : B0.Call) (p0_0 : Int) (p0_1 : List (Int × Int)) (p0_2 : List Pat) : Option (Int × Int) := call 22 [.agg [⟨.int .i64, p0_0⟩, ⟨.sl spanRow, p0_1⟩, ⟨.pats, p0_2⟩]]
noncomputable def pos_maker_part.C (call : B0.Call) (m0_0 : List (List (Int × Int))) (m0_1 : Bool) (m0_2 : List Int) (m0_3 : List Int) (m0_4 : List (List Int)) (p1_0 : Int) (p1_1 : List (Int × Int)) (p1_2 : List Pat) : Option (Bool × (List Int) × (List Int) × (List (List (Int × Int))) × Bool × (List Int) × (List Int) × (List (List Int))) := call 23 [.box [.ow 22 ⟨.sl (.one (.sl spanRow)), m0_0⟩, .pl ⟨.bool, m0_1⟩, .pl ⟨.sl (.one (.int .i64)), m0_2⟩, .pl ⟨.sl (.one (.int .i64)), m0_3⟩, .ow 30 ⟨.sl (.one (.sl (.one (.int .i64)))), m0_4⟩], .agg [⟨.int .i64, p1_0⟩, ⟨.sl spanRow, p1_1⟩, ⟨.pats, p1_2⟩]]
noncomputable def slices_Clone_int_int.C (call : B0.Call) (s0 : List Int) : Option (List Int) := call 24 [.cell (.sl (.one (.int .i64))) s0 false]
noncomputable def ref05_Right.C (call : B0.Call) (p0_0 : Int) (p0_1 : List (Int × Int)) (p0_2 : List Pat) : Option Bool := call 25 [.agg [⟨.int .i64, p0_0⟩, ⟨.sl spanRow, p0_1⟩, ⟨.pats, p0_2⟩]]
noncomputable def ref08_ones.C (call : B0.Call) (p0_0 : Int) (p0_1 : List (Int × Int)) (p0_2 : List Pat) : Option Int := call 26 [.agg [⟨.int .i64, p0_0⟩, ⟨.sl spanRow, p0_1⟩, ⟨.pats, p0_2⟩]]
noncomputable def ref01_Same.C (call : B0.Call) (a0 : List (Int × Int)) (b1 : List (Int × Int)) : Option Bool := call 29 [.cell (.sl spanRow) a0 true, .cell (.sl spanRow) b1 true]
noncomputable def pat_Size.C (call : B0.Call) (p0_0 : Int) (p0_1 : List (Int × Int)) (p0_2 : List Pat) : Option (Int × Int) := call 30 [.agg [⟨.int .i64, p0_0⟩, ⟨.sl spanRow, p0_1⟩, ⟨.pats, p0_2⟩]]
noncomputable def pat_fits.C (call : B0.Call) (p0_0 : Int) (p0_1 : List (Int × Int)) (p0_2 : List Pat) : Option Bool := call 31 [.agg [⟨.int .i64, p0_0⟩, ⟨.sl spanRow, p0_1⟩, ⟨.pats, p0_2⟩]]
noncomputable def pos_Pos_may.C (call : B0.Call) (x0_0 : List (List (Int × Int))) (x0_1 : Bool) (x0_2 : List Int) (x0_3 : List Int) (x0_4 : List (List Int)) (l1 : List Int) (n2 : Int) : Option (List Int) := call 32 [.agg [⟨.sl (.one (.sl spanRow)), x0_0⟩, ⟨.bool, x0_1⟩, ⟨.sl (.one (.int .i64)), x0_2⟩, ⟨.sl (.one (.int .i64)), x0_3⟩, ⟨.sl (.one (.sl (.one (.int .i64)))), x0_4⟩], .cell (.sl (.one (.int .i64))) l1 false, .cell (.int .u32) n2 false]
noncomputable def slices_ContainsFunc_int_int.C (call : B0.Call) (s0 : List Int) (f1_0_0 : List (List (Int × Int))) (f1_0_1 : Bool) (f1_0_2 : List Int) (f1_0_3 : List Int) (f1_0_4 : List (List Int)) : Option (Bool × (List (List (Int × Int))) × Bool × (List Int) × (List Int) × (List (List Int))) := call 34 [.cell (.sl (.one (.int .i64))) s0 true, .fn 35 [.box [.pl ⟨.sl (.one (.sl spanRow)), f1_0_0⟩, .pl ⟨.bool, f1_0_1⟩, .pl ⟨.sl (.one (.int .i64)), f1_0_2⟩, .pl ⟨.sl (.one (.int .i64)), f1_0_3⟩, .pl ⟨.sl (.one (.sl (.one (.int .i64)))), f1_0_4⟩]]]
noncomputable def pos_with.C (call : B0.Call) (l0 : List Int) (more1 : List Int) : Option (List Int) := call 33 [.cell (.sl (.one (.int .i64))) l0 false, .cell (.sl (.one (.int .i64))) more1 false]
noncomputable def pat_places_put.C (call : B0.Call) (x0_0 : Int) (x0_1 : Int) (x0_2 : Int) (x0_3 : Int) (i1 : Int) : Option (Int × Int × Int × Int) := call 37 [.box [.pl ⟨.int .u64, x0_0⟩, .pl ⟨.int .u64, x0_1⟩, .pl ⟨.int .u64, x0_2⟩, .pl ⟨.int .u64, x0_3⟩], .cell (.int .i64) i1 false]
noncomputable def pat_ends.C (call : B0.Call) (p0_0 : Int) (p0_1 : List (Int × Int)) (p0_2 : List Pat) (path1 : List Int) (at2_0 : Int) (at2_1 : Int) (at2_2 : Int) (at2_3 : Int) : Option (Int × Int × Int × Int) := call 38 [.agg [⟨.int .i64, p0_0⟩, ⟨.sl spanRow, p0_1⟩, ⟨.pats, p0_2⟩], .cell (.sl (.one (.int .u32))) path1 false, .agg [⟨.int .u64, at2_0⟩, ⟨.int .u64, at2_1⟩, ⟨.int .u64, at2_2⟩, ⟨.int .u64, at2_3⟩]]
noncomputable def pat_places_has.C (call : B0.Call) (x0_0 : Int) (x0_1 : Int) (x0_2 : Int) (x0_3 : Int) (i1 : Int) : Option Bool := call 39 [.agg [⟨.int .u64, x0_0⟩, ⟨.int .u64, x0_1⟩, ⟨.int .u64, x0_2⟩, ⟨.int .u64, x0_3⟩], .cell (.int .i64) i1 false]
noncomputable def span_Norm.C (call : B0.Call) (l0 : List (Int × Int)) : Option (List (Int × Int)) := call 40 [.cell (.sl spanRow) l0 false]
noncomputable def pos_maker_chain.C (call : B0.Call) (m0_0 : List (List (Int × Int))) (m0_1 : Bool) (m0_2 : List Int) (m0_3 : List Int) (m0_4 : List (List Int)) (last1 : List Int) (first2 : List Int) : Option ((List (List (Int × Int))) × Bool × (List Int) × (List Int) × (List (List Int))) := call 42 [.box [.ow 22 ⟨.sl (.one (.sl spanRow)), m0_0⟩, .pl ⟨.bool, m0_1⟩, .pl ⟨.sl (.one (.int .i64)), m0_2⟩, .pl ⟨.sl (.one (.int .i64)), m0_3⟩, .ow 30 ⟨.sl (.one (.sl (.one (.int .i64)))), m0_4⟩], .cell (.sl (.one (.int .i64))) last1 false, .cell (.sl (.one (.int .i64))) first2 false]
noncomputable def pos_maker_cat.C (call : B0.Call) (m0_0 : List (List (Int × Int))) (m0_1 : Bool) (m0_2 : List Int) (m0_3 : List Int) (m0_4 : List (List Int)) (a1_0 : Bool) (a1_1 : List Int) (a1_2 : List Int) (b2_0 : Bool) (b2_1 : List Int) (b2_2 : List Int) : Option (Bool × (List Int) × (List Int) × (List (List (Int × Int))) × Bool × (List Int) × (List Int) × (List (List Int))) := call 41 [.box [.ow 22 ⟨.sl (.one (.sl spanRow)), m0_0⟩, .pl ⟨.bool, m0_1⟩, .pl ⟨.sl (.one (.int .i64)), m0_2⟩, .pl ⟨.sl (.one (.int .i64)), m0_3⟩, .ow 30 ⟨.sl (.one (.sl (.one (.int .i64)))), m0_4⟩], .agg [⟨.bool, a1_0⟩, ⟨.sl (.one (.int .i64)), a1_1⟩, ⟨.sl (.one (.int .i64)), a1_2⟩], .agg [⟨.bool, b2_0⟩, ⟨.sl (.one (.int .i64)), b2_1⟩, ⟨.sl (.one (.int .i64)), b2_2⟩]]
noncomputable def ref05_kinds.C (call : B0.Call) (p0_0 : Int) (p0_1 : List (Int × Int)) (p0_2 : List Pat) : Option Bool := call 43 [.agg [⟨.int .i64, p0_0⟩, ⟨.sl spanRow, p0_1⟩, ⟨.pats, p0_2⟩]]
noncomputable def slices_ContainsFunc_api_Pat_api_Pat.C (call : B0.Call) (s0 : List Pat) : Option Bool := call 47 [.cell (.pats) s0 false, .fn 48 []]
noncomputable def span_In.C (call : B0.Call) (l0 : List (Int × Int)) (n1 : Int) : Option Bool := call 49 [.cell (.sl spanRow) l0 false, .cell (.int .u32) n1 false]
noncomputable def slices_IndexFunc_int_int.C (call : B0.Call) (s0 : List Int) (f1_0_0 : List (List (Int × Int))) (f1_0_1 : Bool) (f1_0_2 : List Int) (f1_0_3 : List Int) (f1_0_4 : List (List Int)) : Option (Int × (List (List (Int × Int))) × Bool × (List Int) × (List Int) × (List (List Int))) := call 52 [.cell (.sl (.one (.int .i64))) s0 true, .fn 35 [.box [.pl ⟨.sl (.one (.sl spanRow)), f1_0_0⟩, .pl ⟨.bool, f1_0_1⟩, .pl ⟨.sl (.one (.int .i64)), f1_0_2⟩, .pl ⟨.sl (.one (.int .i64)), f1_0_3⟩, .pl ⟨.sl (.one (.sl (.one (.int .i64)))), f1_0_4⟩]]]
noncomputable def slices_BinarySearch_int_int.C (call : B0.Call) (x0 : List Int) (target1 : Int) : Option (Int × Bool) := call 50 [.cell (.sl (.one (.int .i64))) x0 true, .cell (.int .i64) target1 false]
noncomputable def slices_Insert_int_int.C (call : B0.Call) (s0 : List Int) (i1 : Int) (v2 : List Int) : Option (List Int) := call 51 [.own 3 (.sl (.one (.int .i64))) s0, .cell (.int .i64) i1 false, .own 3 (.sl (.one (.int .i64))) v2]
noncomputable def pat_places_with.C (call : B0.Call) (x0_0 : Int) (x0_1 : Int) (x0_2 : Int) (x0_3 : Int) (y1_0 : Int) (y1_1 : Int) (y1_2 : Int) (y1_3 : Int) : Option (Int × Int × Int × Int) := call 54 [.agg [⟨.int .u64, x0_0⟩, ⟨.int .u64, x0_1⟩, ⟨.int .u64, x0_2⟩, ⟨.int .u64, x0_3⟩], .agg [⟨.int .u64, y1_0⟩, ⟨.int .u64, y1_1⟩, ⟨.int .u64, y1_2⟩, ⟨.int .u64, y1_3⟩]]
noncomputable def slices_IndexFunc_api_Pat_api_Pat.C (call : B0.Call) (s0 : List Pat) : Option Int := call 59 [.cell (.pats) s0 false, .fn 48 []]
noncomputable def slices_ContainsFunc_api_Span_api_Span.C (call : B0.Call) (s0 : List (Int × Int)) (f1_0_0 : Int) : Option (Bool × Int) := call 60 [.cell (.sl spanRow) s0 false, .fn 61 [.box [.pl ⟨.int .u32, f1_0_0⟩]]]
noncomputable def pos_Run_c1.C (call : B0.Call) (k0 : Int) (t1_0 : List (List (Int × Int))) (t1_1 : Bool) (t1_2 : List Int) (t1_3 : List Int) (t1_4 : List (List Int)) : Option (Bool × (List (List (Int × Int))) × Bool × (List Int) × (List Int) × (List (List Int))) := call 35 [.cell (.int .i64) k0 false, .box [.pl ⟨.sl (.one (.sl spanRow)), t1_0⟩, .pl ⟨.bool, t1_1⟩, .pl ⟨.sl (.one (.int .i64)), t1_2⟩, .pl ⟨.sl (.one (.int .i64)), t1_3⟩, .pl ⟨.sl (.one (.sl (.one (.int .i64)))), t1_4⟩]]
noncomputable def cmp_Less_int.C (call : B0.Call) (x0 : Int) (y1 : Int) : Option Bool := call 62 [.cell (.int .i64) x0 false, .cell (.int .i64) y1 false]
noncomputable def slices_isNaN_int.C (call : B0.Call) (x0 : Int) : Option Bool := call 63 [.cell (.int .i64) x0 false]
noncomputable def pat_fits_c1.C (call : B0.Call) (s0_0 : Int) (s0_1 : List (Int × Int)) (s0_2 : List Pat) : Option Bool := call 48 [.agg [⟨.int .i64, s0_0⟩, ⟨.sl spanRow, s0_1⟩, ⟨.pats, s0_2⟩]]
noncomputable def slices_IndexFunc_api_Span_api_Span.C (call : B0.Call) (s0 : List (Int × Int)) (f1_0_0 : Int) : Option (Int × Int) := call 71 [.cell (.sl spanRow) s0 false, .fn 61 [.box [.pl ⟨.int .u32, f1_0_0⟩]]]
noncomputable def slices_Contains_int_int.C (call : B0.Call) (s0 : List Int) (v1 : Int) : Option Bool := call 36 [.cell (.sl (.one (.int .i64))) s0 true, .cell (.int .i64) v1 false]
noncomputable def cmp_isNaN_int.C (call : B0.Call) (x0 : Int) : Option Bool := call 72 [.cell (.int .i64) x0 false]
noncomputable def span_In_c1.C (call : B0.Call) (s0_0 : Int) (s0_1 : Int) (t1_0 : Int) : Option (Bool × Int) := call 61 [.agg [⟨.int .u32, s0_0⟩, ⟨.int .u32, s0_1⟩], .box [.pl ⟨.int .u32, t1_0⟩]]
noncomputable def slices_Index_int_int.C (call : B0.Call) (s0 : List Int) (v1 : Int) : Option Int := call 53 [.cell (.sl (.one (.int .i64))) s0 true, .cell (.int .i64) v1 false]
end Go.Proofs.Ytoifbdaaiejbnaa.D
/- What functions come to. Printed by dp.py. -/
set_option maxRecDepth 100000
namespace Go.Proofs.Ytoifbdaaiejbnaa.D
open Go
/- 3: law08_PosOf -/
noncomputable def law08_PosOf.R (call : B0.Call) (j : Nat) : B0.Rec 3 := B0.goOn call 3 Try.f3 [] j
noncomputable def law08_PosOf.t (call : B0.Call) (rec_ : B0.Rec 3) (p0_0 : Int) (p0_1 : List (Int × Int)) (p0_2 : List Pat) : Option Bool :=
  Option.bind (law08_alive.C call) fun r0 =>
  bif (!r0) then
   some false
  else
   Option.bind (ref05_Great.C call p0_0 p0_1 p0_2) fun r1 =>
   bif r1 then
    some true
   else
    Option.bind (ref05_Copy.C call p0_0 p0_1 p0_2) fun r2 =>
    Option.bind (pos_Of.C call r2.1 r2.2.1 r2.2.2) fun r3 =>
    Option.bind (ref08_Of.C call p0_0 p0_1 p0_2) fun r4 =>
    bif (r3.2.2.2.2.2 == r4.2.2.2.2.2) then
     Option.bind (ref08_Same.C call r3.1 r3.2.1 r3.2.2.1 r3.2.2.2.1 r3.2.2.2.2.1 r4.1 r4.2.1 r4.2.2.1 r4.2.2.2.1 r4.2.2.2.2.1) fun r5 =>
     bif r5 then
      Option.bind (ref05_Same.C call r2.1 r2.2.1 r2.2.2 p0_0 p0_1 p0_2) fun r6 =>
      some r6
     else
      some false
    else
     some false
theorem law08_PosOf.e (call : B0.Call) (rec_ : B0.Rec 3) (p0_0 : Int) (p0_1 : List (Int × Int)) (p0_2 : List Pat) :
    den (B0.env call 3 Try.f3 [] rec_) 100000 false (bodyOf Try.f3.body) (entryS 0 [.agg [⟨.int .i64, p0_0⟩, ⟨.sl spanRow, p0_1⟩, ⟨.pats, p0_2⟩]] S.zero).1 = law08_PosOf.t call rec_ p0_0 p0_1 p0_2 := by kernel_rfl
theorem law08_PosOf.s (k : Nat) (p0_0 : Int) (p0_1 : List (Int × Int)) (p0_2 : List Pat) : law08_PosOf.C (B0.call (k + 1)) p0_0 p0_1 p0_2 = law08_PosOf.t (B0.call k) (law08_PosOf.R (B0.call k) k) p0_0 p0_1 p0_2 :=
  (call_eq B0 rfl Try.func3 (by kernel_rfl) k _).trans (law08_PosOf.e _ _ p0_0 p0_1 p0_2)
/- 4: law08_PosStars -/
noncomputable def law08_PosStars.R (call : B0.Call) (j : Nat) : B0.Rec 4 := B0.goOn call 4 Try.f4 [] j
noncomputable def law08_PosStars.l11 (rec_ : B0.Rec 4) (x4_0 : List (List (Int × Int))) (x4_1 : Bool) (x4_2 : List Int) (x4_3 : List Int) (x4_4 : List (List Int)) (y6_0 : List (List (Int × Int))) (y6_1 : Bool) (y6_2 : List Int) (y6_3 : List Int) (y6_4 : List (List Int)) (t78 : Int) (t79 : Int) : Option Bool := rec_ (stk Try.f4.body 11) [.box [.pl ⟨.sl (.one (.sl spanRow)), x4_0⟩, .pl ⟨.bool, x4_1⟩, .pl ⟨.sl (.one (.int .i64)), x4_2⟩, .pl ⟨.sl (.one (.int .i64)), x4_3⟩, .pl ⟨.sl (.one (.sl (.one (.int .i64)))), x4_4⟩], .box [.pl ⟨.sl (.one (.sl spanRow)), y6_0⟩, .pl ⟨.bool, y6_1⟩, .pl ⟨.sl (.one (.int .i64)), y6_2⟩, .pl ⟨.sl (.one (.int .i64)), y6_3⟩, .pl ⟨.sl (.one (.sl (.one (.int .i64)))), y6_4⟩], .val (.cell (.int .i64) t78 false), .val (.cell (.int .i64) t79 false)]
noncomputable def law08_PosStars.l16 (rec_ : B0.Rec 4) (x4_0 : List (List (Int × Int))) (x4_1 : Bool) (x4_2 : List Int) (x4_3 : List Int) (x4_4 : List (List Int)) (y6_0 : List (List (Int × Int))) (y6_1 : Bool) (y6_2 : List Int) (y6_3 : List Int) (y6_4 : List (List Int)) (i8 : Int) (want9 : List Int) (last10 : Bool) (t78 : Int) (t79 : Int) (t90 : List Int) (t91 : Int) (t92 : Int) : Option Bool := rec_ (stk Try.f4.body 16) [.box [.pl ⟨.sl (.one (.sl spanRow)), x4_0⟩, .pl ⟨.bool, x4_1⟩, .pl ⟨.sl (.one (.int .i64)), x4_2⟩, .pl ⟨.sl (.one (.int .i64)), x4_3⟩, .pl ⟨.sl (.one (.sl (.one (.int .i64)))), x4_4⟩], .box [.pl ⟨.sl (.one (.sl spanRow)), y6_0⟩, .pl ⟨.bool, y6_1⟩, .pl ⟨.sl (.one (.int .i64)), y6_2⟩, .pl ⟨.sl (.one (.int .i64)), y6_3⟩, .pl ⟨.sl (.one (.sl (.one (.int .i64)))), y6_4⟩], .val (.cell (.int .i64) i8 false), .own 3 (.sl (.one (.int .i64))) want9, .val (.cell (.bool) last10 false), .val (.cell (.int .i64) t78 false), .val (.cell (.int .i64) t79 false), .val (.cell (.sl (.one (.int .i64))) t90 false), .val (.cell (.int .i64) t91 false), .val (.cell (.int .i64) t92 false)]
noncomputable def law08_PosStars.l23 (rec_ : B0.Rec 4) (x4_0 : List (List (Int × Int))) (x4_1 : Bool) (x4_2 : List Int) (x4_3 : List Int) (x4_4 : List (List Int)) (y6_0 : List (List (Int × Int))) (y6_1 : Bool) (y6_2 : List Int) (y6_3 : List Int) (y6_4 : List (List Int)) (i8 : Int) (last10 : Bool) (t78 : Int) (t79 : Int) (t108 : List Int) (t109 : Int) (t110 : Int) : Option Bool := rec_ (stk Try.f4.body 23) [.box [.pl ⟨.sl (.one (.sl spanRow)), x4_0⟩, .pl ⟨.bool, x4_1⟩, .pl ⟨.sl (.one (.int .i64)), x4_2⟩, .pl ⟨.sl (.one (.int .i64)), x4_3⟩, .pl ⟨.sl (.one (.sl (.one (.int .i64)))), x4_4⟩], .box [.pl ⟨.sl (.one (.sl spanRow)), y6_0⟩, .pl ⟨.bool, y6_1⟩, .pl ⟨.sl (.one (.int .i64)), y6_2⟩, .pl ⟨.sl (.one (.int .i64)), y6_3⟩, .pl ⟨.sl (.one (.sl (.one (.int .i64)))), y6_4⟩], .val (.cell (.int .i64) i8 false), .val (.cell (.bool) last10 false), .val (.cell (.int .i64) t78 false), .val (.cell (.int .i64) t79 false), .own 3 (.sl (.one (.int .i64))) t108, .val (.cell (.int .i64) t109 false), .val (.cell (.int .i64) t110 false)]
noncomputable def law08_PosStars.t (call : B0.Call) (rec_ : B0.Rec 4) (p0_0 : Int) (p0_1 : List (Int × Int)) (p0_2 : List Pat) : Option Bool :=
  Option.bind (law08_alive.C call) fun r0 =>
  bif (!r0) then
   some false
  else
   Option.bind (ref05_Great.C call p0_0 p0_1 p0_2) fun r1 =>
   bif r1 then
    some true
   else
    Option.bind (pat_Right.C call 4 [] ((Pat.mk p0_0 p0_1 p0_2) :: [])) fun r2 =>
    bif (!r2) then
     some true
    else
     Option.bind (pos_Of.C call p0_0 p0_1 p0_2) fun r3 =>
     Option.bind (pos_Of.C call 4 [] ((Pat.mk p0_0 p0_1 p0_2) :: [])) fun r4 =>
     bif (r3.2.2.2.2.2 != 0) then
      some false
     else
      bif (r4.2.2.2.2.2 != 0) then
       some false
      else
       bif (!r4.2.1) then
        some false
       else
        Option.bind (ref08_Ints.C call r3.2.2.1 r4.2.2.1) fun r5 =>
        bif (!r5) then
         some false
        else
         Option.bind (ref08_Ints.C call r3.2.2.2.1 r4.2.2.2.1) fun r6 =>
         bif (!r6) then
          some false
         else
          bif (((List.length r3.1) : Int) != ((List.length r4.1) : Int)) then
           some false
          else
           law08_PosStars.l11 rec_ r3.1 r3.2.1 r3.2.2.1 r3.2.2.2.1 r3.2.2.2.2.1 r4.1 r4.2.1 r4.2.2.1 r4.2.2.2.1 r4.2.2.2.2.1 ((List.length r3.2.2.2.2.1) : Int) 0
noncomputable def law08_PosStars.t11 (call : B0.Call) (rec_ : B0.Rec 4) (x4_0 : List (List (Int × Int))) (x4_1 : Bool) (x4_2 : List Int) (x4_3 : List Int) (x4_4 : List (List Int)) (y6_0 : List (List (Int × Int))) (y6_1 : Bool) (y6_2 : List Int) (y6_3 : List Int) (y6_4 : List (List Int)) (t78 : Int) (t79 : Int) : Option Bool :=
  bif (decide (t79 < t78)) then
   Option.bind (idx x4_4 t79) fun r0 =>
   bif ((room (0 + (List.length r0)) 8) && (((true && true) && true) && true)) then
    law08_PosStars.l16 rec_ x4_0 x4_1 x4_2 x4_3 x4_4 y6_0 y6_1 y6_2 y6_3 y6_4 t79 ([] ++ r0) false t78 t79 x4_3 ((List.length x4_3) : Int) 0
   else
    none
  else
   some true
noncomputable def law08_PosStars.t16 (call : B0.Call) (rec_ : B0.Rec 4) (x4_0 : List (List (Int × Int))) (x4_1 : Bool) (x4_2 : List Int) (x4_3 : List Int) (x4_4 : List (List Int)) (y6_0 : List (List (Int × Int))) (y6_1 : Bool) (y6_2 : List Int) (y6_3 : List Int) (y6_4 : List (List Int)) (i8 : Int) (want9 : List Int) (last10 : Bool) (t78 : Int) (t79 : Int) (t90 : List Int) (t91 : Int) (t92 : Int) : Option Bool :=
  bif (decide (t92 < t91)) then
   Option.bind (idx t90 t92) fun r0 =>
   bif last10 then
    law08_PosStars.l16 rec_ x4_0 x4_1 x4_2 x4_3 x4_4 y6_0 y6_1 y6_2 y6_3 y6_4 i8 want9 true t78 t79 t90 t91 (IntKind.wrap .i64 (t92 + 1))
   else
    law08_PosStars.l16 rec_ x4_0 x4_1 x4_2 x4_3 x4_4 y6_0 y6_1 y6_2 y6_3 y6_4 i8 want9 (r0 == i8) t78 t79 t90 t91 (IntKind.wrap .i64 (t92 + 1))
  else
   bif last10 then
    bif ((room ((List.length want9) + (List.length x4_2)) 8) && (((true && true) && true) && true)) then
     law08_PosStars.l23 rec_ x4_0 x4_1 x4_2 x4_3 x4_4 y6_0 y6_1 y6_2 y6_3 y6_4 i8 last10 t78 t79 (want9 ++ x4_2) ((List.length (want9 ++ x4_2)) : Int) 0
    else
     none
   else
    law08_PosStars.l23 rec_ x4_0 x4_1 x4_2 x4_3 x4_4 y6_0 y6_1 y6_2 y6_3 y6_4 i8 last10 t78 t79 want9 ((List.length want9) : Int) 0
theorem law08_PosStars.e (call : B0.Call) (rec_ : B0.Rec 4) (p0_0 : Int) (p0_1 : List (Int × Int)) (p0_2 : List Pat) :
    den (B0.env call 4 Try.f4 [] rec_) 100000 false (bodyOf Try.f4.body) (entryS 0 [.agg [⟨.int .i64, p0_0⟩, ⟨.sl spanRow, p0_1⟩, ⟨.pats, p0_2⟩]] S.zero).1 = law08_PosStars.t call rec_ p0_0 p0_1 p0_2 := by kernel_rfl
theorem law08_PosStars.s (k : Nat) (p0_0 : Int) (p0_1 : List (Int × Int)) (p0_2 : List Pat) : law08_PosStars.C (B0.call (k + 1)) p0_0 p0_1 p0_2 = law08_PosStars.t (B0.call k) (law08_PosStars.R (B0.call k) k) p0_0 p0_1 p0_2 :=
  (call_eq B0 rfl Try.func4 (by kernel_rfl) k _).trans (law08_PosStars.e _ _ p0_0 p0_1 p0_2)
theorem law08_PosStars.e11 (call : B0.Call) (rec_ : B0.Rec 4) (x4_0 : List (List (Int × Int))) (x4_1 : Bool) (x4_2 : List Int) (x4_3 : List Int) (x4_4 : List (List Int)) (y6_0 : List (List (Int × Int))) (y6_1 : Bool) (y6_2 : List Int) (y6_3 : List Int) (y6_4 : List (List Int)) (t78 : Int) (t79 : Int) :
    den (B0.env call 4 Try.f4 [] rec_) 100000 true (stk Try.f4.body 11) (putXs [.p 4 [none, none, none, none, none], .p 6 [none, none, none, none, none], .t 78, .t 79] [.box [.pl ⟨.sl (.one (.sl spanRow)), x4_0⟩, .pl ⟨.bool, x4_1⟩, .pl ⟨.sl (.one (.int .i64)), x4_2⟩, .pl ⟨.sl (.one (.int .i64)), x4_3⟩, .pl ⟨.sl (.one (.sl (.one (.int .i64)))), x4_4⟩], .box [.pl ⟨.sl (.one (.sl spanRow)), y6_0⟩, .pl ⟨.bool, y6_1⟩, .pl ⟨.sl (.one (.int .i64)), y6_2⟩, .pl ⟨.sl (.one (.int .i64)), y6_3⟩, .pl ⟨.sl (.one (.sl (.one (.int .i64)))), y6_4⟩], .val (.cell (.int .i64) t78 false), .val (.cell (.int .i64) t79 false)] S.zero) = law08_PosStars.t11 call rec_ x4_0 x4_1 x4_2 x4_3 x4_4 y6_0 y6_1 y6_2 y6_3 y6_4 t78 t79 := by kernel_rfl
theorem law08_PosStars.s11 (call : B0.Call) (j : Nat) (x4_0 : List (List (Int × Int))) (x4_1 : Bool) (x4_2 : List Int) (x4_3 : List Int) (x4_4 : List (List Int)) (y6_0 : List (List (Int × Int))) (y6_1 : Bool) (y6_2 : List Int) (y6_3 : List Int) (y6_4 : List (List Int)) (t78 : Int) (t79 : Int) : law08_PosStars.l11 (law08_PosStars.R call (j + 1)) x4_0 x4_1 x4_2 x4_3 x4_4 y6_0 y6_1 y6_2 y6_3 y6_4 t78 t79 = law08_PosStars.t11 call (law08_PosStars.R call j) x4_0 x4_1 x4_2 x4_3 x4_4 y6_0 y6_1 y6_2 y6_3 y6_4 t78 t79 :=
  (goOn_eq B0 (by kernel_rfl) rfl call [] j _).trans (law08_PosStars.e11 _ _ x4_0 x4_1 x4_2 x4_3 x4_4 y6_0 y6_1 y6_2 y6_3 y6_4 t78 t79)
/- 5: law08_PosRuns -/
noncomputable def law08_PosRuns.R (call : B0.Call) (j : Nat) : B0.Rec 5 := B0.goOn call 5 Try.f5 [] j
noncomputable def law08_PosRuns.t (call : B0.Call) (rec_ : B0.Rec 5) (p0_0 : Int) (p0_1 : List (Int × Int)) (p0_2 : List Pat) (path1 : List Int) : Option Bool :=
  Option.bind (law08_alive.C call) fun r0 =>
  bif (!r0) then
   some false
  else
   Option.bind (ref05_Great.C call p0_0 p0_1 p0_2) fun r1 =>
   bif r1 then
    some true
   else
    bif (decide (((List.length path1) : Int) > 255)) then
     some true
    else
     Option.bind (pos_Of.C call p0_0 p0_1 p0_2) fun r2 =>
     bif (r2.2.2.2.2.2 != 0) then
      Option.bind (pat_Right.C call p0_0 p0_1 p0_2) fun r3 =>
      some (!r3)
     else
      bif ((room (0 + (List.length path1)) 4) && (((true && true) && true) && true)) then
       Option.bind (pos_Run.C call r2.1 r2.2.1 r2.2.2.1 r2.2.2.2.1 r2.2.2.2.2.1 ([] ++ path1)) fun r3 =>
       Option.bind (pat_Match.C call p0_0 p0_1 p0_2 path1) fun r4 =>
       bif (r3 == r4) then
        Option.bind (ref01_Nums.C call ([] ++ path1) path1) fun r5 =>
        some r5
       else
        some false
      else
       none
theorem law08_PosRuns.e (call : B0.Call) (rec_ : B0.Rec 5) (p0_0 : Int) (p0_1 : List (Int × Int)) (p0_2 : List Pat) (path1 : List Int) :
    den (B0.env call 5 Try.f5 [] rec_) 100000 false (bodyOf Try.f5.body) (entryS 0 [.agg [⟨.int .i64, p0_0⟩, ⟨.sl spanRow, p0_1⟩, ⟨.pats, p0_2⟩], .cell (.sl (.one (.int .u32))) path1 false] S.zero).1 = law08_PosRuns.t call rec_ p0_0 p0_1 p0_2 path1 := by kernel_rfl
theorem law08_PosRuns.s (k : Nat) (p0_0 : Int) (p0_1 : List (Int × Int)) (p0_2 : List Pat) (path1 : List Int) : law08_PosRuns.C (B0.call (k + 1)) p0_0 p0_1 p0_2 path1 = law08_PosRuns.t (B0.call k) (law08_PosRuns.R (B0.call k) k) p0_0 p0_1 p0_2 path1 :=
  (call_eq B0 rfl Try.func5 (by kernel_rfl) k _).trans (law08_PosRuns.e _ _ p0_0 p0_1 p0_2 path1)
/- 6: law08_PosEnds -/
noncomputable def law08_PosEnds.R (call : B0.Call) (j : Nat) : B0.Rec 6 := B0.goOn call 6 Try.f6 [] j
noncomputable def law08_PosEnds.l14 (rec_ : B0.Rec 6) (path1 : List Int) (x5_0 : List (List (Int × Int))) (x5_1 : Bool) (x5_2 : List Int) (x5_3 : List Int) (x5_4 : List (List Int)) (first7 : Bool) (last8 : Bool) (t65 : List Int) (t66 : Int) (t67 : Int) : Option Bool := rec_ (stk Try.f6.body 14) [.val (.cell (.sl (.one (.int .u32))) path1 false), .box [.pl ⟨.sl (.one (.sl spanRow)), x5_0⟩, .pl ⟨.bool, x5_1⟩, .pl ⟨.sl (.one (.int .i64)), x5_2⟩, .pl ⟨.sl (.one (.int .i64)), x5_3⟩, .pl ⟨.sl (.one (.sl (.one (.int .i64)))), x5_4⟩], .val (.cell (.bool) first7 false), .val (.cell (.bool) last8 false), .val (.cell (.sl (.one (.int .i64))) t65 false), .val (.cell (.int .i64) t66 false), .val (.cell (.int .i64) t67 false)]
noncomputable def law08_PosEnds.l19 (rec_ : B0.Rec 6) (path1 : List Int) (x5_0 : List (List (Int × Int))) (x5_1 : Bool) (x5_2 : List Int) (x5_3 : List Int) (x5_4 : List (List Int)) (first7 : Bool) (last8 : Bool) (t85 : List Int) (t86 : Int) (t87 : Int) : Option Bool := rec_ (stk Try.f6.body 19) [.val (.cell (.sl (.one (.int .u32))) path1 false), .box [.pl ⟨.sl (.one (.sl spanRow)), x5_0⟩, .pl ⟨.bool, x5_1⟩, .pl ⟨.sl (.one (.int .i64)), x5_2⟩, .pl ⟨.sl (.one (.int .i64)), x5_3⟩, .pl ⟨.sl (.one (.sl (.one (.int .i64)))), x5_4⟩], .val (.cell (.bool) first7 false), .val (.cell (.bool) last8 false), .val (.cell (.sl (.one (.int .i64))) t85 false), .val (.cell (.int .i64) t86 false), .val (.cell (.int .i64) t87 false)]
noncomputable def law08_PosEnds.t (call : B0.Call) (rec_ : B0.Rec 6) (p0_0 : Int) (p0_1 : List (Int × Int)) (p0_2 : List Pat) (path1 : List Int) : Option Bool :=
  Option.bind (law08_alive.C call) fun r0 =>
  bif (!r0) then
   some false
  else
   Option.bind (ref05_Great.C call p0_0 p0_1 p0_2) fun r1 =>
   bif r1 then
    some true
   else
    bif (decide (((List.length path1) : Int) > 100)) then
     some true
    else
     Option.bind (pos_Of.C call p0_0 p0_1 p0_2) fun r2 =>
     bif (r2.2.2.2.2.2 != 0) then
      some ((IntKind.wrap .i64 ((IntKind.wrap .i64 (((List.length r2.1) : Int) + ((List.length r2.2.2.2.2.1) : Int))) + ((List.length r2.2.2.1) : Int))) == 0)
     else
      Option.bind (pat_Empty.C call p0_0 p0_1 p0_2) fun r3 =>
      bif (!(r2.2.1 == r3)) then
       some false
      else
       bif (((List.length r2.1) : Int) != ((List.length r2.2.2.2.2.1) : Int)) then
        some false
       else
        bif (((List.length path1) : Int) == 0) then
         some true
        else
         Option.bind (pat_Match.C call p0_0 p0_1 p0_2 path1) fun r4 =>
         bif (!r4) then
          some true
         else
          law08_PosEnds.l14 rec_ path1 r2.1 r2.2.1 r2.2.2.1 r2.2.2.2.1 r2.2.2.2.2.1 false false r2.2.2.1 ((List.length r2.2.2.1) : Int) 0
noncomputable def law08_PosEnds.t14 (call : B0.Call) (rec_ : B0.Rec 6) (path1 : List Int) (x5_0 : List (List (Int × Int))) (x5_1 : Bool) (x5_2 : List Int) (x5_3 : List Int) (x5_4 : List (List Int)) (first7 : Bool) (last8 : Bool) (t65 : List Int) (t66 : Int) (t67 : Int) : Option Bool :=
  bif (decide (t67 < t66)) then
   Option.bind (idx t65 t67) fun r0 =>
   bif first7 then
    law08_PosEnds.l14 rec_ path1 x5_0 x5_1 x5_2 x5_3 x5_4 true last8 t65 t66 (IntKind.wrap .i64 (t67 + 1))
   else
    Option.bind (idx x5_0 r0) fun r1 =>
    Option.bind (idx path1 0) fun r2 =>
    Option.bind (ref01_In.C call r1 r2) fun r3 =>
    law08_PosEnds.l14 rec_ path1 x5_0 x5_1 x5_2 x5_3 x5_4 r3 last8 t65 t66 (IntKind.wrap .i64 (t67 + 1))
  else
   law08_PosEnds.l19 rec_ path1 x5_0 x5_1 x5_2 x5_3 x5_4 first7 last8 x5_3 ((List.length x5_3) : Int) 0
noncomputable def law08_PosEnds.t19 (call : B0.Call) (rec_ : B0.Rec 6) (path1 : List Int) (x5_0 : List (List (Int × Int))) (x5_1 : Bool) (x5_2 : List Int) (x5_3 : List Int) (x5_4 : List (List Int)) (first7 : Bool) (last8 : Bool) (t85 : List Int) (t86 : Int) (t87 : Int) : Option Bool :=
  bif (decide (t87 < t86)) then
   Option.bind (idx t85 t87) fun r0 =>
   bif last8 then
    law08_PosEnds.l19 rec_ path1 x5_0 x5_1 x5_2 x5_3 x5_4 first7 true t85 t86 (IntKind.wrap .i64 (t87 + 1))
   else
    Option.bind (idx x5_0 r0) fun r1 =>
    Option.bind (idx path1 (IntKind.wrap .i64 (((List.length path1) : Int) - 1))) fun r2 =>
    Option.bind (ref01_In.C call r1 r2) fun r3 =>
    law08_PosEnds.l19 rec_ path1 x5_0 x5_1 x5_2 x5_3 x5_4 first7 r3 t85 t86 (IntKind.wrap .i64 (t87 + 1))
  else
   bif first7 then
    some last8
   else
    some false
theorem law08_PosEnds.e (call : B0.Call) (rec_ : B0.Rec 6) (p0_0 : Int) (p0_1 : List (Int × Int)) (p0_2 : List Pat) (path1 : List Int) :
    den (B0.env call 6 Try.f6 [] rec_) 100000 false (bodyOf Try.f6.body) (entryS 0 [.agg [⟨.int .i64, p0_0⟩, ⟨.sl spanRow, p0_1⟩, ⟨.pats, p0_2⟩], .cell (.sl (.one (.int .u32))) path1 false] S.zero).1 = law08_PosEnds.t call rec_ p0_0 p0_1 p0_2 path1 := by kernel_rfl
theorem law08_PosEnds.s (k : Nat) (p0_0 : Int) (p0_1 : List (Int × Int)) (p0_2 : List Pat) (path1 : List Int) : law08_PosEnds.C (B0.call (k + 1)) p0_0 p0_1 p0_2 path1 = law08_PosEnds.t (B0.call k) (law08_PosEnds.R (B0.call k) k) p0_0 p0_1 p0_2 path1 :=
  (call_eq B0 rfl Try.func6 (by kernel_rfl) k _).trans (law08_PosEnds.e _ _ p0_0 p0_1 p0_2 path1)
theorem law08_PosEnds.e14 (call : B0.Call) (rec_ : B0.Rec 6) (path1 : List Int) (x5_0 : List (List (Int × Int))) (x5_1 : Bool) (x5_2 : List Int) (x5_3 : List Int) (x5_4 : List (List Int)) (first7 : Bool) (last8 : Bool) (t65 : List Int) (t66 : Int) (t67 : Int) :
    den (B0.env call 6 Try.f6 [] rec_) 100000 true (stk Try.f6.body 14) (putXs [.t 1, .p 5 [none, none, none, none, none], .t 7, .t 8, .t 65, .t 66, .t 67] [.val (.cell (.sl (.one (.int .u32))) path1 false), .box [.pl ⟨.sl (.one (.sl spanRow)), x5_0⟩, .pl ⟨.bool, x5_1⟩, .pl ⟨.sl (.one (.int .i64)), x5_2⟩, .pl ⟨.sl (.one (.int .i64)), x5_3⟩, .pl ⟨.sl (.one (.sl (.one (.int .i64)))), x5_4⟩], .val (.cell (.bool) first7 false), .val (.cell (.bool) last8 false), .val (.cell (.sl (.one (.int .i64))) t65 false), .val (.cell (.int .i64) t66 false), .val (.cell (.int .i64) t67 false)] S.zero) = law08_PosEnds.t14 call rec_ path1 x5_0 x5_1 x5_2 x5_3 x5_4 first7 last8 t65 t66 t67 := by kernel_rfl
theorem law08_PosEnds.s14 (call : B0.Call) (j : Nat) (path1 : List Int) (x5_0 : List (List (Int × Int))) (x5_1 : Bool) (x5_2 : List Int) (x5_3 : List Int) (x5_4 : List (List Int)) (first7 : Bool) (last8 : Bool) (t65 : List Int) (t66 : Int) (t67 : Int) : law08_PosEnds.l14 (law08_PosEnds.R call (j + 1)) path1 x5_0 x5_1 x5_2 x5_3 x5_4 first7 last8 t65 t66 t67 = law08_PosEnds.t14 call (law08_PosEnds.R call j) path1 x5_0 x5_1 x5_2 x5_3 x5_4 first7 last8 t65 t66 t67 :=
  (goOn_eq B0 (by kernel_rfl) rfl call [] j _).trans (law08_PosEnds.e14 _ _ path1 x5_0 x5_1 x5_2 x5_3 x5_4 first7 last8 t65 t66 t67)
theorem law08_PosEnds.e19 (call : B0.Call) (rec_ : B0.Rec 6) (path1 : List Int) (x5_0 : List (List (Int × Int))) (x5_1 : Bool) (x5_2 : List Int) (x5_3 : List Int) (x5_4 : List (List Int)) (first7 : Bool) (last8 : Bool) (t85 : List Int) (t86 : Int) (t87 : Int) :
    den (B0.env call 6 Try.f6 [] rec_) 100000 true (stk Try.f6.body 19) (putXs [.t 1, .p 5 [none, none, none, none, none], .t 7, .t 8, .t 85, .t 86, .t 87] [.val (.cell (.sl (.one (.int .u32))) path1 false), .box [.pl ⟨.sl (.one (.sl spanRow)), x5_0⟩, .pl ⟨.bool, x5_1⟩, .pl ⟨.sl (.one (.int .i64)), x5_2⟩, .pl ⟨.sl (.one (.int .i64)), x5_3⟩, .pl ⟨.sl (.one (.sl (.one (.int .i64)))), x5_4⟩], .val (.cell (.bool) first7 false), .val (.cell (.bool) last8 false), .val (.cell (.sl (.one (.int .i64))) t85 false), .val (.cell (.int .i64) t86 false), .val (.cell (.int .i64) t87 false)] S.zero) = law08_PosEnds.t19 call rec_ path1 x5_0 x5_1 x5_2 x5_3 x5_4 first7 last8 t85 t86 t87 := by kernel_rfl
theorem law08_PosEnds.s19 (call : B0.Call) (j : Nat) (path1 : List Int) (x5_0 : List (List (Int × Int))) (x5_1 : Bool) (x5_2 : List Int) (x5_3 : List Int) (x5_4 : List (List Int)) (first7 : Bool) (last8 : Bool) (t85 : List Int) (t86 : Int) (t87 : Int) : law08_PosEnds.l19 (law08_PosEnds.R call (j + 1)) path1 x5_0 x5_1 x5_2 x5_3 x5_4 first7 last8 t85 t86 t87 = law08_PosEnds.t19 call (law08_PosEnds.R call j) path1 x5_0 x5_1 x5_2 x5_3 x5_4 first7 last8 t85 t86 t87 :=
  (goOn_eq B0 (by kernel_rfl) rfl call [] j _).trans (law08_PosEnds.e19 _ _ path1 x5_0 x5_1 x5_2 x5_3 x5_4 first7 last8 t85 t86 t87)
/- 7: law08_alive -/
noncomputable def law08_alive.R (call : B0.Call) (j : Nat) : B0.Rec 7 := B0.goOn call 7 Try.f7 [] j
noncomputable def law08_alive.t (call : B0.Call) (rec_ : B0.Rec 7) : Option Bool :=
  Option.bind (law08_one.C call 1) fun r0 =>
  Option.bind (law08_one.C call 2) fun r1 =>
  Option.bind (pos_Of.C call 2 [] ((Pat.mk r0.1 r0.2.1 r0.2.2) :: ((Pat.mk 4 [] ((Pat.mk r1.1 r1.2.1 r1.2.2) :: [])) :: []))) fun r2 =>
  bif (r2.2.2.2.2.2 == 0) then
   bif (((List.length r2.1) : Int) == 2) then
    bif (!r2.2.1) then
     Option.bind (ref08_Ints.C call r2.2.2.1 (0 :: [])) fun r3 =>
     bif r3 then
      Option.bind (ref08_Ints.C call r2.2.2.2.1 (0 :: (1 :: []))) fun r4 =>
      bif r4 then
       bif (((List.length r2.2.2.2.2.1) : Int) == 2) then
        Option.bind (idx r2.2.2.2.2.1 1) fun r5 =>
        Option.bind (ref08_Ints.C call r5 (1 :: [])) fun r6 =>
        bif r6 then
         Option.bind (pos_Run.C call r2.1 r2.2.1 r2.2.2.1 r2.2.2.2.1 r2.2.2.2.2.1 (1 :: (2 :: (2 :: [])))) fun r7 =>
         bif r7 then
          Option.bind (pos_Run.C call r2.1 r2.2.1 r2.2.2.1 r2.2.2.2.1 r2.2.2.2.2.1 (2 :: [])) fun r8 =>
          some (!r8)
         else
          some false
        else
         some false
       else
        some false
      else
       some false
     else
      some false
    else
     some false
   else
    some false
  else
   some false
theorem law08_alive.e (call : B0.Call) (rec_ : B0.Rec 7) :
    den (B0.env call 7 Try.f7 [] rec_) 100000 false (bodyOf Try.f7.body) (entryS 0 [] S.zero).1 = law08_alive.t call rec_ := by kernel_rfl
theorem law08_alive.s (k : Nat) : law08_alive.C (B0.call (k + 1)) = law08_alive.t (B0.call k) (law08_alive.R (B0.call k) k) :=
  (call_eq B0 rfl Try.func7 (by kernel_rfl) k _).trans (law08_alive.e _ _)
/- 8: ref05_Great -/
noncomputable def ref05_Great.R (call : B0.Call) (j : Nat) : B0.Rec 8 := B0.goOn call 8 Try.f8 [] j
noncomputable def ref05_Great.t (call : B0.Call) (rec_ : B0.Rec 8) (p0_0 : Int) (p0_1 : List (Int × Int)) (p0_2 : List Pat) : Option Bool :=
  Option.bind (ref05_Size.C call p0_0 p0_1 p0_2) fun r0 =>
  some (decide (r0.1 > 3000))
theorem ref05_Great.e (call : B0.Call) (rec_ : B0.Rec 8) (p0_0 : Int) (p0_1 : List (Int × Int)) (p0_2 : List Pat) :
    den (B0.env call 8 Try.f8 [] rec_) 100000 false (bodyOf Try.f8.body) (entryS 0 [.agg [⟨.int .i64, p0_0⟩, ⟨.sl spanRow, p0_1⟩, ⟨.pats, p0_2⟩]] S.zero).1 = ref05_Great.t call rec_ p0_0 p0_1 p0_2 := by kernel_rfl
theorem ref05_Great.s (k : Nat) (p0_0 : Int) (p0_1 : List (Int × Int)) (p0_2 : List Pat) : ref05_Great.C (B0.call (k + 1)) p0_0 p0_1 p0_2 = ref05_Great.t (B0.call k) (ref05_Great.R (B0.call k) k) p0_0 p0_1 p0_2 :=
  (call_eq B0 rfl Try.func8 (by kernel_rfl) k _).trans (ref05_Great.e _ _ p0_0 p0_1 p0_2)
/- 9: ref05_Copy -/
noncomputable def ref05_Copy.R (call : B0.Call) (j : Nat) : B0.Rec 9 := B0.goOn call 9 Try.f9 [] j
noncomputable def ref05_Copy.l3 (rec_ : B0.Rec 9) (t2_0 : Int) (t2_1 : List (Int × Int)) (t2_2 : List Pat) (out3_0 : Int) (out3_1 : List (Int × Int)) (out3_2 : List Pat) (t14 : List Pat) (t15 : Int) (t16 : Int) : Option (Int × (List (Int × Int)) × (List Pat)) := rec_ (stk Try.f9.body 3) [.box [.pl ⟨.int .i64, t2_0⟩, .ow 80 ⟨.sl spanRow, t2_1⟩, .ow 25 ⟨.pats, t2_2⟩], .box [.pl ⟨.int .i64, out3_0⟩, .pl ⟨.sl spanRow, out3_1⟩, .ow 25 ⟨.pats, out3_2⟩], .val (.cell (.pats) t14 false), .val (.cell (.int .i64) t15 false), .val (.cell (.int .i64) t16 false)]
noncomputable def ref05_Copy.t (call : B0.Call) (rec_ : B0.Rec 9) (p0_0 : Int) (p0_1 : List (Int × Int)) (p0_2 : List Pat) : Option (Int × (List (Int × Int)) × (List Pat)) :=
  bif ((room (0 + (List.length p0_1)) 8) && (((true && true) && true) && true)) then
   ref05_Copy.l3 rec_ 0 [] [] p0_0 ([] ++ p0_1) [] p0_2 ((List.length p0_2) : Int) 0
  else
   none
noncomputable def ref05_Copy.t3 (call : B0.Call) (rec_ : B0.Rec 9) (t2_0 : Int) (t2_1 : List (Int × Int)) (t2_2 : List Pat) (out3_0 : Int) (out3_1 : List (Int × Int)) (out3_2 : List Pat) (t14 : List Pat) (t15 : Int) (t16 : Int) : Option (Int × (List (Int × Int)) × (List Pat)) :=
  bif (decide (t16 < t15)) then
   Option.bind (idx t14 t16) fun r0 =>
   Option.bind (ref05_Copy.C call r0.kind r0.set r0.subs) fun r1 =>
   bif ((room ((List.length out3_2) + (List.length ((Pat.mk r1.1 r1.2.1 r1.2.2) :: []))) 56) && (((true && true) && true) && true)) then
    ref05_Copy.l3 rec_ t2_0 t2_1 t2_2 out3_0 out3_1 (out3_2 ++ ((Pat.mk r1.1 r1.2.1 r1.2.2) :: [])) t14 t15 (IntKind.wrap .i64 (t16 + 1))
   else
    none
  else
   some (out3_0, (out3_1, out3_2))
theorem ref05_Copy.e (call : B0.Call) (rec_ : B0.Rec 9) (p0_0 : Int) (p0_1 : List (Int × Int)) (p0_2 : List Pat) :
    den (B0.env call 9 Try.f9 [] rec_) 100000 false (bodyOf Try.f9.body) (entryS 0 [.agg [⟨.int .i64, p0_0⟩, ⟨.sl spanRow, p0_1⟩, ⟨.pats, p0_2⟩]] S.zero).1 = ref05_Copy.t call rec_ p0_0 p0_1 p0_2 := by kernel_rfl
theorem ref05_Copy.s (k : Nat) (p0_0 : Int) (p0_1 : List (Int × Int)) (p0_2 : List Pat) : ref05_Copy.C (B0.call (k + 1)) p0_0 p0_1 p0_2 = ref05_Copy.t (B0.call k) (ref05_Copy.R (B0.call k) k) p0_0 p0_1 p0_2 :=
  (call_eq B0 rfl Try.func9 (by kernel_rfl) k _).trans (ref05_Copy.e _ _ p0_0 p0_1 p0_2)
theorem ref05_Copy.e3 (call : B0.Call) (rec_ : B0.Rec 9) (t2_0 : Int) (t2_1 : List (Int × Int)) (t2_2 : List Pat) (out3_0 : Int) (out3_1 : List (Int × Int)) (out3_2 : List Pat) (t14 : List Pat) (t15 : Int) (t16 : Int) :
    den (B0.env call 9 Try.f9 [] rec_) 100000 true (stk Try.f9.body 3) (putXs [.p 2 [none, some 80, some 25], .p 3 [none, none, some 25], .t 14, .t 15, .t 16] [.box [.pl ⟨.int .i64, t2_0⟩, .ow 80 ⟨.sl spanRow, t2_1⟩, .ow 25 ⟨.pats, t2_2⟩], .box [.pl ⟨.int .i64, out3_0⟩, .pl ⟨.sl spanRow, out3_1⟩, .ow 25 ⟨.pats, out3_2⟩], .val (.cell (.pats) t14 false), .val (.cell (.int .i64) t15 false), .val (.cell (.int .i64) t16 false)] S.zero) = ref05_Copy.t3 call rec_ t2_0 t2_1 t2_2 out3_0 out3_1 out3_2 t14 t15 t16 := by kernel_rfl
theorem ref05_Copy.s3 (call : B0.Call) (j : Nat) (t2_0 : Int) (t2_1 : List (Int × Int)) (t2_2 : List Pat) (out3_0 : Int) (out3_1 : List (Int × Int)) (out3_2 : List Pat) (t14 : List Pat) (t15 : Int) (t16 : Int) : ref05_Copy.l3 (ref05_Copy.R call (j + 1)) t2_0 t2_1 t2_2 out3_0 out3_1 out3_2 t14 t15 t16 = ref05_Copy.t3 call (ref05_Copy.R call j) t2_0 t2_1 t2_2 out3_0 out3_1 out3_2 t14 t15 t16 :=
  (goOn_eq B0 (by kernel_rfl) rfl call [] j _).trans (ref05_Copy.e3 _ _ t2_0 t2_1 t2_2 out3_0 out3_1 out3_2 t14 t15 t16)
/- 10: pos_Of -/
noncomputable def pos_Of.R (call : B0.Call) (j : Nat) : B0.Rec 10 := B0.goOn call 10 Try.f10 [] j
noncomputable def pos_Of.t (call : B0.Call) (rec_ : B0.Rec 10) (p0_0 : Int) (p0_1 : List (Int × Int)) (p0_2 : List Pat) : Option ((List (List (Int × Int))) × Bool × (List Int) × (List Int) × (List (List Int)) × Int) :=
  Option.bind (pat_Right.C call p0_0 p0_1 p0_2) fun r0 =>
  bif (!r0) then
   some ([], (false, ([], ([], ([], 4)))))
  else
   Option.bind (pos_maker_part.C call [] false [] [] [] p0_0 p0_1 p0_2) fun r1 =>
   Option.bind (slices_Clone_int_int.C call r1.2.1) fun r2 =>
   Option.bind (slices_Clone_int_int.C call r1.2.2.1) fun r3 =>
   some (r1.2.2.2.1, (r1.1, (r2, (r3, (r1.2.2.2.2.2.2.2, 0)))))
theorem pos_Of.e (call : B0.Call) (rec_ : B0.Rec 10) (p0_0 : Int) (p0_1 : List (Int × Int)) (p0_2 : List Pat) :
    den (B0.env call 10 Try.f10 [] rec_) 100000 false (bodyOf Try.f10.body) (entryS 0 [.agg [⟨.int .i64, p0_0⟩, ⟨.sl spanRow, p0_1⟩, ⟨.pats, p0_2⟩]] S.zero).1 = pos_Of.t call rec_ p0_0 p0_1 p0_2 := by kernel_rfl
theorem pos_Of.s (k : Nat) (p0_0 : Int) (p0_1 : List (Int × Int)) (p0_2 : List Pat) : pos_Of.C (B0.call (k + 1)) p0_0 p0_1 p0_2 = pos_Of.t (B0.call k) (pos_Of.R (B0.call k) k) p0_0 p0_1 p0_2 :=
  (call_eq B0 rfl Try.func10 (by kernel_rfl) k _).trans (pos_Of.e _ _ p0_0 p0_1 p0_2)
/- 11: ref08_Of -/
noncomputable def ref08_Of.R (call : B0.Call) (j : Nat) : B0.Rec 11 := B0.goOn call 11 Try.f11 [] j
noncomputable def ref08_Of.l5 (rec_ : B0.Rec 11) (p1_0 : Int) (p1_1 : List (Int × Int)) (p1_2 : List Pat) (t2_0 : List (List (Int × Int))) (t2_1 : Bool) (t2_2 : List Int) (t2_3 : List Int) (t2_4 : List (List Int)) (w4_0 : Int) (w4_1 : List (List (Int × Int))) (w4_2 : List (List Bool)) (i5 : Int) : Option ((List (List (Int × Int))) × Bool × (List Int) × (List Int) × (List (List Int)) × Int) := rec_ (stk Try.f11.body 5) [.box [.pl ⟨.int .i64, p1_0⟩, .pl ⟨.sl spanRow, p1_1⟩, .pl ⟨.pats, p1_2⟩], .box [.pl ⟨.sl (.one (.sl spanRow)), t2_0⟩, .pl ⟨.bool, t2_1⟩, .pl ⟨.sl (.one (.int .i64)), t2_2⟩, .pl ⟨.sl (.one (.int .i64)), t2_3⟩, .ow 30 ⟨.sl (.one (.sl (.one (.int .i64)))), t2_4⟩], .box [.pl ⟨.int .i64, w4_0⟩, .pl ⟨.sl (.one (.sl spanRow)), w4_1⟩, .ow 63 ⟨.sl (.one (.sl (.one (.bool)))), w4_2⟩], .val (.cell (.int .i64) i5 false)]
noncomputable def ref08_Of.t (call : B0.Call) (rec_ : B0.Rec 11) (p0_0 : Int) (p0_1 : List (Int × Int)) (p0_2 : List Pat) : Option ((List (List (Int × Int))) × Bool × (List Int) × (List Int) × (List (List Int)) × Int) :=
  Option.bind (ref05_Right.C call p0_0 p0_1 p0_2) fun r0 =>
  bif (!r0) then
   some ([], (false, ([], ([], ([], 4)))))
  else
   Option.bind (ref08_ones.C call p0_0 p0_1 p0_2) fun r1 =>
   ref08_Of.l5 rec_ p0_0 p0_1 p0_2 [] false [] [] [] r1 [] [] 0
noncomputable def ref08_Of.t5 (call : B0.Call) (rec_ : B0.Rec 11) (p1_0 : Int) (p1_1 : List (Int × Int)) (p1_2 : List Pat) (t2_0 : List (List (Int × Int))) (t2_1 : Bool) (t2_2 : List Int) (t2_3 : List Int) (t2_4 : List (List Int)) (w4_0 : Int) (w4_1 : List (List (Int × Int))) (w4_2 : List (List Bool)) (i5 : Int) : Option ((List (List (Int × Int))) × Bool × (List Int) × (List Int) × (List (List Int)) × Int) :=
  bif (decide (i5 < w4_0)) then
   bif (((decide (0 ≤ w4_0)) && (decide (w4_0 ≤ w4_0))) && (decide ((w4_0 * (1 : Int)) < 70368744177664))) then
    bif ((room ((List.length w4_2) + (List.length ((List.replicate (Int.toNat w4_0) false) :: []))) 24) && (((true && true) && true) && true)) then
     ref08_Of.l5 rec_ p1_0 p1_1 p1_2 t2_0 t2_1 t2_2 t2_3 t2_4 w4_0 w4_1 (w4_2 ++ ((List.replicate (Int.toNat w4_0) false) :: [])) (IntKind.wrap .i64 (i5 + 1))
    else
     none
   else
    none
  else
   none
theorem ref08_Of.e (call : B0.Call) (rec_ : B0.Rec 11) (p0_0 : Int) (p0_1 : List (Int × Int)) (p0_2 : List Pat) :
    den (B0.env call 11 Try.f11 [] rec_) 100000 false (bodyOf Try.f11.body) (entryS 0 [.agg [⟨.int .i64, p0_0⟩, ⟨.sl spanRow, p0_1⟩, ⟨.pats, p0_2⟩]] S.zero).1 = ref08_Of.t call rec_ p0_0 p0_1 p0_2 := by kernel_rfl
theorem ref08_Of.s (k : Nat) (p0_0 : Int) (p0_1 : List (Int × Int)) (p0_2 : List Pat) : ref08_Of.C (B0.call (k + 1)) p0_0 p0_1 p0_2 = ref08_Of.t (B0.call k) (ref08_Of.R (B0.call k) k) p0_0 p0_1 p0_2 :=
  (call_eq B0 rfl Try.func11 (by kernel_rfl) k _).trans (ref08_Of.e _ _ p0_0 p0_1 p0_2)
theorem ref08_Of.e5 (call : B0.Call) (rec_ : B0.Rec 11) (p1_0 : Int) (p1_1 : List (Int × Int)) (p1_2 : List Pat) (t2_0 : List (List (Int × Int))) (t2_1 : Bool) (t2_2 : List Int) (t2_3 : List Int) (t2_4 : List (List Int)) (w4_0 : Int) (w4_1 : List (List (Int × Int))) (w4_2 : List (List Bool)) (i5 : Int) :
    den (B0.env call 11 Try.f11 [] rec_) 100000 true (stk Try.f11.body 5) (putXs [.p 1 [none, none, none], .p 2 [none, none, none, none, some 30], .p 4 [none, none, some 63], .t 5] [.box [.pl ⟨.int .i64, p1_0⟩, .pl ⟨.sl spanRow, p1_1⟩, .pl ⟨.pats, p1_2⟩], .box [.pl ⟨.sl (.one (.sl spanRow)), t2_0⟩, .pl ⟨.bool, t2_1⟩, .pl ⟨.sl (.one (.int .i64)), t2_2⟩, .pl ⟨.sl (.one (.int .i64)), t2_3⟩, .ow 30 ⟨.sl (.one (.sl (.one (.int .i64)))), t2_4⟩], .box [.pl ⟨.int .i64, w4_0⟩, .pl ⟨.sl (.one (.sl spanRow)), w4_1⟩, .ow 63 ⟨.sl (.one (.sl (.one (.bool)))), w4_2⟩], .val (.cell (.int .i64) i5 false)] S.zero) = ref08_Of.t5 call rec_ p1_0 p1_1 p1_2 t2_0 t2_1 t2_2 t2_3 t2_4 w4_0 w4_1 w4_2 i5 := by kernel_rfl
theorem ref08_Of.s5 (call : B0.Call) (j : Nat) (p1_0 : Int) (p1_1 : List (Int × Int)) (p1_2 : List Pat) (t2_0 : List (List (Int × Int))) (t2_1 : Bool) (t2_2 : List Int) (t2_3 : List Int) (t2_4 : List (List Int)) (w4_0 : Int) (w4_1 : List (List (Int × Int))) (w4_2 : List (List Bool)) (i5 : Int) : ref08_Of.l5 (ref08_Of.R call (j + 1)) p1_0 p1_1 p1_2 t2_0 t2_1 t2_2 t2_3 t2_4 w4_0 w4_1 w4_2 i5 = ref08_Of.t5 call (ref08_Of.R call j) p1_0 p1_1 p1_2 t2_0 t2_1 t2_2 t2_3 t2_4 w4_0 w4_1 w4_2 i5 :=
  (goOn_eq B0 (by kernel_rfl) rfl call [] j _).trans (ref08_Of.e5 _ _ p1_0 p1_1 p1_2 t2_0 t2_1 t2_2 t2_3 t2_4 w4_0 w4_1 w4_2 i5)
/- 12: ref08_Same -/
noncomputable def ref08_Same.R (call : B0.Call) (j : Nat) : B0.Rec 12 := B0.goOn call 12 Try.f12 [] j
noncomputable def ref08_Same.l4 (rec_ : B0.Rec 12) (a2_0 : List (List (Int × Int))) (a2_1 : Bool) (a2_2 : List Int) (a2_3 : List Int) (a2_4 : List (List Int)) (b3_0 : List (List (Int × Int))) (b3_1 : Bool) (b3_2 : List Int) (b3_3 : List Int) (b3_4 : List (List Int)) (t48 : Int) (t49 : Int) : Option Bool := rec_ (stk Try.f12.body 4) [.box [.pl ⟨.sl (.one (.sl spanRow)), a2_0⟩, .pl ⟨.bool, a2_1⟩, .pl ⟨.sl (.one (.int .i64)), a2_2⟩, .pl ⟨.sl (.one (.int .i64)), a2_3⟩, .pl ⟨.sl (.one (.sl (.one (.int .i64)))), a2_4⟩], .box [.pl ⟨.sl (.one (.sl spanRow)), b3_0⟩, .pl ⟨.bool, b3_1⟩, .pl ⟨.sl (.one (.int .i64)), b3_2⟩, .pl ⟨.sl (.one (.int .i64)), b3_3⟩, .pl ⟨.sl (.one (.sl (.one (.int .i64)))), b3_4⟩], .val (.cell (.int .i64) t48 false), .val (.cell (.int .i64) t49 false)]
noncomputable def ref08_Same.l10 (rec_ : B0.Rec 12) (a2_0 : List (List (Int × Int))) (a2_1 : Bool) (a2_2 : List Int) (a2_3 : List Int) (a2_4 : List (List Int)) (b3_0 : List (List (Int × Int))) (b3_1 : Bool) (b3_2 : List Int) (b3_3 : List Int) (b3_4 : List (List Int)) (t67 : Int) (t68 : Int) : Option Bool := rec_ (stk Try.f12.body 10) [.box [.pl ⟨.sl (.one (.sl spanRow)), a2_0⟩, .pl ⟨.bool, a2_1⟩, .pl ⟨.sl (.one (.int .i64)), a2_2⟩, .pl ⟨.sl (.one (.int .i64)), a2_3⟩, .pl ⟨.sl (.one (.sl (.one (.int .i64)))), a2_4⟩], .box [.pl ⟨.sl (.one (.sl spanRow)), b3_0⟩, .pl ⟨.bool, b3_1⟩, .pl ⟨.sl (.one (.int .i64)), b3_2⟩, .pl ⟨.sl (.one (.int .i64)), b3_3⟩, .pl ⟨.sl (.one (.sl (.one (.int .i64)))), b3_4⟩], .val (.cell (.int .i64) t67 false), .val (.cell (.int .i64) t68 false)]
noncomputable def ref08_Same.t (call : B0.Call) (rec_ : B0.Rec 12) (a0_0 : List (List (Int × Int))) (a0_1 : Bool) (a0_2 : List Int) (a0_3 : List Int) (a0_4 : List (List Int)) (b1_0 : List (List (Int × Int))) (b1_1 : Bool) (b1_2 : List Int) (b1_3 : List Int) (b1_4 : List (List Int)) : Option Bool :=
  bif (!(a0_1 == b1_1)) then
   some false
  else
   Option.bind (ref08_Ints.C call a0_2 b1_2) fun r0 =>
   bif (!r0) then
    some false
   else
    Option.bind (ref08_Ints.C call a0_3 b1_3) fun r1 =>
    bif (!r1) then
     some false
    else
     bif (((List.length a0_4) : Int) != ((List.length b1_4) : Int)) then
      some false
     else
      bif (((List.length a0_0) : Int) != ((List.length b1_0) : Int)) then
       some false
      else
       ref08_Same.l4 rec_ a0_0 a0_1 a0_2 a0_3 a0_4 b1_0 b1_1 b1_2 b1_3 b1_4 ((List.length a0_4) : Int) 0
noncomputable def ref08_Same.t4 (call : B0.Call) (rec_ : B0.Rec 12) (a2_0 : List (List (Int × Int))) (a2_1 : Bool) (a2_2 : List Int) (a2_3 : List Int) (a2_4 : List (List Int)) (b3_0 : List (List (Int × Int))) (b3_1 : Bool) (b3_2 : List Int) (b3_3 : List Int) (b3_4 : List (List Int)) (t48 : Int) (t49 : Int) : Option Bool :=
  bif (decide (t49 < t48)) then
   Option.bind (idx a2_4 t49) fun r0 =>
   Option.bind (idx b3_4 t49) fun r1 =>
   Option.bind (ref08_Ints.C call r0 r1) fun r2 =>
   bif (!r2) then
    some false
   else
    ref08_Same.l4 rec_ a2_0 a2_1 a2_2 a2_3 a2_4 b3_0 b3_1 b3_2 b3_3 b3_4 t48 (IntKind.wrap .i64 (t49 + 1))
  else
   ref08_Same.l10 rec_ a2_0 a2_1 a2_2 a2_3 a2_4 b3_0 b3_1 b3_2 b3_3 b3_4 ((List.length a2_0) : Int) 0
noncomputable def ref08_Same.t10 (call : B0.Call) (rec_ : B0.Rec 12) (a2_0 : List (List (Int × Int))) (a2_1 : Bool) (a2_2 : List Int) (a2_3 : List Int) (a2_4 : List (List Int)) (b3_0 : List (List (Int × Int))) (b3_1 : Bool) (b3_2 : List Int) (b3_3 : List Int) (b3_4 : List (List Int)) (t67 : Int) (t68 : Int) : Option Bool :=
  bif (decide (t68 < t67)) then
   Option.bind (idx a2_0 t68) fun r0 =>
   Option.bind (idx b3_0 t68) fun r1 =>
   Option.bind (ref01_Same.C call r0 r1) fun r2 =>
   bif (!r2) then
    some false
   else
    ref08_Same.l10 rec_ a2_0 a2_1 a2_2 a2_3 a2_4 b3_0 b3_1 b3_2 b3_3 b3_4 t67 (IntKind.wrap .i64 (t68 + 1))
  else
   some true
theorem ref08_Same.e (call : B0.Call) (rec_ : B0.Rec 12) (a0_0 : List (List (Int × Int))) (a0_1 : Bool) (a0_2 : List Int) (a0_3 : List Int) (a0_4 : List (List Int)) (b1_0 : List (List (Int × Int))) (b1_1 : Bool) (b1_2 : List Int) (b1_3 : List Int) (b1_4 : List (List Int)) :
    den (B0.env call 12 Try.f12 [] rec_) 100000 false (bodyOf Try.f12.body) (entryS 0 [.agg [⟨.sl (.one (.sl spanRow)), a0_0⟩, ⟨.bool, a0_1⟩, ⟨.sl (.one (.int .i64)), a0_2⟩, ⟨.sl (.one (.int .i64)), a0_3⟩, ⟨.sl (.one (.sl (.one (.int .i64)))), a0_4⟩], .agg [⟨.sl (.one (.sl spanRow)), b1_0⟩, ⟨.bool, b1_1⟩, ⟨.sl (.one (.int .i64)), b1_2⟩, ⟨.sl (.one (.int .i64)), b1_3⟩, ⟨.sl (.one (.sl (.one (.int .i64)))), b1_4⟩]] S.zero).1 = ref08_Same.t call rec_ a0_0 a0_1 a0_2 a0_3 a0_4 b1_0 b1_1 b1_2 b1_3 b1_4 := by kernel_rfl
theorem ref08_Same.s (k : Nat) (a0_0 : List (List (Int × Int))) (a0_1 : Bool) (a0_2 : List Int) (a0_3 : List Int) (a0_4 : List (List Int)) (b1_0 : List (List (Int × Int))) (b1_1 : Bool) (b1_2 : List Int) (b1_3 : List Int) (b1_4 : List (List Int)) : ref08_Same.C (B0.call (k + 1)) a0_0 a0_1 a0_2 a0_3 a0_4 b1_0 b1_1 b1_2 b1_3 b1_4 = ref08_Same.t (B0.call k) (ref08_Same.R (B0.call k) k) a0_0 a0_1 a0_2 a0_3 a0_4 b1_0 b1_1 b1_2 b1_3 b1_4 :=
  (call_eq B0 rfl Try.func12 (by kernel_rfl) k _).trans (ref08_Same.e _ _ a0_0 a0_1 a0_2 a0_3 a0_4 b1_0 b1_1 b1_2 b1_3 b1_4)
theorem ref08_Same.e4 (call : B0.Call) (rec_ : B0.Rec 12) (a2_0 : List (List (Int × Int))) (a2_1 : Bool) (a2_2 : List Int) (a2_3 : List Int) (a2_4 : List (List Int)) (b3_0 : List (List (Int × Int))) (b3_1 : Bool) (b3_2 : List Int) (b3_3 : List Int) (b3_4 : List (List Int)) (t48 : Int) (t49 : Int) :
    den (B0.env call 12 Try.f12 [] rec_) 100000 true (stk Try.f12.body 4) (putXs [.p 2 [none, none, none, none, none], .p 3 [none, none, none, none, none], .t 48, .t 49] [.box [.pl ⟨.sl (.one (.sl spanRow)), a2_0⟩, .pl ⟨.bool, a2_1⟩, .pl ⟨.sl (.one (.int .i64)), a2_2⟩, .pl ⟨.sl (.one (.int .i64)), a2_3⟩, .pl ⟨.sl (.one (.sl (.one (.int .i64)))), a2_4⟩], .box [.pl ⟨.sl (.one (.sl spanRow)), b3_0⟩, .pl ⟨.bool, b3_1⟩, .pl ⟨.sl (.one (.int .i64)), b3_2⟩, .pl ⟨.sl (.one (.int .i64)), b3_3⟩, .pl ⟨.sl (.one (.sl (.one (.int .i64)))), b3_4⟩], .val (.cell (.int .i64) t48 false), .val (.cell (.int .i64) t49 false)] S.zero) = ref08_Same.t4 call rec_ a2_0 a2_1 a2_2 a2_3 a2_4 b3_0 b3_1 b3_2 b3_3 b3_4 t48 t49 := by kernel_rfl
theorem ref08_Same.s4 (call : B0.Call) (j : Nat) (a2_0 : List (List (Int × Int))) (a2_1 : Bool) (a2_2 : List Int) (a2_3 : List Int) (a2_4 : List (List Int)) (b3_0 : List (List (Int × Int))) (b3_1 : Bool) (b3_2 : List Int) (b3_3 : List Int) (b3_4 : List (List Int)) (t48 : Int) (t49 : Int) : ref08_Same.l4 (ref08_Same.R call (j + 1)) a2_0 a2_1 a2_2 a2_3 a2_4 b3_0 b3_1 b3_2 b3_3 b3_4 t48 t49 = ref08_Same.t4 call (ref08_Same.R call j) a2_0 a2_1 a2_2 a2_3 a2_4 b3_0 b3_1 b3_2 b3_3 b3_4 t48 t49 :=
  (goOn_eq B0 (by kernel_rfl) rfl call [] j _).trans (ref08_Same.e4 _ _ a2_0 a2_1 a2_2 a2_3 a2_4 b3_0 b3_1 b3_2 b3_3 b3_4 t48 t49)
theorem ref08_Same.e10 (call : B0.Call) (rec_ : B0.Rec 12) (a2_0 : List (List (Int × Int))) (a2_1 : Bool) (a2_2 : List Int) (a2_3 : List Int) (a2_4 : List (List Int)) (b3_0 : List (List (Int × Int))) (b3_1 : Bool) (b3_2 : List Int) (b3_3 : List Int) (b3_4 : List (List Int)) (t67 : Int) (t68 : Int) :
    den (B0.env call 12 Try.f12 [] rec_) 100000 true (stk Try.f12.body 10) (putXs [.p 2 [none, none, none, none, none], .p 3 [none, none, none, none, none], .t 67, .t 68] [.box [.pl ⟨.sl (.one (.sl spanRow)), a2_0⟩, .pl ⟨.bool, a2_1⟩, .pl ⟨.sl (.one (.int .i64)), a2_2⟩, .pl ⟨.sl (.one (.int .i64)), a2_3⟩, .pl ⟨.sl (.one (.sl (.one (.int .i64)))), a2_4⟩], .box [.pl ⟨.sl (.one (.sl spanRow)), b3_0⟩, .pl ⟨.bool, b3_1⟩, .pl ⟨.sl (.one (.int .i64)), b3_2⟩, .pl ⟨.sl (.one (.int .i64)), b3_3⟩, .pl ⟨.sl (.one (.sl (.one (.int .i64)))), b3_4⟩], .val (.cell (.int .i64) t67 false), .val (.cell (.int .i64) t68 false)] S.zero) = ref08_Same.t10 call rec_ a2_0 a2_1 a2_2 a2_3 a2_4 b3_0 b3_1 b3_2 b3_3 b3_4 t67 t68 := by kernel_rfl
theorem ref08_Same.s10 (call : B0.Call) (j : Nat) (a2_0 : List (List (Int × Int))) (a2_1 : Bool) (a2_2 : List Int) (a2_3 : List Int) (a2_4 : List (List Int)) (b3_0 : List (List (Int × Int))) (b3_1 : Bool) (b3_2 : List Int) (b3_3 : List Int) (b3_4 : List (List Int)) (t67 : Int) (t68 : Int) : ref08_Same.l10 (ref08_Same.R call (j + 1)) a2_0 a2_1 a2_2 a2_3 a2_4 b3_0 b3_1 b3_2 b3_3 b3_4 t67 t68 = ref08_Same.t10 call (ref08_Same.R call j) a2_0 a2_1 a2_2 a2_3 a2_4 b3_0 b3_1 b3_2 b3_3 b3_4 t67 t68 :=
  (goOn_eq B0 (by kernel_rfl) rfl call [] j _).trans (ref08_Same.e10 _ _ a2_0 a2_1 a2_2 a2_3 a2_4 b3_0 b3_1 b3_2 b3_3 b3_4 t67 t68)
/- 13: ref05_Same -/
noncomputable def ref05_Same.R (call : B0.Call) (j : Nat) : B0.Rec 13 := B0.goOn call 13 Try.f13 [] j
noncomputable def ref05_Same.l4 (rec_ : B0.Rec 13) (a2_0 : Int) (a2_1 : List (Int × Int)) (a2_2 : List Pat) (b3_0 : Int) (b3_1 : List (Int × Int)) (b3_2 : List Pat) (t30 : Int) (t31 : Int) : Option Bool := rec_ (stk Try.f13.body 4) [.box [.pl ⟨.int .i64, a2_0⟩, .pl ⟨.sl spanRow, a2_1⟩, .pl ⟨.pats, a2_2⟩], .box [.pl ⟨.int .i64, b3_0⟩, .pl ⟨.sl spanRow, b3_1⟩, .pl ⟨.pats, b3_2⟩], .val (.cell (.int .i64) t30 false), .val (.cell (.int .i64) t31 false)]
noncomputable def ref05_Same.t (call : B0.Call) (rec_ : B0.Rec 13) (a0_0 : Int) (a0_1 : List (Int × Int)) (a0_2 : List Pat) (b1_0 : Int) (b1_1 : List (Int × Int)) (b1_2 : List Pat) : Option Bool :=
  bif (a0_0 != b1_0) then
   some false
  else
   Option.bind (ref01_Same.C call a0_1 b1_1) fun r0 =>
   bif (!r0) then
    some false
   else
    bif (((List.length a0_2) : Int) != ((List.length b1_2) : Int)) then
     some false
    else
     ref05_Same.l4 rec_ a0_0 a0_1 a0_2 b1_0 b1_1 b1_2 ((List.length a0_2) : Int) 0
noncomputable def ref05_Same.t4 (call : B0.Call) (rec_ : B0.Rec 13) (a2_0 : Int) (a2_1 : List (Int × Int)) (a2_2 : List Pat) (b3_0 : Int) (b3_1 : List (Int × Int)) (b3_2 : List Pat) (t30 : Int) (t31 : Int) : Option Bool :=
  bif (decide (t31 < t30)) then
   Option.bind (idx a2_2 t31) fun r0 =>
   Option.bind (idx b3_2 t31) fun r1 =>
   Option.bind (ref05_Same.C call r0.kind r0.set r0.subs r1.kind r1.set r1.subs) fun r2 =>
   bif (!r2) then
    some false
   else
    ref05_Same.l4 rec_ a2_0 a2_1 a2_2 b3_0 b3_1 b3_2 t30 (IntKind.wrap .i64 (t31 + 1))
  else
   some true
theorem ref05_Same.e (call : B0.Call) (rec_ : B0.Rec 13) (a0_0 : Int) (a0_1 : List (Int × Int)) (a0_2 : List Pat) (b1_0 : Int) (b1_1 : List (Int × Int)) (b1_2 : List Pat) :
    den (B0.env call 13 Try.f13 [] rec_) 100000 false (bodyOf Try.f13.body) (entryS 0 [.agg [⟨.int .i64, a0_0⟩, ⟨.sl spanRow, a0_1⟩, ⟨.pats, a0_2⟩], .agg [⟨.int .i64, b1_0⟩, ⟨.sl spanRow, b1_1⟩, ⟨.pats, b1_2⟩]] S.zero).1 = ref05_Same.t call rec_ a0_0 a0_1 a0_2 b1_0 b1_1 b1_2 := by kernel_rfl
theorem ref05_Same.s (k : Nat) (a0_0 : Int) (a0_1 : List (Int × Int)) (a0_2 : List Pat) (b1_0 : Int) (b1_1 : List (Int × Int)) (b1_2 : List Pat) : ref05_Same.C (B0.call (k + 1)) a0_0 a0_1 a0_2 b1_0 b1_1 b1_2 = ref05_Same.t (B0.call k) (ref05_Same.R (B0.call k) k) a0_0 a0_1 a0_2 b1_0 b1_1 b1_2 :=
  (call_eq B0 rfl Try.func13 (by kernel_rfl) k _).trans (ref05_Same.e _ _ a0_0 a0_1 a0_2 b1_0 b1_1 b1_2)
theorem ref05_Same.e4 (call : B0.Call) (rec_ : B0.Rec 13) (a2_0 : Int) (a2_1 : List (Int × Int)) (a2_2 : List Pat) (b3_0 : Int) (b3_1 : List (Int × Int)) (b3_2 : List Pat) (t30 : Int) (t31 : Int) :
    den (B0.env call 13 Try.f13 [] rec_) 100000 true (stk Try.f13.body 4) (putXs [.p 2 [none, none, none], .p 3 [none, none, none], .t 30, .t 31] [.box [.pl ⟨.int .i64, a2_0⟩, .pl ⟨.sl spanRow, a2_1⟩, .pl ⟨.pats, a2_2⟩], .box [.pl ⟨.int .i64, b3_0⟩, .pl ⟨.sl spanRow, b3_1⟩, .pl ⟨.pats, b3_2⟩], .val (.cell (.int .i64) t30 false), .val (.cell (.int .i64) t31 false)] S.zero) = ref05_Same.t4 call rec_ a2_0 a2_1 a2_2 b3_0 b3_1 b3_2 t30 t31 := by kernel_rfl
theorem ref05_Same.s4 (call : B0.Call) (j : Nat) (a2_0 : Int) (a2_1 : List (Int × Int)) (a2_2 : List Pat) (b3_0 : Int) (b3_1 : List (Int × Int)) (b3_2 : List Pat) (t30 : Int) (t31 : Int) : ref05_Same.l4 (ref05_Same.R call (j + 1)) a2_0 a2_1 a2_2 b3_0 b3_1 b3_2 t30 t31 = ref05_Same.t4 call (ref05_Same.R call j) a2_0 a2_1 a2_2 b3_0 b3_1 b3_2 t30 t31 :=
  (goOn_eq B0 (by kernel_rfl) rfl call [] j _).trans (ref05_Same.e4 _ _ a2_0 a2_1 a2_2 b3_0 b3_1 b3_2 t30 t31)
/- 14: pat_Right -/
noncomputable def pat_Right.R (call : B0.Call) (j : Nat) : B0.Rec 14 := B0.goOn call 14 Try.f14 [] j
noncomputable def pat_Right.t (call : B0.Call) (rec_ : B0.Rec 14) (p0_0 : Int) (p0_1 : List (Int × Int)) (p0_2 : List Pat) : Option Bool :=
  Option.bind (pat_Size.C call p0_0 p0_1 p0_2) fun r0 =>
  bif (decide (r0.1 ≤ 200)) then
   bif (decide (r0.2 ≤ 40)) then
    Option.bind (pat_fits.C call p0_0 p0_1 p0_2) fun r1 =>
    some r1
   else
    some false
  else
   some false
theorem pat_Right.e (call : B0.Call) (rec_ : B0.Rec 14) (p0_0 : Int) (p0_1 : List (Int × Int)) (p0_2 : List Pat) :
    den (B0.env call 14 Try.f14 [] rec_) 100000 false (bodyOf Try.f14.body) (entryS 0 [.agg [⟨.int .i64, p0_0⟩, ⟨.sl spanRow, p0_1⟩, ⟨.pats, p0_2⟩]] S.zero).1 = pat_Right.t call rec_ p0_0 p0_1 p0_2 := by kernel_rfl
theorem pat_Right.s (k : Nat) (p0_0 : Int) (p0_1 : List (Int × Int)) (p0_2 : List Pat) : pat_Right.C (B0.call (k + 1)) p0_0 p0_1 p0_2 = pat_Right.t (B0.call k) (pat_Right.R (B0.call k) k) p0_0 p0_1 p0_2 :=
  (call_eq B0 rfl Try.func14 (by kernel_rfl) k _).trans (pat_Right.e _ _ p0_0 p0_1 p0_2)
/- 15: ref08_Ints -/
noncomputable def ref08_Ints.R (call : B0.Call) (j : Nat) : B0.Rec 15 := B0.goOn call 15 Try.f15 [] j
noncomputable def ref08_Ints.l4 (rec_ : B0.Rec 15) (a0 : List Int) (b1 : List Int) (t12 : Int) (t13 : Int) : Option Bool := rec_ (stk Try.f15.body 4) [.val (.cell (.sl (.one (.int .i64))) a0 true), .val (.cell (.sl (.one (.int .i64))) b1 true), .val (.cell (.int .i64) t12 false), .val (.cell (.int .i64) t13 false)]
noncomputable def ref08_Ints.t (call : B0.Call) (rec_ : B0.Rec 15) (a0 : List Int) (b1 : List Int) : Option Bool :=
  bif (((List.length a0) : Int) != ((List.length b1) : Int)) then
   some false
  else
   ref08_Ints.l4 rec_ a0 b1 ((List.length a0) : Int) 0
noncomputable def ref08_Ints.t4 (call : B0.Call) (rec_ : B0.Rec 15) (a0 : List Int) (b1 : List Int) (t12 : Int) (t13 : Int) : Option Bool :=
  bif (decide (t13 < t12)) then
   Option.bind (idx a0 t13) fun r0 =>
   Option.bind (idx b1 t13) fun r1 =>
   bif (r0 != r1) then
    some false
   else
    ref08_Ints.l4 rec_ a0 b1 t12 (IntKind.wrap .i64 (t13 + 1))
  else
   some true
theorem ref08_Ints.e (call : B0.Call) (rec_ : B0.Rec 15) (a0 : List Int) (b1 : List Int) :
    den (B0.env call 15 Try.f15 [] rec_) 100000 false (bodyOf Try.f15.body) (entryS 0 [.cell (.sl (.one (.int .i64))) a0 true, .cell (.sl (.one (.int .i64))) b1 true] S.zero).1 = ref08_Ints.t call rec_ a0 b1 := by kernel_rfl
theorem ref08_Ints.s (k : Nat) (a0 : List Int) (b1 : List Int) : ref08_Ints.C (B0.call (k + 1)) a0 b1 = ref08_Ints.t (B0.call k) (ref08_Ints.R (B0.call k) k) a0 b1 :=
  (call_eq B0 rfl Try.func15 (by kernel_rfl) k _).trans (ref08_Ints.e _ _ a0 b1)
theorem ref08_Ints.e4 (call : B0.Call) (rec_ : B0.Rec 15) (a0 : List Int) (b1 : List Int) (t12 : Int) (t13 : Int) :
    den (B0.env call 15 Try.f15 [] rec_) 100000 true (stk Try.f15.body 4) (putXs [.t 0, .t 1, .t 12, .t 13] [.val (.cell (.sl (.one (.int .i64))) a0 true), .val (.cell (.sl (.one (.int .i64))) b1 true), .val (.cell (.int .i64) t12 false), .val (.cell (.int .i64) t13 false)] S.zero) = ref08_Ints.t4 call rec_ a0 b1 t12 t13 := by kernel_rfl
theorem ref08_Ints.s4 (call : B0.Call) (j : Nat) (a0 : List Int) (b1 : List Int) (t12 : Int) (t13 : Int) : ref08_Ints.l4 (ref08_Ints.R call (j + 1)) a0 b1 t12 t13 = ref08_Ints.t4 call (ref08_Ints.R call j) a0 b1 t12 t13 :=
  (goOn_eq B0 (by kernel_rfl) rfl call [] j _).trans (ref08_Ints.e4 _ _ a0 b1 t12 t13)
end Go.Proofs.Ytoifbdaaiejbnaa.D
/- What functions come to. Printed by dp.py. -/
set_option maxRecDepth 100000
namespace Go.Proofs.Ytoifbdaaiejbnaa.D
open Go
/- 16: pos_Run -/
noncomputable def pos_Run.R (call : B0.Call) (j : Nat) : B0.Rec 16 := B0.goOn call 16 Try.f16 [] j
noncomputable def pos_Run.l5 (rec_ : B0.Rec 16) (x2_0 : List (List (Int × Int))) (x2_1 : Bool) (x2_2 : List Int) (x2_3 : List Int) (x2_4 : List (List Int)) (at5 : List Int) (t24 : List Int) (t25 : Int) (t26 : Int) : Option Bool := rec_ (stk Try.f16.body 5) [.box [.pl ⟨.sl (.one (.sl spanRow)), x2_0⟩, .pl ⟨.bool, x2_1⟩, .pl ⟨.sl (.one (.int .i64)), x2_2⟩, .pl ⟨.sl (.one (.int .i64)), x2_3⟩, .pl ⟨.sl (.one (.sl (.one (.int .i64)))), x2_4⟩], .val (.cell (.sl (.one (.int .i64))) at5 false), .val (.cell (.sl (.one (.int .u32))) t24 true), .val (.cell (.int .i64) t25 false), .val (.cell (.int .i64) t26 false)]
noncomputable def pos_Run.l9 (rec_ : B0.Rec 16) (x2_0 : List (List (Int × Int))) (x2_1 : Bool) (x2_2 : List Int) (x2_3 : List Int) (x2_4 : List (List Int)) (n7 : Int) (next8 : List Int) (t24 : List Int) (t25 : Int) (t26 : Int) (t30 : List Int) (t31 : Int) (t32 : Int) : Option Bool := rec_ (stk Try.f16.body 9) [.box [.pl ⟨.sl (.one (.sl spanRow)), x2_0⟩, .pl ⟨.bool, x2_1⟩, .pl ⟨.sl (.one (.int .i64)), x2_2⟩, .pl ⟨.sl (.one (.int .i64)), x2_3⟩, .pl ⟨.sl (.one (.sl (.one (.int .i64)))), x2_4⟩], .val (.cell (.int .u32) n7 false), .val (.cell (.sl (.one (.int .i64))) next8 false), .val (.cell (.sl (.one (.int .u32))) t24 true), .val (.cell (.int .i64) t25 false), .val (.cell (.int .i64) t26 false), .val (.cell (.sl (.one (.int .i64))) t30 false), .val (.cell (.int .i64) t31 false), .val (.cell (.int .i64) t32 false)]
noncomputable def pos_Run.t (call : B0.Call) (rec_ : B0.Rec 16) (x0_0 : List (List (Int × Int))) (x0_1 : Bool) (x0_2 : List Int) (x0_3 : List Int) (x0_4 : List (List Int)) (path1 : List Int) : Option Bool :=
  bif (((List.length path1) : Int) == 0) then
   some x0_1
  else
   Option.bind (idx path1 0) fun r0 =>
   Option.bind (pos_Pos_may.C call x0_0 x0_1 x0_2 x0_3 x0_4 x0_2 r0) fun r1 =>
   bif (((decide (0 ≤ 1)) && (decide (1 ≤ ((List.length path1) : Int)))) && (decide (((List.length path1) : Int) ≤ ((List.length path1) : Int)))) then
    pos_Run.l5 rec_ x0_0 x0_1 x0_2 x0_3 x0_4 r1 (List.drop (Int.toNat 1) (List.take (Int.toNat ((List.length path1) : Int)) path1)) ((List.length (List.drop (Int.toNat 1) (List.take (Int.toNat ((List.length path1) : Int)) path1))) : Int) 0
   else
    none
noncomputable def pos_Run.t5 (call : B0.Call) (rec_ : B0.Rec 16) (x2_0 : List (List (Int × Int))) (x2_1 : Bool) (x2_2 : List Int) (x2_3 : List Int) (x2_4 : List (List Int)) (at5 : List Int) (t24 : List Int) (t25 : Int) (t26 : Int) : Option Bool :=
  bif (decide (t26 < t25)) then
   Option.bind (idx t24 t26) fun r0 =>
   pos_Run.l9 rec_ x2_0 x2_1 x2_2 x2_3 x2_4 r0 [] t24 t25 t26 at5 ((List.length at5) : Int) 0
  else
   Option.bind (slices_ContainsFunc_int_int.C call at5 x2_0 x2_1 x2_2 x2_3 x2_4) fun r0 =>
   some r0.1
noncomputable def pos_Run.t9 (call : B0.Call) (rec_ : B0.Rec 16) (x2_0 : List (List (Int × Int))) (x2_1 : Bool) (x2_2 : List Int) (x2_3 : List Int) (x2_4 : List (List Int)) (n7 : Int) (next8 : List Int) (t24 : List Int) (t25 : Int) (t26 : Int) (t30 : List Int) (t31 : Int) (t32 : Int) : Option Bool :=
  bif (decide (t32 < t31)) then
   Option.bind (idx t30 t32) fun r0 =>
   bif (decide (r0 < ((List.length x2_4) : Int))) then
    Option.bind (idx x2_4 r0) fun r1 =>
    Option.bind (pos_Pos_may.C call x2_0 x2_1 x2_2 x2_3 x2_4 r1 n7) fun r2 =>
    Option.bind (pos_with.C call next8 r2) fun r3 =>
    pos_Run.l9 rec_ x2_0 x2_1 x2_2 x2_3 x2_4 n7 r3 t24 t25 t26 t30 t31 (IntKind.wrap .i64 (t32 + 1))
   else
    pos_Run.l9 rec_ x2_0 x2_1 x2_2 x2_3 x2_4 n7 next8 t24 t25 t26 t30 t31 (IntKind.wrap .i64 (t32 + 1))
  else
   pos_Run.l5 rec_ x2_0 x2_1 x2_2 x2_3 x2_4 next8 t24 t25 (IntKind.wrap .i64 (t26 + 1))
theorem pos_Run.e (call : B0.Call) (rec_ : B0.Rec 16) (x0_0 : List (List (Int × Int))) (x0_1 : Bool) (x0_2 : List Int) (x0_3 : List Int) (x0_4 : List (List Int)) (path1 : List Int) :
    den (B0.env call 16 Try.f16 [] rec_) 100000 false (bodyOf Try.f16.body) (entryS 0 [.agg [⟨.sl (.one (.sl spanRow)), x0_0⟩, ⟨.bool, x0_1⟩, ⟨.sl (.one (.int .i64)), x0_2⟩, ⟨.sl (.one (.int .i64)), x0_3⟩, ⟨.sl (.one (.sl (.one (.int .i64)))), x0_4⟩], .cell (.sl (.one (.int .u32))) path1 true] S.zero).1 = pos_Run.t call rec_ x0_0 x0_1 x0_2 x0_3 x0_4 path1 := by kernel_rfl
theorem pos_Run.s (k : Nat) (x0_0 : List (List (Int × Int))) (x0_1 : Bool) (x0_2 : List Int) (x0_3 : List Int) (x0_4 : List (List Int)) (path1 : List Int) : pos_Run.C (B0.call (k + 1)) x0_0 x0_1 x0_2 x0_3 x0_4 path1 = pos_Run.t (B0.call k) (pos_Run.R (B0.call k) k) x0_0 x0_1 x0_2 x0_3 x0_4 path1 :=
  (call_eq B0 rfl Try.func16 (by kernel_rfl) k _).trans (pos_Run.e _ _ x0_0 x0_1 x0_2 x0_3 x0_4 path1)
theorem pos_Run.e5 (call : B0.Call) (rec_ : B0.Rec 16) (x2_0 : List (List (Int × Int))) (x2_1 : Bool) (x2_2 : List Int) (x2_3 : List Int) (x2_4 : List (List Int)) (at5 : List Int) (t24 : List Int) (t25 : Int) (t26 : Int) :
    den (B0.env call 16 Try.f16 [] rec_) 100000 true (stk Try.f16.body 5) (putXs [.p 2 [none, none, none, none, none], .t 5, .t 24, .t 25, .t 26] [.box [.pl ⟨.sl (.one (.sl spanRow)), x2_0⟩, .pl ⟨.bool, x2_1⟩, .pl ⟨.sl (.one (.int .i64)), x2_2⟩, .pl ⟨.sl (.one (.int .i64)), x2_3⟩, .pl ⟨.sl (.one (.sl (.one (.int .i64)))), x2_4⟩], .val (.cell (.sl (.one (.int .i64))) at5 false), .val (.cell (.sl (.one (.int .u32))) t24 true), .val (.cell (.int .i64) t25 false), .val (.cell (.int .i64) t26 false)] S.zero) = pos_Run.t5 call rec_ x2_0 x2_1 x2_2 x2_3 x2_4 at5 t24 t25 t26 := by kernel_rfl
theorem pos_Run.s5 (call : B0.Call) (j : Nat) (x2_0 : List (List (Int × Int))) (x2_1 : Bool) (x2_2 : List Int) (x2_3 : List Int) (x2_4 : List (List Int)) (at5 : List Int) (t24 : List Int) (t25 : Int) (t26 : Int) : pos_Run.l5 (pos_Run.R call (j + 1)) x2_0 x2_1 x2_2 x2_3 x2_4 at5 t24 t25 t26 = pos_Run.t5 call (pos_Run.R call j) x2_0 x2_1 x2_2 x2_3 x2_4 at5 t24 t25 t26 :=
  (goOn_eq B0 (by kernel_rfl) rfl call [] j _).trans (pos_Run.e5 _ _ x2_0 x2_1 x2_2 x2_3 x2_4 at5 t24 t25 t26)
theorem pos_Run.e9 (call : B0.Call) (rec_ : B0.Rec 16) (x2_0 : List (List (Int × Int))) (x2_1 : Bool) (x2_2 : List Int) (x2_3 : List Int) (x2_4 : List (List Int)) (n7 : Int) (next8 : List Int) (t24 : List Int) (t25 : Int) (t26 : Int) (t30 : List Int) (t31 : Int) (t32 : Int) :
    den (B0.env call 16 Try.f16 [] rec_) 100000 true (stk Try.f16.body 9) (putXs [.p 2 [none, none, none, none, none], .t 7, .t 8, .t 24, .t 25, .t 26, .t 30, .t 31, .t 32] [.box [.pl ⟨.sl (.one (.sl spanRow)), x2_0⟩, .pl ⟨.bool, x2_1⟩, .pl ⟨.sl (.one (.int .i64)), x2_2⟩, .pl ⟨.sl (.one (.int .i64)), x2_3⟩, .pl ⟨.sl (.one (.sl (.one (.int .i64)))), x2_4⟩], .val (.cell (.int .u32) n7 false), .val (.cell (.sl (.one (.int .i64))) next8 false), .val (.cell (.sl (.one (.int .u32))) t24 true), .val (.cell (.int .i64) t25 false), .val (.cell (.int .i64) t26 false), .val (.cell (.sl (.one (.int .i64))) t30 false), .val (.cell (.int .i64) t31 false), .val (.cell (.int .i64) t32 false)] S.zero) = pos_Run.t9 call rec_ x2_0 x2_1 x2_2 x2_3 x2_4 n7 next8 t24 t25 t26 t30 t31 t32 := by kernel_rfl
theorem pos_Run.s9 (call : B0.Call) (j : Nat) (x2_0 : List (List (Int × Int))) (x2_1 : Bool) (x2_2 : List Int) (x2_3 : List Int) (x2_4 : List (List Int)) (n7 : Int) (next8 : List Int) (t24 : List Int) (t25 : Int) (t26 : Int) (t30 : List Int) (t31 : Int) (t32 : Int) : pos_Run.l9 (pos_Run.R call (j + 1)) x2_0 x2_1 x2_2 x2_3 x2_4 n7 next8 t24 t25 t26 t30 t31 t32 = pos_Run.t9 call (pos_Run.R call j) x2_0 x2_1 x2_2 x2_3 x2_4 n7 next8 t24 t25 t26 t30 t31 t32 :=
  (goOn_eq B0 (by kernel_rfl) rfl call [] j _).trans (pos_Run.e9 _ _ x2_0 x2_1 x2_2 x2_3 x2_4 n7 next8 t24 t25 t26 t30 t31 t32)
/- 17: pat_Match -/
noncomputable def pat_Match.R (call : B0.Call) (j : Nat) : B0.Rec 17 := B0.goOn call 17 Try.f17 [] j
noncomputable def pat_Match.t (call : B0.Call) (rec_ : B0.Rec 17) (p0_0 : Int) (p0_1 : List (Int × Int)) (p0_2 : List Pat) (path1 : List Int) : Option Bool :=
  Option.bind (pat_Right.C call p0_0 p0_1 p0_2) fun r0 =>
  bif (!r0) then
   some false
  else
   bif (decide (((List.length path1) : Int) > 255)) then
    some false
   else
    Option.bind (pat_places_put.C call 0 0 0 0 0) fun r1 =>
    Option.bind (pat_ends.C call p0_0 p0_1 p0_2 path1 r1.1 r1.2.1 r1.2.2.1 r1.2.2.2) fun r2 =>
    Option.bind (pat_places_has.C call r2.1 r2.2.1 r2.2.2.1 r2.2.2.2 ((List.length path1) : Int)) fun r3 =>
    some r3
theorem pat_Match.e (call : B0.Call) (rec_ : B0.Rec 17) (p0_0 : Int) (p0_1 : List (Int × Int)) (p0_2 : List Pat) (path1 : List Int) :
    den (B0.env call 17 Try.f17 [] rec_) 100000 false (bodyOf Try.f17.body) (entryS 0 [.agg [⟨.int .i64, p0_0⟩, ⟨.sl spanRow, p0_1⟩, ⟨.pats, p0_2⟩], .cell (.sl (.one (.int .u32))) path1 false] S.zero).1 = pat_Match.t call rec_ p0_0 p0_1 p0_2 path1 := by kernel_rfl
theorem pat_Match.s (k : Nat) (p0_0 : Int) (p0_1 : List (Int × Int)) (p0_2 : List Pat) (path1 : List Int) : pat_Match.C (B0.call (k + 1)) p0_0 p0_1 p0_2 path1 = pat_Match.t (B0.call k) (pat_Match.R (B0.call k) k) p0_0 p0_1 p0_2 path1 :=
  (call_eq B0 rfl Try.func17 (by kernel_rfl) k _).trans (pat_Match.e _ _ p0_0 p0_1 p0_2 path1)
/- 18: ref01_Nums -/
noncomputable def ref01_Nums.R (call : B0.Call) (j : Nat) : B0.Rec 18 := B0.goOn call 18 Try.f18 [] j
noncomputable def ref01_Nums.l4 (rec_ : B0.Rec 18) (a0 : List Int) (b1 : List Int) (t12 : Int) (t13 : Int) : Option Bool := rec_ (stk Try.f18.body 4) [.val (.cell (.sl (.one (.int .u32))) a0 true), .val (.cell (.sl (.one (.int .u32))) b1 true), .val (.cell (.int .i64) t12 false), .val (.cell (.int .i64) t13 false)]
noncomputable def ref01_Nums.t (call : B0.Call) (rec_ : B0.Rec 18) (a0 : List Int) (b1 : List Int) : Option Bool :=
  bif (((List.length a0) : Int) != ((List.length b1) : Int)) then
   some false
  else
   ref01_Nums.l4 rec_ a0 b1 ((List.length a0) : Int) 0
noncomputable def ref01_Nums.t4 (call : B0.Call) (rec_ : B0.Rec 18) (a0 : List Int) (b1 : List Int) (t12 : Int) (t13 : Int) : Option Bool :=
  bif (decide (t13 < t12)) then
   Option.bind (idx a0 t13) fun r0 =>
   Option.bind (idx b1 t13) fun r1 =>
   bif (r0 != r1) then
    some false
   else
    ref01_Nums.l4 rec_ a0 b1 t12 (IntKind.wrap .i64 (t13 + 1))
  else
   some true
theorem ref01_Nums.e (call : B0.Call) (rec_ : B0.Rec 18) (a0 : List Int) (b1 : List Int) :
    den (B0.env call 18 Try.f18 [] rec_) 100000 false (bodyOf Try.f18.body) (entryS 0 [.cell (.sl (.one (.int .u32))) a0 true, .cell (.sl (.one (.int .u32))) b1 true] S.zero).1 = ref01_Nums.t call rec_ a0 b1 := by kernel_rfl
theorem ref01_Nums.s (k : Nat) (a0 : List Int) (b1 : List Int) : ref01_Nums.C (B0.call (k + 1)) a0 b1 = ref01_Nums.t (B0.call k) (ref01_Nums.R (B0.call k) k) a0 b1 :=
  (call_eq B0 rfl Try.func18 (by kernel_rfl) k _).trans (ref01_Nums.e _ _ a0 b1)
theorem ref01_Nums.e4 (call : B0.Call) (rec_ : B0.Rec 18) (a0 : List Int) (b1 : List Int) (t12 : Int) (t13 : Int) :
    den (B0.env call 18 Try.f18 [] rec_) 100000 true (stk Try.f18.body 4) (putXs [.t 0, .t 1, .t 12, .t 13] [.val (.cell (.sl (.one (.int .u32))) a0 true), .val (.cell (.sl (.one (.int .u32))) b1 true), .val (.cell (.int .i64) t12 false), .val (.cell (.int .i64) t13 false)] S.zero) = ref01_Nums.t4 call rec_ a0 b1 t12 t13 := by kernel_rfl
theorem ref01_Nums.s4 (call : B0.Call) (j : Nat) (a0 : List Int) (b1 : List Int) (t12 : Int) (t13 : Int) : ref01_Nums.l4 (ref01_Nums.R call (j + 1)) a0 b1 t12 t13 = ref01_Nums.t4 call (ref01_Nums.R call j) a0 b1 t12 t13 :=
  (goOn_eq B0 (by kernel_rfl) rfl call [] j _).trans (ref01_Nums.e4 _ _ a0 b1 t12 t13)
/- 19: pat_Empty -/
noncomputable def pat_Empty.R (call : B0.Call) (j : Nat) : B0.Rec 19 := B0.goOn call 19 Try.f19 [] j
noncomputable def pat_Empty.t (call : B0.Call) (rec_ : B0.Rec 19) (p0_0 : Int) (p0_1 : List (Int × Int)) (p0_2 : List Pat) : Option Bool :=
  Option.bind (pat_Match.C call p0_0 p0_1 p0_2 []) fun r0 =>
  some r0
theorem pat_Empty.e (call : B0.Call) (rec_ : B0.Rec 19) (p0_0 : Int) (p0_1 : List (Int × Int)) (p0_2 : List Pat) :
    den (B0.env call 19 Try.f19 [] rec_) 100000 false (bodyOf Try.f19.body) (entryS 0 [.agg [⟨.int .i64, p0_0⟩, ⟨.sl spanRow, p0_1⟩, ⟨.pats, p0_2⟩]] S.zero).1 = pat_Empty.t call rec_ p0_0 p0_1 p0_2 := by kernel_rfl
theorem pat_Empty.s (k : Nat) (p0_0 : Int) (p0_1 : List (Int × Int)) (p0_2 : List Pat) : pat_Empty.C (B0.call (k + 1)) p0_0 p0_1 p0_2 = pat_Empty.t (B0.call k) (pat_Empty.R (B0.call k) k) p0_0 p0_1 p0_2 :=
  (call_eq B0 rfl Try.func19 (by kernel_rfl) k _).trans (pat_Empty.e _ _ p0_0 p0_1 p0_2)
/- 20: ref01_In -/
noncomputable def ref01_In.R (call : B0.Call) (j : Nat) : B0.Rec 20 := B0.goOn call 20 Try.f20 [] j
noncomputable def ref01_In.l2 (rec_ : B0.Rec 20) (n1 : Int) (t7 : List (Int × Int)) (t8 : Int) (t9 : Int) : Option Bool := rec_ (stk Try.f20.body 2) [.val (.cell (.int .u32) n1 false), .val (.cell (.sl spanRow) t7 true), .val (.cell (.int .i64) t8 false), .val (.cell (.int .i64) t9 false)]
noncomputable def ref01_In.t (call : B0.Call) (rec_ : B0.Rec 20) (l0 : List (Int × Int)) (n1 : Int) : Option Bool :=
  ref01_In.l2 rec_ n1 l0 ((List.length l0) : Int) 0
noncomputable def ref01_In.t2 (call : B0.Call) (rec_ : B0.Rec 20) (n1 : Int) (t7 : List (Int × Int)) (t8 : Int) (t9 : Int) : Option Bool :=
  bif (decide (t9 < t8)) then
   Option.bind (idx t7 t9) fun r0 =>
   bif (decide (r0.1 ≤ n1)) then
    bif (decide (n1 ≤ r0.2)) then
     some true
    else
     ref01_In.l2 rec_ n1 t7 t8 (IntKind.wrap .i64 (t9 + 1))
   else
    ref01_In.l2 rec_ n1 t7 t8 (IntKind.wrap .i64 (t9 + 1))
  else
   some false
theorem ref01_In.e (call : B0.Call) (rec_ : B0.Rec 20) (l0 : List (Int × Int)) (n1 : Int) :
    den (B0.env call 20 Try.f20 [] rec_) 100000 false (bodyOf Try.f20.body) (entryS 0 [.cell (.sl spanRow) l0 true, .cell (.int .u32) n1 false] S.zero).1 = ref01_In.t call rec_ l0 n1 := by kernel_rfl
theorem ref01_In.s (k : Nat) (l0 : List (Int × Int)) (n1 : Int) : ref01_In.C (B0.call (k + 1)) l0 n1 = ref01_In.t (B0.call k) (ref01_In.R (B0.call k) k) l0 n1 :=
  (call_eq B0 rfl Try.func20 (by kernel_rfl) k _).trans (ref01_In.e _ _ l0 n1)
theorem ref01_In.e2 (call : B0.Call) (rec_ : B0.Rec 20) (n1 : Int) (t7 : List (Int × Int)) (t8 : Int) (t9 : Int) :
    den (B0.env call 20 Try.f20 [] rec_) 100000 true (stk Try.f20.body 2) (putXs [.t 1, .t 7, .t 8, .t 9] [.val (.cell (.int .u32) n1 false), .val (.cell (.sl spanRow) t7 true), .val (.cell (.int .i64) t8 false), .val (.cell (.int .i64) t9 false)] S.zero) = ref01_In.t2 call rec_ n1 t7 t8 t9 := by kernel_rfl
theorem ref01_In.s2 (call : B0.Call) (j : Nat) (n1 : Int) (t7 : List (Int × Int)) (t8 : Int) (t9 : Int) : ref01_In.l2 (ref01_In.R call (j + 1)) n1 t7 t8 t9 = ref01_In.t2 call (ref01_In.R call j) n1 t7 t8 t9 :=
  (goOn_eq B0 (by kernel_rfl) rfl call [] j _).trans (ref01_In.e2 _ _ n1 t7 t8 t9)
/- 21: law08_one -/
noncomputable def law08_one.R (call : B0.Call) (j : Nat) : B0.Rec 21 := B0.goOn call 21 Try.f21 [] j
noncomputable def law08_one.t (call : B0.Call) (rec_ : B0.Rec 21) (n0 : Int) : Option (Int × (List (Int × Int)) × (List Pat)) :=
  some (1, (((n0, n0) :: []), []))
theorem law08_one.e (call : B0.Call) (rec_ : B0.Rec 21) (n0 : Int) :
    den (B0.env call 21 Try.f21 [] rec_) 100000 false (bodyOf Try.f21.body) (entryS 0 [.cell (.int .u32) n0 false] S.zero).1 = law08_one.t call rec_ n0 := by kernel_rfl
theorem law08_one.s (k : Nat) (n0 : Int) : law08_one.C (B0.call (k + 1)) n0 = law08_one.t (B0.call k) (law08_one.R (B0.call k) k) n0 :=
  (call_eq B0 rfl Try.func21 (by kernel_rfl) k _).trans (law08_one.e _ _ n0)
/- 22: ref05_Size -/
noncomputable def ref05_Size.R (call : B0.Call) (j : Nat) : B0.Rec 22 := B0.goOn call 22 Try.f22 [] j
noncomputable def ref05_Size.l3 (rec_ : B0.Rec 22) (parts4 : Int) (deep5 : Int) (t11 : List Pat) (t12 : Int) (t13 : Int) : Option (Int × Int) := rec_ (stk Try.f22.body 3) [.val (.cell (.int .i64) parts4 false), .val (.cell (.int .i64) deep5 false), .val (.cell (.pats) t11 false), .val (.cell (.int .i64) t12 false), .val (.cell (.int .i64) t13 false)]
noncomputable def ref05_Size.t (call : B0.Call) (rec_ : B0.Rec 22) (p0_0 : Int) (p0_1 : List (Int × Int)) (p0_2 : List Pat) : Option (Int × Int) :=
  ref05_Size.l3 rec_ 1 0 p0_2 ((List.length p0_2) : Int) 0
noncomputable def ref05_Size.t3 (call : B0.Call) (rec_ : B0.Rec 22) (parts4 : Int) (deep5 : Int) (t11 : List Pat) (t12 : Int) (t13 : Int) : Option (Int × Int) :=
  bif (decide (t13 < t12)) then
   Option.bind (idx t11 t13) fun r0 =>
   Option.bind (ref05_Size.C call r0.kind r0.set r0.subs) fun r1 =>
   ref05_Size.l3 rec_ (minI (IntKind.wrap .i64 (parts4 + r1.1)) 1000000) (maxI deep5 r1.2) t11 t12 (IntKind.wrap .i64 (t13 + 1))
  else
   some (parts4, (IntKind.wrap .i64 (deep5 + 1)))
theorem ref05_Size.e (call : B0.Call) (rec_ : B0.Rec 22) (p0_0 : Int) (p0_1 : List (Int × Int)) (p0_2 : List Pat) :
    den (B0.env call 22 Try.f22 [] rec_) 100000 false (bodyOf Try.f22.body) (entryS 0 [.agg [⟨.int .i64, p0_0⟩, ⟨.sl spanRow, p0_1⟩, ⟨.pats, p0_2⟩]] S.zero).1 = ref05_Size.t call rec_ p0_0 p0_1 p0_2 := by kernel_rfl
theorem ref05_Size.s (k : Nat) (p0_0 : Int) (p0_1 : List (Int × Int)) (p0_2 : List Pat) : ref05_Size.C (B0.call (k + 1)) p0_0 p0_1 p0_2 = ref05_Size.t (B0.call k) (ref05_Size.R (B0.call k) k) p0_0 p0_1 p0_2 :=
  (call_eq B0 rfl Try.func22 (by kernel_rfl) k _).trans (ref05_Size.e _ _ p0_0 p0_1 p0_2)
theorem ref05_Size.e3 (call : B0.Call) (rec_ : B0.Rec 22) (parts4 : Int) (deep5 : Int) (t11 : List Pat) (t12 : Int) (t13 : Int) :
    den (B0.env call 22 Try.f22 [] rec_) 100000 true (stk Try.f22.body 3) (putXs [.t 4, .t 5, .t 11, .t 12, .t 13] [.val (.cell (.int .i64) parts4 false), .val (.cell (.int .i64) deep5 false), .val (.cell (.pats) t11 false), .val (.cell (.int .i64) t12 false), .val (.cell (.int .i64) t13 false)] S.zero) = ref05_Size.t3 call rec_ parts4 deep5 t11 t12 t13 := by kernel_rfl
theorem ref05_Size.s3 (call : B0.Call) (j : Nat) (parts4 : Int) (deep5 : Int) (t11 : List Pat) (t12 : Int) (t13 : Int) : ref05_Size.l3 (ref05_Size.R call (j + 1)) parts4 deep5 t11 t12 t13 = ref05_Size.t3 call (ref05_Size.R call j) parts4 deep5 t11 t12 t13 :=
  (goOn_eq B0 (by kernel_rfl) rfl call [] j _).trans (ref05_Size.e3 _ _ parts4 deep5 t11 t12 t13)
/- 23: pos_maker_part -/
noncomputable def pos_maker_part.R (call : B0.Call) (j : Nat) : B0.Rec 23 := B0.goOn call 23 Try.f23 [0] j
noncomputable def pos_maker_part.l18 (rec_ : B0.Rec 23) (m0_0 : List (List (Int × Int))) (m0_1 : Bool) (m0_2 : List Int) (m0_3 : List Int) (m0_4 : List (List Int)) (t4_0 : Bool) (t4_1 : List Int) (t4_2 : List Int) (out9_0 : Bool) (out9_1 : List Int) (out9_2 : List Int) (t74 : List Pat) (t75 : Int) (t76 : Int) : Option (Bool × (List Int) × (List Int) × (List (List (Int × Int))) × Bool × (List Int) × (List Int) × (List (List Int))) := rec_ (stk Try.f23.body 18) [.box [.ow 22 ⟨.sl (.one (.sl spanRow)), m0_0⟩, .pl ⟨.bool, m0_1⟩, .pl ⟨.sl (.one (.int .i64)), m0_2⟩, .pl ⟨.sl (.one (.int .i64)), m0_3⟩, .ow 30 ⟨.sl (.one (.sl (.one (.int .i64)))), m0_4⟩], .box [.pl ⟨.bool, t4_0⟩, .pl ⟨.sl (.one (.int .i64)), t4_1⟩, .pl ⟨.sl (.one (.int .i64)), t4_2⟩], .box [.pl ⟨.bool, out9_0⟩, .pl ⟨.sl (.one (.int .i64)), out9_1⟩, .pl ⟨.sl (.one (.int .i64)), out9_2⟩], .val (.cell (.pats) t74 false), .val (.cell (.int .i64) t75 false), .val (.cell (.int .i64) t76 false)]
noncomputable def pos_maker_part.l10 (rec_ : B0.Rec 23) (m0_0 : List (List (Int × Int))) (m0_1 : Bool) (m0_2 : List Int) (m0_3 : List Int) (m0_4 : List (List Int)) (t4_0 : Bool) (t4_1 : List Int) (t4_2 : List Int) (out6_0 : Bool) (out6_1 : List Int) (out6_2 : List Int) (t57 : List Pat) (t58 : Int) (t59 : Int) : Option (Bool × (List Int) × (List Int) × (List (List (Int × Int))) × Bool × (List Int) × (List Int) × (List (List Int))) := rec_ (stk Try.f23.body 10) [.box [.ow 22 ⟨.sl (.one (.sl spanRow)), m0_0⟩, .pl ⟨.bool, m0_1⟩, .pl ⟨.sl (.one (.int .i64)), m0_2⟩, .pl ⟨.sl (.one (.int .i64)), m0_3⟩, .ow 30 ⟨.sl (.one (.sl (.one (.int .i64)))), m0_4⟩], .box [.pl ⟨.bool, t4_0⟩, .pl ⟨.sl (.one (.int .i64)), t4_1⟩, .pl ⟨.sl (.one (.int .i64)), t4_2⟩], .box [.pl ⟨.bool, out6_0⟩, .pl ⟨.sl (.one (.int .i64)), out6_1⟩, .pl ⟨.sl (.one (.int .i64)), out6_2⟩], .val (.cell (.pats) t57 false), .val (.cell (.int .i64) t58 false), .val (.cell (.int .i64) t59 false)]
noncomputable def pos_maker_part.t (call : B0.Call) (rec_ : B0.Rec 23) (m0_0 : List (List (Int × Int))) (m0_1 : Bool) (m0_2 : List Int) (m0_3 : List Int) (m0_4 : List (List Int)) (p1_0 : Int) (p1_1 : List (Int × Int)) (p1_2 : List Pat) : Option (Bool × (List Int) × (List Int) × (List (List (Int × Int))) × Bool × (List Int) × (List Int) × (List (List Int))) :=
  bif (p1_0 == 1) then
   Option.bind (span_Norm.C call p1_1) fun r0 =>
   bif ((room ((List.length m0_0) + (List.length (r0 :: []))) 24) && (((true && true) && true) && true)) then
    bif ((room ((List.length m0_4) + 1) 24) && (((true && true) && true) && true)) then
     some (false, ((((List.length m0_0) : Int) :: []), ((((List.length m0_0) : Int) :: []), ((m0_0 ++ (r0 :: [])), (m0_1, (m0_2, (m0_3, (m0_4 ++ ([] :: [])))))))))
    else
     none
   else
    none
  else
   bif (p1_0 == 2) then
    pos_maker_part.l10 rec_ m0_0 m0_1 m0_2 m0_3 m0_4 false [] [] true [] [] p1_2 ((List.length p1_2) : Int) 0
   else
    bif (p1_0 == 3) then
     pos_maker_part.l18 rec_ m0_0 m0_1 m0_2 m0_3 m0_4 false [] [] false [] [] p1_2 ((List.length p1_2) : Int) 0
    else
     Option.bind (idx p1_2 0) fun r0 =>
     Option.bind (pos_maker_part.C call m0_0 m0_1 m0_2 m0_3 m0_4 r0.kind r0.set r0.subs) fun r1 =>
     Option.bind (pos_maker_chain.C call r1.2.2.2.1 r1.2.2.2.2.1 r1.2.2.2.2.2.1 r1.2.2.2.2.2.2.1 r1.2.2.2.2.2.2.2 r1.2.2.1 r1.2.1) fun r2 =>
     some (true, (r1.2.1, (r1.2.2.1, (r2.1, (r2.2.1, (r2.2.2.1, (r2.2.2.2.1, r2.2.2.2.2)))))))
noncomputable def pos_maker_part.t18 (call : B0.Call) (rec_ : B0.Rec 23) (m0_0 : List (List (Int × Int))) (m0_1 : Bool) (m0_2 : List Int) (m0_3 : List Int) (m0_4 : List (List Int)) (t4_0 : Bool) (t4_1 : List Int) (t4_2 : List Int) (out9_0 : Bool) (out9_1 : List Int) (out9_2 : List Int) (t74 : List Pat) (t75 : Int) (t76 : Int) : Option (Bool × (List Int) × (List Int) × (List (List (Int × Int))) × Bool × (List Int) × (List Int) × (List (List Int))) :=
  bif (decide (t76 < t75)) then
   Option.bind (idx t74 t76) fun r0 =>
   Option.bind (pos_maker_part.C call m0_0 m0_1 m0_2 m0_3 m0_4 r0.kind r0.set r0.subs) fun r1 =>
   bif out9_0 then
    Option.bind (pos_with.C call out9_1 r1.2.1) fun r2 =>
    Option.bind (pos_with.C call out9_2 r1.2.2.1) fun r3 =>
    pos_maker_part.l18 rec_ r1.2.2.2.1 r1.2.2.2.2.1 r1.2.2.2.2.2.1 r1.2.2.2.2.2.2.1 r1.2.2.2.2.2.2.2 t4_0 t4_1 t4_2 true r2 r3 t74 t75 (IntKind.wrap .i64 (t76 + 1))
   else
    Option.bind (pos_with.C call out9_1 r1.2.1) fun r2 =>
    Option.bind (pos_with.C call out9_2 r1.2.2.1) fun r3 =>
    pos_maker_part.l18 rec_ r1.2.2.2.1 r1.2.2.2.2.1 r1.2.2.2.2.2.1 r1.2.2.2.2.2.2.1 r1.2.2.2.2.2.2.2 t4_0 t4_1 t4_2 r1.1 r2 r3 t74 t75 (IntKind.wrap .i64 (t76 + 1))
  else
   some (out9_0, (out9_1, (out9_2, (m0_0, (m0_1, (m0_2, (m0_3, m0_4)))))))
noncomputable def pos_maker_part.t10 (call : B0.Call) (rec_ : B0.Rec 23) (m0_0 : List (List (Int × Int))) (m0_1 : Bool) (m0_2 : List Int) (m0_3 : List Int) (m0_4 : List (List Int)) (t4_0 : Bool) (t4_1 : List Int) (t4_2 : List Int) (out6_0 : Bool) (out6_1 : List Int) (out6_2 : List Int) (t57 : List Pat) (t58 : Int) (t59 : Int) : Option (Bool × (List Int) × (List Int) × (List (List (Int × Int))) × Bool × (List Int) × (List Int) × (List (List Int))) :=
  bif (decide (t59 < t58)) then
   Option.bind (idx t57 t59) fun r0 =>
   Option.bind (pos_maker_part.C call m0_0 m0_1 m0_2 m0_3 m0_4 r0.kind r0.set r0.subs) fun r1 =>
   Option.bind (pos_maker_cat.C call r1.2.2.2.1 r1.2.2.2.2.1 r1.2.2.2.2.2.1 r1.2.2.2.2.2.2.1 r1.2.2.2.2.2.2.2 out6_0 out6_1 out6_2 r1.1 r1.2.1 r1.2.2.1) fun r2 =>
   pos_maker_part.l10 rec_ r2.2.2.2.1 r2.2.2.2.2.1 r2.2.2.2.2.2.1 r2.2.2.2.2.2.2.1 r2.2.2.2.2.2.2.2 t4_0 t4_1 t4_2 r2.1 r2.2.1 r2.2.2.1 t57 t58 (IntKind.wrap .i64 (t59 + 1))
  else
   some (out6_0, (out6_1, (out6_2, (m0_0, (m0_1, (m0_2, (m0_3, m0_4)))))))
theorem pos_maker_part.e (call : B0.Call) (rec_ : B0.Rec 23) (m0_0 : List (List (Int × Int))) (m0_1 : Bool) (m0_2 : List Int) (m0_3 : List Int) (m0_4 : List (List Int)) (p1_0 : Int) (p1_1 : List (Int × Int)) (p1_2 : List Pat) :
    den (B0.env call 23 Try.f23 [0] rec_) 100000 false (bodyOf Try.f23.body) (entryS 0 [.box [.ow 22 ⟨.sl (.one (.sl spanRow)), m0_0⟩, .pl ⟨.bool, m0_1⟩, .pl ⟨.sl (.one (.int .i64)), m0_2⟩, .pl ⟨.sl (.one (.int .i64)), m0_3⟩, .ow 30 ⟨.sl (.one (.sl (.one (.int .i64)))), m0_4⟩], .agg [⟨.int .i64, p1_0⟩, ⟨.sl spanRow, p1_1⟩, ⟨.pats, p1_2⟩]] S.zero).1 = pos_maker_part.t call rec_ m0_0 m0_1 m0_2 m0_3 m0_4 p1_0 p1_1 p1_2 := by kernel_rfl
theorem pos_maker_part.s (k : Nat) (m0_0 : List (List (Int × Int))) (m0_1 : Bool) (m0_2 : List Int) (m0_3 : List Int) (m0_4 : List (List Int)) (p1_0 : Int) (p1_1 : List (Int × Int)) (p1_2 : List Pat) : pos_maker_part.C (B0.call (k + 1)) m0_0 m0_1 m0_2 m0_3 m0_4 p1_0 p1_1 p1_2 = pos_maker_part.t (B0.call k) (pos_maker_part.R (B0.call k) k) m0_0 m0_1 m0_2 m0_3 m0_4 p1_0 p1_1 p1_2 :=
  (call_eq B0 rfl Try.func23 (by kernel_rfl) k _).trans (pos_maker_part.e _ _ m0_0 m0_1 m0_2 m0_3 m0_4 p1_0 p1_1 p1_2)
theorem pos_maker_part.e18 (call : B0.Call) (rec_ : B0.Rec 23) (m0_0 : List (List (Int × Int))) (m0_1 : Bool) (m0_2 : List Int) (m0_3 : List Int) (m0_4 : List (List Int)) (t4_0 : Bool) (t4_1 : List Int) (t4_2 : List Int) (out9_0 : Bool) (out9_1 : List Int) (out9_2 : List Int) (t74 : List Pat) (t75 : Int) (t76 : Int) :
    den (B0.env call 23 Try.f23 [0] rec_) 100000 true (stk Try.f23.body 18) (putXs [.p 0 [some 22, none, none, none, some 30], .p 4 [none, none, none], .p 9 [none, none, none], .t 74, .t 75, .t 76] [.box [.ow 22 ⟨.sl (.one (.sl spanRow)), m0_0⟩, .pl ⟨.bool, m0_1⟩, .pl ⟨.sl (.one (.int .i64)), m0_2⟩, .pl ⟨.sl (.one (.int .i64)), m0_3⟩, .ow 30 ⟨.sl (.one (.sl (.one (.int .i64)))), m0_4⟩], .box [.pl ⟨.bool, t4_0⟩, .pl ⟨.sl (.one (.int .i64)), t4_1⟩, .pl ⟨.sl (.one (.int .i64)), t4_2⟩], .box [.pl ⟨.bool, out9_0⟩, .pl ⟨.sl (.one (.int .i64)), out9_1⟩, .pl ⟨.sl (.one (.int .i64)), out9_2⟩], .val (.cell (.pats) t74 false), .val (.cell (.int .i64) t75 false), .val (.cell (.int .i64) t76 false)] S.zero) = pos_maker_part.t18 call rec_ m0_0 m0_1 m0_2 m0_3 m0_4 t4_0 t4_1 t4_2 out9_0 out9_1 out9_2 t74 t75 t76 := by kernel_rfl
theorem pos_maker_part.s18 (call : B0.Call) (j : Nat) (m0_0 : List (List (Int × Int))) (m0_1 : Bool) (m0_2 : List Int) (m0_3 : List Int) (m0_4 : List (List Int)) (t4_0 : Bool) (t4_1 : List Int) (t4_2 : List Int) (out9_0 : Bool) (out9_1 : List Int) (out9_2 : List Int) (t74 : List Pat) (t75 : Int) (t76 : Int) : pos_maker_part.l18 (pos_maker_part.R call (j + 1)) m0_0 m0_1 m0_2 m0_3 m0_4 t4_0 t4_1 t4_2 out9_0 out9_1 out9_2 t74 t75 t76 = pos_maker_part.t18 call (pos_maker_part.R call j) m0_0 m0_1 m0_2 m0_3 m0_4 t4_0 t4_1 t4_2 out9_0 out9_1 out9_2 t74 t75 t76 :=
  (goOn_eq B0 (by kernel_rfl) rfl call [0] j _).trans (pos_maker_part.e18 _ _ m0_0 m0_1 m0_2 m0_3 m0_4 t4_0 t4_1 t4_2 out9_0 out9_1 out9_2 t74 t75 t76)
theorem pos_maker_part.e10 (call : B0.Call) (rec_ : B0.Rec 23) (m0_0 : List (List (Int × Int))) (m0_1 : Bool) (m0_2 : List Int) (m0_3 : List Int) (m0_4 : List (List Int)) (t4_0 : Bool) (t4_1 : List Int) (t4_2 : List Int) (out6_0 : Bool) (out6_1 : List Int) (out6_2 : List Int) (t57 : List Pat) (t58 : Int) (t59 : Int) :
    den (B0.env call 23 Try.f23 [0] rec_) 100000 true (stk Try.f23.body 10) (putXs [.p 0 [some 22, none, none, none, some 30], .p 4 [none, none, none], .p 6 [none, none, none], .t 57, .t 58, .t 59] [.box [.ow 22 ⟨.sl (.one (.sl spanRow)), m0_0⟩, .pl ⟨.bool, m0_1⟩, .pl ⟨.sl (.one (.int .i64)), m0_2⟩, .pl ⟨.sl (.one (.int .i64)), m0_3⟩, .ow 30 ⟨.sl (.one (.sl (.one (.int .i64)))), m0_4⟩], .box [.pl ⟨.bool, t4_0⟩, .pl ⟨.sl (.one (.int .i64)), t4_1⟩, .pl ⟨.sl (.one (.int .i64)), t4_2⟩], .box [.pl ⟨.bool, out6_0⟩, .pl ⟨.sl (.one (.int .i64)), out6_1⟩, .pl ⟨.sl (.one (.int .i64)), out6_2⟩], .val (.cell (.pats) t57 false), .val (.cell (.int .i64) t58 false), .val (.cell (.int .i64) t59 false)] S.zero) = pos_maker_part.t10 call rec_ m0_0 m0_1 m0_2 m0_3 m0_4 t4_0 t4_1 t4_2 out6_0 out6_1 out6_2 t57 t58 t59 := by kernel_rfl
theorem pos_maker_part.s10 (call : B0.Call) (j : Nat) (m0_0 : List (List (Int × Int))) (m0_1 : Bool) (m0_2 : List Int) (m0_3 : List Int) (m0_4 : List (List Int)) (t4_0 : Bool) (t4_1 : List Int) (t4_2 : List Int) (out6_0 : Bool) (out6_1 : List Int) (out6_2 : List Int) (t57 : List Pat) (t58 : Int) (t59 : Int) : pos_maker_part.l10 (pos_maker_part.R call (j + 1)) m0_0 m0_1 m0_2 m0_3 m0_4 t4_0 t4_1 t4_2 out6_0 out6_1 out6_2 t57 t58 t59 = pos_maker_part.t10 call (pos_maker_part.R call j) m0_0 m0_1 m0_2 m0_3 m0_4 t4_0 t4_1 t4_2 out6_0 out6_1 out6_2 t57 t58 t59 :=
  (goOn_eq B0 (by kernel_rfl) rfl call [0] j _).trans (pos_maker_part.e10 _ _ m0_0 m0_1 m0_2 m0_3 m0_4 t4_0 t4_1 t4_2 out6_0 out6_1 out6_2 t57 t58 t59)
/- 24: slices_Clone_int_int -/
noncomputable def slices_Clone_int_int.R (call : B0.Call) (j : Nat) : B0.Rec 24 := B0.goOn call 24 Try.f24 [] j
noncomputable def slices_Clone_int_int.t (call : B0.Call) (rec_ : B0.Rec 24) (s0 : List Int) : Option (List Int) :=
  bif (List.isEmpty s0) then
   Option.bind (bif ((room (0 + (List.length s0)) 8) && (((true && true) && true) && true)) then
      some ([] ++ s0)
     else
      none) fun r0 =>
   bif (Row.same (.one (.sl (.one (.int .i64)))) [] r0) then
    some []
   else
    none
  else
   bif ((room (0 + (List.length s0)) 8) && (((true && true) && true) && true)) then
    some ([] ++ s0)
   else
    none
theorem slices_Clone_int_int.e (call : B0.Call) (rec_ : B0.Rec 24) (s0 : List Int) :
    den (B0.env call 24 Try.f24 [] rec_) 100000 false (bodyOf Try.f24.body) (entryS 0 [.cell (.sl (.one (.int .i64))) s0 false] S.zero).1 = slices_Clone_int_int.t call rec_ s0 := by kernel_rfl
theorem slices_Clone_int_int.s (k : Nat) (s0 : List Int) : slices_Clone_int_int.C (B0.call (k + 1)) s0 = slices_Clone_int_int.t (B0.call k) (slices_Clone_int_int.R (B0.call k) k) s0 :=
  (call_eq B0 rfl Try.func24 (by kernel_rfl) k _).trans (slices_Clone_int_int.e _ _ s0)
/- 25: ref05_Right -/
noncomputable def ref05_Right.R (call : B0.Call) (j : Nat) : B0.Rec 25 := B0.goOn call 25 Try.f25 [] j
noncomputable def ref05_Right.t (call : B0.Call) (rec_ : B0.Rec 25) (p0_0 : Int) (p0_1 : List (Int × Int)) (p0_2 : List Pat) : Option Bool :=
  Option.bind (ref05_Size.C call p0_0 p0_1 p0_2) fun r0 =>
  bif (decide (r0.1 ≤ 200)) then
   bif (decide (r0.2 ≤ 40)) then
    Option.bind (ref05_kinds.C call p0_0 p0_1 p0_2) fun r1 =>
    some r1
   else
    some false
  else
   some false
theorem ref05_Right.e (call : B0.Call) (rec_ : B0.Rec 25) (p0_0 : Int) (p0_1 : List (Int × Int)) (p0_2 : List Pat) :
    den (B0.env call 25 Try.f25 [] rec_) 100000 false (bodyOf Try.f25.body) (entryS 0 [.agg [⟨.int .i64, p0_0⟩, ⟨.sl spanRow, p0_1⟩, ⟨.pats, p0_2⟩]] S.zero).1 = ref05_Right.t call rec_ p0_0 p0_1 p0_2 := by kernel_rfl
theorem ref05_Right.s (k : Nat) (p0_0 : Int) (p0_1 : List (Int × Int)) (p0_2 : List Pat) : ref05_Right.C (B0.call (k + 1)) p0_0 p0_1 p0_2 = ref05_Right.t (B0.call k) (ref05_Right.R (B0.call k) k) p0_0 p0_1 p0_2 :=
  (call_eq B0 rfl Try.func25 (by kernel_rfl) k _).trans (ref05_Right.e _ _ p0_0 p0_1 p0_2)
/- 26: ref08_ones -/
noncomputable def ref08_ones.R (call : B0.Call) (j : Nat) : B0.Rec 26 := B0.goOn call 26 Try.f26 [] j
noncomputable def ref08_ones.l5 (rec_ : B0.Rec 26) (n3 : Int) (t10 : List Pat) (t11 : Int) (t12 : Int) : Option Int := rec_ (stk Try.f26.body 5) [.val (.cell (.int .i64) n3 false), .val (.cell (.pats) t10 false), .val (.cell (.int .i64) t11 false), .val (.cell (.int .i64) t12 false)]
noncomputable def ref08_ones.t (call : B0.Call) (rec_ : B0.Rec 26) (p0_0 : Int) (p0_1 : List (Int × Int)) (p0_2 : List Pat) : Option Int :=
  bif (p0_0 == 1) then
   some 1
  else
   ref08_ones.l5 rec_ 0 p0_2 ((List.length p0_2) : Int) 0
noncomputable def ref08_ones.t5 (call : B0.Call) (rec_ : B0.Rec 26) (n3 : Int) (t10 : List Pat) (t11 : Int) (t12 : Int) : Option Int :=
  bif (decide (t12 < t11)) then
   Option.bind (idx t10 t12) fun r0 =>
   Option.bind (ref08_ones.C call r0.kind r0.set r0.subs) fun r1 =>
   ref08_ones.l5 rec_ (IntKind.wrap .i64 (n3 + r1)) t10 t11 (IntKind.wrap .i64 (t12 + 1))
  else
   some n3
theorem ref08_ones.e (call : B0.Call) (rec_ : B0.Rec 26) (p0_0 : Int) (p0_1 : List (Int × Int)) (p0_2 : List Pat) :
    den (B0.env call 26 Try.f26 [] rec_) 100000 false (bodyOf Try.f26.body) (entryS 0 [.agg [⟨.int .i64, p0_0⟩, ⟨.sl spanRow, p0_1⟩, ⟨.pats, p0_2⟩]] S.zero).1 = ref08_ones.t call rec_ p0_0 p0_1 p0_2 := by kernel_rfl
theorem ref08_ones.s (k : Nat) (p0_0 : Int) (p0_1 : List (Int × Int)) (p0_2 : List Pat) : ref08_ones.C (B0.call (k + 1)) p0_0 p0_1 p0_2 = ref08_ones.t (B0.call k) (ref08_ones.R (B0.call k) k) p0_0 p0_1 p0_2 :=
  (call_eq B0 rfl Try.func26 (by kernel_rfl) k _).trans (ref08_ones.e _ _ p0_0 p0_1 p0_2)
theorem ref08_ones.e5 (call : B0.Call) (rec_ : B0.Rec 26) (n3 : Int) (t10 : List Pat) (t11 : Int) (t12 : Int) :
    den (B0.env call 26 Try.f26 [] rec_) 100000 true (stk Try.f26.body 5) (putXs [.t 3, .t 10, .t 11, .t 12] [.val (.cell (.int .i64) n3 false), .val (.cell (.pats) t10 false), .val (.cell (.int .i64) t11 false), .val (.cell (.int .i64) t12 false)] S.zero) = ref08_ones.t5 call rec_ n3 t10 t11 t12 := by kernel_rfl
theorem ref08_ones.s5 (call : B0.Call) (j : Nat) (n3 : Int) (t10 : List Pat) (t11 : Int) (t12 : Int) : ref08_ones.l5 (ref08_ones.R call (j + 1)) n3 t10 t11 t12 = ref08_ones.t5 call (ref08_ones.R call j) n3 t10 t11 t12 :=
  (goOn_eq B0 (by kernel_rfl) rfl call [] j _).trans (ref08_ones.e5 _ _ n3 t10 t11 t12)
/- 29: ref01_Same -/
noncomputable def ref01_Same.R (call : B0.Call) (j : Nat) : B0.Rec 29 := B0.goOn call 29 Try.f29 [] j
noncomputable def ref01_Same.l4 (rec_ : B0.Rec 29) (a0 : List (Int × Int)) (b1 : List (Int × Int)) (t12 : Int) (t13 : Int) : Option Bool := rec_ (stk Try.f29.body 4) [.val (.cell (.sl spanRow) a0 true), .val (.cell (.sl spanRow) b1 true), .val (.cell (.int .i64) t12 false), .val (.cell (.int .i64) t13 false)]
noncomputable def ref01_Same.t (call : B0.Call) (rec_ : B0.Rec 29) (a0 : List (Int × Int)) (b1 : List (Int × Int)) : Option Bool :=
  bif (((List.length a0) : Int) != ((List.length b1) : Int)) then
   some false
  else
   ref01_Same.l4 rec_ a0 b1 ((List.length a0) : Int) 0
noncomputable def ref01_Same.t4 (call : B0.Call) (rec_ : B0.Rec 29) (a0 : List (Int × Int)) (b1 : List (Int × Int)) (t12 : Int) (t13 : Int) : Option Bool :=
  bif (decide (t13 < t12)) then
   Option.bind (idx a0 t13) fun r0 =>
   Option.bind (idx b1 t13) fun r1 =>
   bif (!((eqI r0.1 r1.1) && ((eqI r0.2 r1.2) && true))) then
    some false
   else
    ref01_Same.l4 rec_ a0 b1 t12 (IntKind.wrap .i64 (t13 + 1))
  else
   some true
theorem ref01_Same.e (call : B0.Call) (rec_ : B0.Rec 29) (a0 : List (Int × Int)) (b1 : List (Int × Int)) :
    den (B0.env call 29 Try.f29 [] rec_) 100000 false (bodyOf Try.f29.body) (entryS 0 [.cell (.sl spanRow) a0 true, .cell (.sl spanRow) b1 true] S.zero).1 = ref01_Same.t call rec_ a0 b1 := by kernel_rfl
theorem ref01_Same.s (k : Nat) (a0 : List (Int × Int)) (b1 : List (Int × Int)) : ref01_Same.C (B0.call (k + 1)) a0 b1 = ref01_Same.t (B0.call k) (ref01_Same.R (B0.call k) k) a0 b1 :=
  (call_eq B0 rfl Try.func29 (by kernel_rfl) k _).trans (ref01_Same.e _ _ a0 b1)
theorem ref01_Same.e4 (call : B0.Call) (rec_ : B0.Rec 29) (a0 : List (Int × Int)) (b1 : List (Int × Int)) (t12 : Int) (t13 : Int) :
    den (B0.env call 29 Try.f29 [] rec_) 100000 true (stk Try.f29.body 4) (putXs [.t 0, .t 1, .t 12, .t 13] [.val (.cell (.sl spanRow) a0 true), .val (.cell (.sl spanRow) b1 true), .val (.cell (.int .i64) t12 false), .val (.cell (.int .i64) t13 false)] S.zero) = ref01_Same.t4 call rec_ a0 b1 t12 t13 := by kernel_rfl
theorem ref01_Same.s4 (call : B0.Call) (j : Nat) (a0 : List (Int × Int)) (b1 : List (Int × Int)) (t12 : Int) (t13 : Int) : ref01_Same.l4 (ref01_Same.R call (j + 1)) a0 b1 t12 t13 = ref01_Same.t4 call (ref01_Same.R call j) a0 b1 t12 t13 :=
  (goOn_eq B0 (by kernel_rfl) rfl call [] j _).trans (ref01_Same.e4 _ _ a0 b1 t12 t13)
/- 30: pat_Size -/
noncomputable def pat_Size.R (call : B0.Call) (j : Nat) : B0.Rec 30 := B0.goOn call 30 Try.f30 [] j
noncomputable def pat_Size.l3 (rec_ : B0.Rec 30) (parts2 : Int) (deep3 : Int) (t9 : List Pat) (t10 : Int) (t11 : Int) : Option (Int × Int) := rec_ (stk Try.f30.body 3) [.val (.cell (.int .i64) parts2 false), .val (.cell (.int .i64) deep3 false), .val (.cell (.pats) t9 false), .val (.cell (.int .i64) t10 false), .val (.cell (.int .i64) t11 false)]
noncomputable def pat_Size.t (call : B0.Call) (rec_ : B0.Rec 30) (p0_0 : Int) (p0_1 : List (Int × Int)) (p0_2 : List Pat) : Option (Int × Int) :=
  pat_Size.l3 rec_ 1 0 p0_2 ((List.length p0_2) : Int) 0
noncomputable def pat_Size.t3 (call : B0.Call) (rec_ : B0.Rec 30) (parts2 : Int) (deep3 : Int) (t9 : List Pat) (t10 : Int) (t11 : Int) : Option (Int × Int) :=
  bif (decide (t11 < t10)) then
   Option.bind (idx t9 t11) fun r0 =>
   Option.bind (pat_Size.C call r0.kind r0.set r0.subs) fun r1 =>
   pat_Size.l3 rec_ (IntKind.wrap .i64 (parts2 + r1.1)) (maxI deep3 r1.2) t9 t10 (IntKind.wrap .i64 (t11 + 1))
  else
   some (parts2, (IntKind.wrap .i64 (deep3 + 1)))
theorem pat_Size.e (call : B0.Call) (rec_ : B0.Rec 30) (p0_0 : Int) (p0_1 : List (Int × Int)) (p0_2 : List Pat) :
    den (B0.env call 30 Try.f30 [] rec_) 100000 false (bodyOf Try.f30.body) (entryS 0 [.agg [⟨.int .i64, p0_0⟩, ⟨.sl spanRow, p0_1⟩, ⟨.pats, p0_2⟩]] S.zero).1 = pat_Size.t call rec_ p0_0 p0_1 p0_2 := by kernel_rfl
theorem pat_Size.s (k : Nat) (p0_0 : Int) (p0_1 : List (Int × Int)) (p0_2 : List Pat) : pat_Size.C (B0.call (k + 1)) p0_0 p0_1 p0_2 = pat_Size.t (B0.call k) (pat_Size.R (B0.call k) k) p0_0 p0_1 p0_2 :=
  (call_eq B0 rfl Try.func30 (by kernel_rfl) k _).trans (pat_Size.e _ _ p0_0 p0_1 p0_2)
theorem pat_Size.e3 (call : B0.Call) (rec_ : B0.Rec 30) (parts2 : Int) (deep3 : Int) (t9 : List Pat) (t10 : Int) (t11 : Int) :
    den (B0.env call 30 Try.f30 [] rec_) 100000 true (stk Try.f30.body 3) (putXs [.t 2, .t 3, .t 9, .t 10, .t 11] [.val (.cell (.int .i64) parts2 false), .val (.cell (.int .i64) deep3 false), .val (.cell (.pats) t9 false), .val (.cell (.int .i64) t10 false), .val (.cell (.int .i64) t11 false)] S.zero) = pat_Size.t3 call rec_ parts2 deep3 t9 t10 t11 := by kernel_rfl
theorem pat_Size.s3 (call : B0.Call) (j : Nat) (parts2 : Int) (deep3 : Int) (t9 : List Pat) (t10 : Int) (t11 : Int) : pat_Size.l3 (pat_Size.R call (j + 1)) parts2 deep3 t9 t10 t11 = pat_Size.t3 call (pat_Size.R call j) parts2 deep3 t9 t10 t11 :=
  (goOn_eq B0 (by kernel_rfl) rfl call [] j _).trans (pat_Size.e3 _ _ parts2 deep3 t9 t10 t11)
/- 31: pat_fits -/
noncomputable def pat_fits.R (call : B0.Call) (j : Nat) : B0.Rec 31 := B0.goOn call 31 Try.f31 [] j
noncomputable def pat_fits.t (call : B0.Call) (rec_ : B0.Rec 31) (p0_0 : Int) (p0_1 : List (Int × Int)) (p0_2 : List Pat) : Option Bool :=
  bif (p0_0 == 1) then
   bif (((List.length p0_2) : Int) == 0) then
    some (decide (((List.length p0_1) : Int) ≤ 256))
   else
    some false
  else
   bif (p0_0 == 2) then
    bif (((List.length p0_1) : Int) == 0) then
     bif (p0_0 != 4) then
      Option.bind (slices_ContainsFunc_api_Pat_api_Pat.C call p0_2) fun r0 =>
      some (!r0)
     else
      bif (((List.length p0_2) : Int) == 1) then
       Option.bind (slices_ContainsFunc_api_Pat_api_Pat.C call p0_2) fun r0 =>
       some (!r0)
      else
       some false
    else
     some false
   else
    bif (p0_0 == 3) then
     bif (((List.length p0_1) : Int) == 0) then
      bif (p0_0 != 4) then
       Option.bind (slices_ContainsFunc_api_Pat_api_Pat.C call p0_2) fun r0 =>
       some (!r0)
      else
       bif (((List.length p0_2) : Int) == 1) then
        Option.bind (slices_ContainsFunc_api_Pat_api_Pat.C call p0_2) fun r0 =>
        some (!r0)
       else
        some false
     else
      some false
    else
     bif (p0_0 == 4) then
      bif (((List.length p0_1) : Int) == 0) then
       bif (p0_0 != 4) then
        Option.bind (slices_ContainsFunc_api_Pat_api_Pat.C call p0_2) fun r0 =>
        some (!r0)
       else
        bif (((List.length p0_2) : Int) == 1) then
         Option.bind (slices_ContainsFunc_api_Pat_api_Pat.C call p0_2) fun r0 =>
         some (!r0)
        else
         some false
      else
       some false
     else
      some false
theorem pat_fits.e (call : B0.Call) (rec_ : B0.Rec 31) (p0_0 : Int) (p0_1 : List (Int × Int)) (p0_2 : List Pat) :
    den (B0.env call 31 Try.f31 [] rec_) 100000 false (bodyOf Try.f31.body) (entryS 0 [.agg [⟨.int .i64, p0_0⟩, ⟨.sl spanRow, p0_1⟩, ⟨.pats, p0_2⟩]] S.zero).1 = pat_fits.t call rec_ p0_0 p0_1 p0_2 := by kernel_rfl
theorem pat_fits.s (k : Nat) (p0_0 : Int) (p0_1 : List (Int × Int)) (p0_2 : List Pat) : pat_fits.C (B0.call (k + 1)) p0_0 p0_1 p0_2 = pat_fits.t (B0.call k) (pat_fits.R (B0.call k) k) p0_0 p0_1 p0_2 :=
  (call_eq B0 rfl Try.func31 (by kernel_rfl) k _).trans (pat_fits.e _ _ p0_0 p0_1 p0_2)
/- 32: pos_Pos_may -/
noncomputable def pos_Pos_may.R (call : B0.Call) (j : Nat) : B0.Rec 32 := B0.goOn call 32 Try.f32 [] j
noncomputable def pos_Pos_may.l3 (rec_ : B0.Rec 32) (n2 : Int) (x3_0 : List (List (Int × Int))) (x3_1 : Bool) (x3_2 : List Int) (x3_3 : List Int) (x3_4 : List (List Int)) (out7 : List Int) (t10 : List Int) (t11 : Int) (t12 : Int) : Option (List Int) := rec_ (stk Try.f32.body 3) [.val (.cell (.int .u32) n2 false), .box [.pl ⟨.sl (.one (.sl spanRow)), x3_0⟩, .pl ⟨.bool, x3_1⟩, .pl ⟨.sl (.one (.int .i64)), x3_2⟩, .pl ⟨.sl (.one (.int .i64)), x3_3⟩, .pl ⟨.sl (.one (.sl (.one (.int .i64)))), x3_4⟩], .own 3 (.sl (.one (.int .i64))) out7, .val (.cell (.sl (.one (.int .i64))) t10 false), .val (.cell (.int .i64) t11 false), .val (.cell (.int .i64) t12 false)]
noncomputable def pos_Pos_may.t (call : B0.Call) (rec_ : B0.Rec 32) (x0_0 : List (List (Int × Int))) (x0_1 : Bool) (x0_2 : List Int) (x0_3 : List Int) (x0_4 : List (List Int)) (l1 : List Int) (n2 : Int) : Option (List Int) :=
  pos_Pos_may.l3 rec_ n2 x0_0 x0_1 x0_2 x0_3 x0_4 [] l1 ((List.length l1) : Int) 0
noncomputable def pos_Pos_may.t3 (call : B0.Call) (rec_ : B0.Rec 32) (n2 : Int) (x3_0 : List (List (Int × Int))) (x3_1 : Bool) (x3_2 : List Int) (x3_3 : List Int) (x3_4 : List (List Int)) (out7 : List Int) (t10 : List Int) (t11 : Int) (t12 : Int) : Option (List Int) :=
  bif (decide (t12 < t11)) then
   Option.bind (idx t10 t12) fun r0 =>
   bif (decide (r0 ≥ 0)) then
    bif (decide (r0 < ((List.length x3_0) : Int))) then
     Option.bind (idx x3_0 r0) fun r1 =>
     Option.bind (span_In.C call r1 n2) fun r2 =>
     bif r2 then
      bif ((room ((List.length out7) + (List.length (r0 :: []))) 8) && (((true && true) && true) && true)) then
       pos_Pos_may.l3 rec_ n2 x3_0 x3_1 x3_2 x3_3 x3_4 (out7 ++ (r0 :: [])) t10 t11 (IntKind.wrap .i64 (t12 + 1))
      else
       none
     else
      pos_Pos_may.l3 rec_ n2 x3_0 x3_1 x3_2 x3_3 x3_4 out7 t10 t11 (IntKind.wrap .i64 (t12 + 1))
    else
     pos_Pos_may.l3 rec_ n2 x3_0 x3_1 x3_2 x3_3 x3_4 out7 t10 t11 (IntKind.wrap .i64 (t12 + 1))
   else
    pos_Pos_may.l3 rec_ n2 x3_0 x3_1 x3_2 x3_3 x3_4 out7 t10 t11 (IntKind.wrap .i64 (t12 + 1))
  else
   some out7
theorem pos_Pos_may.e (call : B0.Call) (rec_ : B0.Rec 32) (x0_0 : List (List (Int × Int))) (x0_1 : Bool) (x0_2 : List Int) (x0_3 : List Int) (x0_4 : List (List Int)) (l1 : List Int) (n2 : Int) :
    den (B0.env call 32 Try.f32 [] rec_) 100000 false (bodyOf Try.f32.body) (entryS 0 [.agg [⟨.sl (.one (.sl spanRow)), x0_0⟩, ⟨.bool, x0_1⟩, ⟨.sl (.one (.int .i64)), x0_2⟩, ⟨.sl (.one (.int .i64)), x0_3⟩, ⟨.sl (.one (.sl (.one (.int .i64)))), x0_4⟩], .cell (.sl (.one (.int .i64))) l1 false, .cell (.int .u32) n2 false] S.zero).1 = pos_Pos_may.t call rec_ x0_0 x0_1 x0_2 x0_3 x0_4 l1 n2 := by kernel_rfl
theorem pos_Pos_may.s (k : Nat) (x0_0 : List (List (Int × Int))) (x0_1 : Bool) (x0_2 : List Int) (x0_3 : List Int) (x0_4 : List (List Int)) (l1 : List Int) (n2 : Int) : pos_Pos_may.C (B0.call (k + 1)) x0_0 x0_1 x0_2 x0_3 x0_4 l1 n2 = pos_Pos_may.t (B0.call k) (pos_Pos_may.R (B0.call k) k) x0_0 x0_1 x0_2 x0_3 x0_4 l1 n2 :=
  (call_eq B0 rfl Try.func32 (by kernel_rfl) k _).trans (pos_Pos_may.e _ _ x0_0 x0_1 x0_2 x0_3 x0_4 l1 n2)
theorem pos_Pos_may.e3 (call : B0.Call) (rec_ : B0.Rec 32) (n2 : Int) (x3_0 : List (List (Int × Int))) (x3_1 : Bool) (x3_2 : List Int) (x3_3 : List Int) (x3_4 : List (List Int)) (out7 : List Int) (t10 : List Int) (t11 : Int) (t12 : Int) :
    den (B0.env call 32 Try.f32 [] rec_) 100000 true (stk Try.f32.body 3) (putXs [.t 2, .p 3 [none, none, none, none, none], .o 7 3, .t 10, .t 11, .t 12] [.val (.cell (.int .u32) n2 false), .box [.pl ⟨.sl (.one (.sl spanRow)), x3_0⟩, .pl ⟨.bool, x3_1⟩, .pl ⟨.sl (.one (.int .i64)), x3_2⟩, .pl ⟨.sl (.one (.int .i64)), x3_3⟩, .pl ⟨.sl (.one (.sl (.one (.int .i64)))), x3_4⟩], .own 3 (.sl (.one (.int .i64))) out7, .val (.cell (.sl (.one (.int .i64))) t10 false), .val (.cell (.int .i64) t11 false), .val (.cell (.int .i64) t12 false)] S.zero) = pos_Pos_may.t3 call rec_ n2 x3_0 x3_1 x3_2 x3_3 x3_4 out7 t10 t11 t12 := by kernel_rfl
theorem pos_Pos_may.s3 (call : B0.Call) (j : Nat) (n2 : Int) (x3_0 : List (List (Int × Int))) (x3_1 : Bool) (x3_2 : List Int) (x3_3 : List Int) (x3_4 : List (List Int)) (out7 : List Int) (t10 : List Int) (t11 : Int) (t12 : Int) : pos_Pos_may.l3 (pos_Pos_may.R call (j + 1)) n2 x3_0 x3_1 x3_2 x3_3 x3_4 out7 t10 t11 t12 = pos_Pos_may.t3 call (pos_Pos_may.R call j) n2 x3_0 x3_1 x3_2 x3_3 x3_4 out7 t10 t11 t12 :=
  (goOn_eq B0 (by kernel_rfl) rfl call [] j _).trans (pos_Pos_may.e3 _ _ n2 x3_0 x3_1 x3_2 x3_3 x3_4 out7 t10 t11 t12)
/- 34: slices_ContainsFunc_int_int -/
noncomputable def slices_ContainsFunc_int_int.R (call : B0.Call) (j : Nat) : B0.Rec 34 := B0.goOn call 34 Try.f34 [64] j
noncomputable def slices_ContainsFunc_int_int.t (call : B0.Call) (rec_ : B0.Rec 34) (s0 : List Int) (f1_0_0 : List (List (Int × Int))) (f1_0_1 : Bool) (f1_0_2 : List Int) (f1_0_3 : List Int) (f1_0_4 : List (List Int)) : Option (Bool × (List (List (Int × Int))) × Bool × (List Int) × (List Int) × (List (List Int))) :=
  Option.bind (slices_IndexFunc_int_int.C call s0 f1_0_0 f1_0_1 f1_0_2 f1_0_3 f1_0_4) fun r0 =>
  some ((decide (r0.1 ≥ 0)), (r0.2.1, (r0.2.2.1, (r0.2.2.2.1, (r0.2.2.2.2.1, r0.2.2.2.2.2)))))
theorem slices_ContainsFunc_int_int.e (call : B0.Call) (rec_ : B0.Rec 34) (s0 : List Int) (f1_0_0 : List (List (Int × Int))) (f1_0_1 : Bool) (f1_0_2 : List Int) (f1_0_3 : List Int) (f1_0_4 : List (List Int)) :
    den (B0.env call 34 Try.f34 [64] rec_) 100000 false (bodyOf Try.f34.body) (entryS 0 [.cell (.sl (.one (.int .i64))) s0 true, .fn 35 [.box [.pl ⟨.sl (.one (.sl spanRow)), f1_0_0⟩, .pl ⟨.bool, f1_0_1⟩, .pl ⟨.sl (.one (.int .i64)), f1_0_2⟩, .pl ⟨.sl (.one (.int .i64)), f1_0_3⟩, .pl ⟨.sl (.one (.sl (.one (.int .i64)))), f1_0_4⟩]]] S.zero).1 = slices_ContainsFunc_int_int.t call rec_ s0 f1_0_0 f1_0_1 f1_0_2 f1_0_3 f1_0_4 := by kernel_rfl
theorem slices_ContainsFunc_int_int.s (k : Nat) (s0 : List Int) (f1_0_0 : List (List (Int × Int))) (f1_0_1 : Bool) (f1_0_2 : List Int) (f1_0_3 : List Int) (f1_0_4 : List (List Int)) : slices_ContainsFunc_int_int.C (B0.call (k + 1)) s0 f1_0_0 f1_0_1 f1_0_2 f1_0_3 f1_0_4 = slices_ContainsFunc_int_int.t (B0.call k) (slices_ContainsFunc_int_int.R (B0.call k) k) s0 f1_0_0 f1_0_1 f1_0_2 f1_0_3 f1_0_4 :=
  (call_eq B0 rfl Try.func34 (by kernel_rfl) k _).trans (slices_ContainsFunc_int_int.e _ _ s0 f1_0_0 f1_0_1 f1_0_2 f1_0_3 f1_0_4)
/- 33: pos_with -/
noncomputable def pos_with.R (call : B0.Call) (j : Nat) : B0.Rec 33 := B0.goOn call 33 Try.f33 [] j
noncomputable def pos_with.l3 (rec_ : B0.Rec 33) (out5 : List Int) (t12 : List Int) (t13 : Int) (t14 : Int) : Option (List Int) := rec_ (stk Try.f33.body 3) [.own 3 (.sl (.one (.int .i64))) out5, .val (.cell (.sl (.one (.int .i64))) t12 false), .val (.cell (.int .i64) t13 false), .val (.cell (.int .i64) t14 false)]
noncomputable def pos_with.t (call : B0.Call) (rec_ : B0.Rec 33) (l0 : List Int) (more1 : List Int) : Option (List Int) :=
  Option.bind (slices_Clone_int_int.C call l0) fun r0 =>
  pos_with.l3 rec_ r0 more1 ((List.length more1) : Int) 0
noncomputable def pos_with.t3 (call : B0.Call) (rec_ : B0.Rec 33) (out5 : List Int) (t12 : List Int) (t13 : Int) (t14 : Int) : Option (List Int) :=
  bif (decide (t14 < t13)) then
   Option.bind (idx t12 t14) fun r0 =>
   Option.bind (slices_BinarySearch_int_int.C call out5 r0) fun r1 =>
   bif (!r1.2) then
    Option.bind (slices_Insert_int_int.C call out5 r1.1 (r0 :: [])) fun r2 =>
    pos_with.l3 rec_ r2 t12 t13 (IntKind.wrap .i64 (t14 + 1))
   else
    pos_with.l3 rec_ out5 t12 t13 (IntKind.wrap .i64 (t14 + 1))
  else
   some out5
theorem pos_with.e (call : B0.Call) (rec_ : B0.Rec 33) (l0 : List Int) (more1 : List Int) :
    den (B0.env call 33 Try.f33 [] rec_) 100000 false (bodyOf Try.f33.body) (entryS 0 [.cell (.sl (.one (.int .i64))) l0 false, .cell (.sl (.one (.int .i64))) more1 false] S.zero).1 = pos_with.t call rec_ l0 more1 := by kernel_rfl
theorem pos_with.s (k : Nat) (l0 : List Int) (more1 : List Int) : pos_with.C (B0.call (k + 1)) l0 more1 = pos_with.t (B0.call k) (pos_with.R (B0.call k) k) l0 more1 :=
  (call_eq B0 rfl Try.func33 (by kernel_rfl) k _).trans (pos_with.e _ _ l0 more1)
theorem pos_with.e3 (call : B0.Call) (rec_ : B0.Rec 33) (out5 : List Int) (t12 : List Int) (t13 : Int) (t14 : Int) :
    den (B0.env call 33 Try.f33 [] rec_) 100000 true (stk Try.f33.body 3) (putXs [.o 5 3, .t 12, .t 13, .t 14] [.own 3 (.sl (.one (.int .i64))) out5, .val (.cell (.sl (.one (.int .i64))) t12 false), .val (.cell (.int .i64) t13 false), .val (.cell (.int .i64) t14 false)] S.zero) = pos_with.t3 call rec_ out5 t12 t13 t14 := by kernel_rfl
theorem pos_with.s3 (call : B0.Call) (j : Nat) (out5 : List Int) (t12 : List Int) (t13 : Int) (t14 : Int) : pos_with.l3 (pos_with.R call (j + 1)) out5 t12 t13 t14 = pos_with.t3 call (pos_with.R call j) out5 t12 t13 t14 :=
  (goOn_eq B0 (by kernel_rfl) rfl call [] j _).trans (pos_with.e3 _ _ out5 t12 t13 t14)
/- 37: pat_places_put -/
noncomputable def pat_places_put.R (call : B0.Call) (j : Nat) : B0.Rec 37 := B0.goOn call 37 Try.f37 [0] j
noncomputable def pat_places_put.t (call : B0.Call) (rec_ : B0.Rec 37) (x0_0 : Int) (x0_1 : Int) (x0_2 : Int) (x0_3 : Int) (i1 : Int) : Option (Int × Int × Int × Int) :=
  bif (inB 4 (IntKind.wrap .i64 (Int.tdiv i1 64))) then
   Option.bind (idx (x0_0 :: (x0_1 :: (x0_2 :: (x0_3 :: [])))) (IntKind.wrap .i64 (Int.tdiv i1 64))) fun r0 =>
   bif (decide ((Int.tmod i1 64) < 0)) then
    none
   else
    bif (inB 4 (IntKind.wrap .i64 (Int.tdiv i1 64))) then
     some ((bif ((IntKind.wrap .i64 (Int.tdiv i1 64)) == (0 : Int)) then (orI .u64 r0 (shlI .u64 1 (Int.tmod i1 64))) else x0_0), ((bif ((IntKind.wrap .i64 (Int.tdiv i1 64)) == ((0 + 1) : Int)) then (orI .u64 r0 (shlI .u64 1 (Int.tmod i1 64))) else x0_1), ((bif ((IntKind.wrap .i64 (Int.tdiv i1 64)) == (((0 + 1) + 1) : Int)) then (orI .u64 r0 (shlI .u64 1 (Int.tmod i1 64))) else x0_2), (bif ((IntKind.wrap .i64 (Int.tdiv i1 64)) == ((((0 + 1) + 1) + 1) : Int)) then (orI .u64 r0 (shlI .u64 1 (Int.tmod i1 64))) else x0_3))))
    else
     none
  else
   none
theorem pat_places_put.e (call : B0.Call) (rec_ : B0.Rec 37) (x0_0 : Int) (x0_1 : Int) (x0_2 : Int) (x0_3 : Int) (i1 : Int) :
    den (B0.env call 37 Try.f37 [0] rec_) 100000 false (bodyOf Try.f37.body) (entryS 0 [.box [.pl ⟨.int .u64, x0_0⟩, .pl ⟨.int .u64, x0_1⟩, .pl ⟨.int .u64, x0_2⟩, .pl ⟨.int .u64, x0_3⟩], .cell (.int .i64) i1 false] S.zero).1 = pat_places_put.t call rec_ x0_0 x0_1 x0_2 x0_3 i1 := by kernel_rfl
theorem pat_places_put.s (k : Nat) (x0_0 : Int) (x0_1 : Int) (x0_2 : Int) (x0_3 : Int) (i1 : Int) : pat_places_put.C (B0.call (k + 1)) x0_0 x0_1 x0_2 x0_3 i1 = pat_places_put.t (B0.call k) (pat_places_put.R (B0.call k) k) x0_0 x0_1 x0_2 x0_3 i1 :=
  (call_eq B0 rfl Try.func37 (by kernel_rfl) k _).trans (pat_places_put.e _ _ x0_0 x0_1 x0_2 x0_3 i1)
end Go.Proofs.Ytoifbdaaiejbnaa.D
/- What functions come to. Printed by dp.py. -/
set_option maxRecDepth 100000
namespace Go.Proofs.Ytoifbdaaiejbnaa.D
open Go
/- 38: pat_ends -/
noncomputable def pat_ends.R (call : B0.Call) (j : Nat) : B0.Rec 38 := B0.goOn call 38 Try.f38 [] j
noncomputable def pat_ends.l25 (rec_ : B0.Rec 38) (path1 : List Int) (p3_0 : Int) (p3_1 : List (Int × Int)) (p3_2 : List Pat) (t6_0 : Int) (t6_1 : Int) (t6_2 : Int) (t6_3 : Int) (out7_0 : Int) (out7_1 : Int) (out7_2 : Int) (out7_3 : Int) : Option (Int × Int × Int × Int) := rec_ (stk Try.f38.body 25) [.val (.cell (.sl (.one (.int .u32))) path1 false), .box [.pl ⟨.int .i64, p3_0⟩, .pl ⟨.sl spanRow, p3_1⟩, .pl ⟨.pats, p3_2⟩], .box [.pl ⟨.int .u64, t6_0⟩, .pl ⟨.int .u64, t6_1⟩, .pl ⟨.int .u64, t6_2⟩, .pl ⟨.int .u64, t6_3⟩], .box [.pl ⟨.int .u64, out7_0⟩, .pl ⟨.int .u64, out7_1⟩, .pl ⟨.int .u64, out7_2⟩, .pl ⟨.int .u64, out7_3⟩]]
noncomputable def pat_ends.l19 (rec_ : B0.Rec 38) (path1 : List Int) (at5_0 : Int) (at5_1 : Int) (at5_2 : Int) (at5_3 : Int) (t6_0 : Int) (t6_1 : Int) (t6_2 : Int) (t6_3 : Int) (out7_0 : Int) (out7_1 : Int) (out7_2 : Int) (out7_3 : Int) (t57 : List Pat) (t58 : Int) (t59 : Int) : Option (Int × Int × Int × Int) := rec_ (stk Try.f38.body 19) [.val (.cell (.sl (.one (.int .u32))) path1 false), .box [.pl ⟨.int .u64, at5_0⟩, .pl ⟨.int .u64, at5_1⟩, .pl ⟨.int .u64, at5_2⟩, .pl ⟨.int .u64, at5_3⟩], .box [.pl ⟨.int .u64, t6_0⟩, .pl ⟨.int .u64, t6_1⟩, .pl ⟨.int .u64, t6_2⟩, .pl ⟨.int .u64, t6_3⟩], .box [.pl ⟨.int .u64, out7_0⟩, .pl ⟨.int .u64, out7_1⟩, .pl ⟨.int .u64, out7_2⟩, .pl ⟨.int .u64, out7_3⟩], .val (.cell (.pats) t57 false), .val (.cell (.int .i64) t58 false), .val (.cell (.int .i64) t59 false)]
noncomputable def pat_ends.l13 (rec_ : B0.Rec 38) (path1 : List Int) (t6_0 : Int) (t6_1 : Int) (t6_2 : Int) (t6_3 : Int) (out7_0 : Int) (out7_1 : Int) (out7_2 : Int) (out7_3 : Int) (t43 : List Pat) (t44 : Int) (t45 : Int) : Option (Int × Int × Int × Int) := rec_ (stk Try.f38.body 13) [.val (.cell (.sl (.one (.int .u32))) path1 false), .box [.pl ⟨.int .u64, t6_0⟩, .pl ⟨.int .u64, t6_1⟩, .pl ⟨.int .u64, t6_2⟩, .pl ⟨.int .u64, t6_3⟩], .box [.pl ⟨.int .u64, out7_0⟩, .pl ⟨.int .u64, out7_1⟩, .pl ⟨.int .u64, out7_2⟩, .pl ⟨.int .u64, out7_3⟩], .val (.cell (.pats) t43 false), .val (.cell (.int .i64) t44 false), .val (.cell (.int .i64) t45 false)]
noncomputable def pat_ends.l5 (rec_ : B0.Rec 38) (p3_0 : Int) (p3_1 : List (Int × Int)) (p3_2 : List Pat) (at5_0 : Int) (at5_1 : Int) (at5_2 : Int) (at5_3 : Int) (t6_0 : Int) (t6_1 : Int) (t6_2 : Int) (t6_3 : Int) (out7_0 : Int) (out7_1 : Int) (out7_2 : Int) (out7_3 : Int) (t19 : List Int) (t20 : Int) (t21 : Int) : Option (Int × Int × Int × Int) := rec_ (stk Try.f38.body 5) [.box [.pl ⟨.int .i64, p3_0⟩, .pl ⟨.sl spanRow, p3_1⟩, .pl ⟨.pats, p3_2⟩], .box [.pl ⟨.int .u64, at5_0⟩, .pl ⟨.int .u64, at5_1⟩, .pl ⟨.int .u64, at5_2⟩, .pl ⟨.int .u64, at5_3⟩], .box [.pl ⟨.int .u64, t6_0⟩, .pl ⟨.int .u64, t6_1⟩, .pl ⟨.int .u64, t6_2⟩, .pl ⟨.int .u64, t6_3⟩], .box [.pl ⟨.int .u64, out7_0⟩, .pl ⟨.int .u64, out7_1⟩, .pl ⟨.int .u64, out7_2⟩, .pl ⟨.int .u64, out7_3⟩], .val (.cell (.sl (.one (.int .u32))) t19 false), .val (.cell (.int .i64) t20 false), .val (.cell (.int .i64) t21 false)]
noncomputable def pat_ends.t (call : B0.Call) (rec_ : B0.Rec 38) (p0_0 : Int) (p0_1 : List (Int × Int)) (p0_2 : List Pat) (path1 : List Int) (at2_0 : Int) (at2_1 : Int) (at2_2 : Int) (at2_3 : Int) : Option (Int × Int × Int × Int) :=
  bif (p0_0 == 1) then
   pat_ends.l5 rec_ p0_0 p0_1 p0_2 at2_0 at2_1 at2_2 at2_3 0 0 0 0 0 0 0 0 path1 ((List.length path1) : Int) 0
  else
   bif (p0_0 == 2) then
    pat_ends.l13 rec_ path1 0 0 0 0 at2_0 at2_1 at2_2 at2_3 p0_2 ((List.length p0_2) : Int) 0
   else
    bif (p0_0 == 3) then
     pat_ends.l19 rec_ path1 at2_0 at2_1 at2_2 at2_3 0 0 0 0 0 0 0 0 p0_2 ((List.length p0_2) : Int) 0
    else
     bif (p0_0 == 4) then
      pat_ends.l25 rec_ path1 p0_0 p0_1 p0_2 0 0 0 0 at2_0 at2_1 at2_2 at2_3
     else
      some (0, (0, (0, 0)))
noncomputable def pat_ends.t25 (call : B0.Call) (rec_ : B0.Rec 38) (path1 : List Int) (p3_0 : Int) (p3_1 : List (Int × Int)) (p3_2 : List Pat) (t6_0 : Int) (t6_1 : Int) (t6_2 : Int) (t6_3 : Int) (out7_0 : Int) (out7_1 : Int) (out7_2 : Int) (out7_3 : Int) : Option (Int × Int × Int × Int) :=
  Option.bind (idx p3_2 0) fun r0 =>
  Option.bind (pat_ends.C call r0.kind r0.set r0.subs path1 out7_0 out7_1 out7_2 out7_3) fun r1 =>
  Option.bind (pat_places_with.C call out7_0 out7_1 out7_2 out7_3 r1.1 r1.2.1 r1.2.2.1 r1.2.2.2) fun r2 =>
  bif ((eqI r2.1 out7_0) && ((eqI r2.2.1 out7_1) && ((eqI r2.2.2.1 out7_2) && ((eqI r2.2.2.2 out7_3) && true)))) then
   some (out7_0, (out7_1, (out7_2, out7_3)))
  else
   pat_ends.l25 rec_ path1 p3_0 p3_1 p3_2 t6_0 t6_1 t6_2 t6_3 r2.1 r2.2.1 r2.2.2.1 r2.2.2.2
noncomputable def pat_ends.t19 (call : B0.Call) (rec_ : B0.Rec 38) (path1 : List Int) (at5_0 : Int) (at5_1 : Int) (at5_2 : Int) (at5_3 : Int) (t6_0 : Int) (t6_1 : Int) (t6_2 : Int) (t6_3 : Int) (out7_0 : Int) (out7_1 : Int) (out7_2 : Int) (out7_3 : Int) (t57 : List Pat) (t58 : Int) (t59 : Int) : Option (Int × Int × Int × Int) :=
  bif (decide (t59 < t58)) then
   Option.bind (idx t57 t59) fun r0 =>
   Option.bind (pat_ends.C call r0.kind r0.set r0.subs path1 at5_0 at5_1 at5_2 at5_3) fun r1 =>
   Option.bind (pat_places_with.C call out7_0 out7_1 out7_2 out7_3 r1.1 r1.2.1 r1.2.2.1 r1.2.2.2) fun r2 =>
   pat_ends.l19 rec_ path1 at5_0 at5_1 at5_2 at5_3 t6_0 t6_1 t6_2 t6_3 r2.1 r2.2.1 r2.2.2.1 r2.2.2.2 t57 t58 (IntKind.wrap .i64 (t59 + 1))
  else
   some (out7_0, (out7_1, (out7_2, out7_3)))
noncomputable def pat_ends.t13 (call : B0.Call) (rec_ : B0.Rec 38) (path1 : List Int) (t6_0 : Int) (t6_1 : Int) (t6_2 : Int) (t6_3 : Int) (out7_0 : Int) (out7_1 : Int) (out7_2 : Int) (out7_3 : Int) (t43 : List Pat) (t44 : Int) (t45 : Int) : Option (Int × Int × Int × Int) :=
  bif (decide (t45 < t44)) then
   Option.bind (idx t43 t45) fun r0 =>
   Option.bind (pat_ends.C call r0.kind r0.set r0.subs path1 out7_0 out7_1 out7_2 out7_3) fun r1 =>
   pat_ends.l13 rec_ path1 t6_0 t6_1 t6_2 t6_3 r1.1 r1.2.1 r1.2.2.1 r1.2.2.2 t43 t44 (IntKind.wrap .i64 (t45 + 1))
  else
   some (out7_0, (out7_1, (out7_2, out7_3)))
noncomputable def pat_ends.t5 (call : B0.Call) (rec_ : B0.Rec 38) (p3_0 : Int) (p3_1 : List (Int × Int)) (p3_2 : List Pat) (at5_0 : Int) (at5_1 : Int) (at5_2 : Int) (at5_3 : Int) (t6_0 : Int) (t6_1 : Int) (t6_2 : Int) (t6_3 : Int) (out7_0 : Int) (out7_1 : Int) (out7_2 : Int) (out7_3 : Int) (t19 : List Int) (t20 : Int) (t21 : Int) : Option (Int × Int × Int × Int) :=
  bif (decide (t21 < t20)) then
   Option.bind (idx t19 t21) fun r0 =>
   Option.bind (pat_places_has.C call at5_0 at5_1 at5_2 at5_3 t21) fun r1 =>
   bif r1 then
    Option.bind (span_In.C call p3_1 r0) fun r2 =>
    bif r2 then
     Option.bind (pat_places_put.C call out7_0 out7_1 out7_2 out7_3 (IntKind.wrap .i64 (t21 + 1))) fun r3 =>
     pat_ends.l5 rec_ p3_0 p3_1 p3_2 at5_0 at5_1 at5_2 at5_3 t6_0 t6_1 t6_2 t6_3 r3.1 r3.2.1 r3.2.2.1 r3.2.2.2 t19 t20 (IntKind.wrap .i64 (t21 + 1))
    else
     pat_ends.l5 rec_ p3_0 p3_1 p3_2 at5_0 at5_1 at5_2 at5_3 t6_0 t6_1 t6_2 t6_3 out7_0 out7_1 out7_2 out7_3 t19 t20 (IntKind.wrap .i64 (t21 + 1))
   else
    pat_ends.l5 rec_ p3_0 p3_1 p3_2 at5_0 at5_1 at5_2 at5_3 t6_0 t6_1 t6_2 t6_3 out7_0 out7_1 out7_2 out7_3 t19 t20 (IntKind.wrap .i64 (t21 + 1))
  else
   some (out7_0, (out7_1, (out7_2, out7_3)))
theorem pat_ends.e (call : B0.Call) (rec_ : B0.Rec 38) (p0_0 : Int) (p0_1 : List (Int × Int)) (p0_2 : List Pat) (path1 : List Int) (at2_0 : Int) (at2_1 : Int) (at2_2 : Int) (at2_3 : Int) :
    den (B0.env call 38 Try.f38 [] rec_) 100000 false (bodyOf Try.f38.body) (entryS 0 [.agg [⟨.int .i64, p0_0⟩, ⟨.sl spanRow, p0_1⟩, ⟨.pats, p0_2⟩], .cell (.sl (.one (.int .u32))) path1 false, .agg [⟨.int .u64, at2_0⟩, ⟨.int .u64, at2_1⟩, ⟨.int .u64, at2_2⟩, ⟨.int .u64, at2_3⟩]] S.zero).1 = pat_ends.t call rec_ p0_0 p0_1 p0_2 path1 at2_0 at2_1 at2_2 at2_3 := by kernel_rfl
theorem pat_ends.s (k : Nat) (p0_0 : Int) (p0_1 : List (Int × Int)) (p0_2 : List Pat) (path1 : List Int) (at2_0 : Int) (at2_1 : Int) (at2_2 : Int) (at2_3 : Int) : pat_ends.C (B0.call (k + 1)) p0_0 p0_1 p0_2 path1 at2_0 at2_1 at2_2 at2_3 = pat_ends.t (B0.call k) (pat_ends.R (B0.call k) k) p0_0 p0_1 p0_2 path1 at2_0 at2_1 at2_2 at2_3 :=
  (call_eq B0 rfl Try.func38 (by kernel_rfl) k _).trans (pat_ends.e _ _ p0_0 p0_1 p0_2 path1 at2_0 at2_1 at2_2 at2_3)
theorem pat_ends.e25 (call : B0.Call) (rec_ : B0.Rec 38) (path1 : List Int) (p3_0 : Int) (p3_1 : List (Int × Int)) (p3_2 : List Pat) (t6_0 : Int) (t6_1 : Int) (t6_2 : Int) (t6_3 : Int) (out7_0 : Int) (out7_1 : Int) (out7_2 : Int) (out7_3 : Int) :
    den (B0.env call 38 Try.f38 [] rec_) 100000 true (stk Try.f38.body 25) (putXs [.t 1, .p 3 [none, none, none], .p 6 [none, none, none, none], .p 7 [none, none, none, none]] [.val (.cell (.sl (.one (.int .u32))) path1 false), .box [.pl ⟨.int .i64, p3_0⟩, .pl ⟨.sl spanRow, p3_1⟩, .pl ⟨.pats, p3_2⟩], .box [.pl ⟨.int .u64, t6_0⟩, .pl ⟨.int .u64, t6_1⟩, .pl ⟨.int .u64, t6_2⟩, .pl ⟨.int .u64, t6_3⟩], .box [.pl ⟨.int .u64, out7_0⟩, .pl ⟨.int .u64, out7_1⟩, .pl ⟨.int .u64, out7_2⟩, .pl ⟨.int .u64, out7_3⟩]] S.zero) = pat_ends.t25 call rec_ path1 p3_0 p3_1 p3_2 t6_0 t6_1 t6_2 t6_3 out7_0 out7_1 out7_2 out7_3 := by kernel_rfl
theorem pat_ends.s25 (call : B0.Call) (j : Nat) (path1 : List Int) (p3_0 : Int) (p3_1 : List (Int × Int)) (p3_2 : List Pat) (t6_0 : Int) (t6_1 : Int) (t6_2 : Int) (t6_3 : Int) (out7_0 : Int) (out7_1 : Int) (out7_2 : Int) (out7_3 : Int) : pat_ends.l25 (pat_ends.R call (j + 1)) path1 p3_0 p3_1 p3_2 t6_0 t6_1 t6_2 t6_3 out7_0 out7_1 out7_2 out7_3 = pat_ends.t25 call (pat_ends.R call j) path1 p3_0 p3_1 p3_2 t6_0 t6_1 t6_2 t6_3 out7_0 out7_1 out7_2 out7_3 :=
  (goOn_eq B0 (by kernel_rfl) rfl call [] j _).trans (pat_ends.e25 _ _ path1 p3_0 p3_1 p3_2 t6_0 t6_1 t6_2 t6_3 out7_0 out7_1 out7_2 out7_3)
theorem pat_ends.e19 (call : B0.Call) (rec_ : B0.Rec 38) (path1 : List Int) (at5_0 : Int) (at5_1 : Int) (at5_2 : Int) (at5_3 : Int) (t6_0 : Int) (t6_1 : Int) (t6_2 : Int) (t6_3 : Int) (out7_0 : Int) (out7_1 : Int) (out7_2 : Int) (out7_3 : Int) (t57 : List Pat) (t58 : Int) (t59 : Int) :
    den (B0.env call 38 Try.f38 [] rec_) 100000 true (stk Try.f38.body 19) (putXs [.t 1, .p 5 [none, none, none, none], .p 6 [none, none, none, none], .p 7 [none, none, none, none], .t 57, .t 58, .t 59] [.val (.cell (.sl (.one (.int .u32))) path1 false), .box [.pl ⟨.int .u64, at5_0⟩, .pl ⟨.int .u64, at5_1⟩, .pl ⟨.int .u64, at5_2⟩, .pl ⟨.int .u64, at5_3⟩], .box [.pl ⟨.int .u64, t6_0⟩, .pl ⟨.int .u64, t6_1⟩, .pl ⟨.int .u64, t6_2⟩, .pl ⟨.int .u64, t6_3⟩], .box [.pl ⟨.int .u64, out7_0⟩, .pl ⟨.int .u64, out7_1⟩, .pl ⟨.int .u64, out7_2⟩, .pl ⟨.int .u64, out7_3⟩], .val (.cell (.pats) t57 false), .val (.cell (.int .i64) t58 false), .val (.cell (.int .i64) t59 false)] S.zero) = pat_ends.t19 call rec_ path1 at5_0 at5_1 at5_2 at5_3 t6_0 t6_1 t6_2 t6_3 out7_0 out7_1 out7_2 out7_3 t57 t58 t59 := by kernel_rfl
theorem pat_ends.s19 (call : B0.Call) (j : Nat) (path1 : List Int) (at5_0 : Int) (at5_1 : Int) (at5_2 : Int) (at5_3 : Int) (t6_0 : Int) (t6_1 : Int) (t6_2 : Int) (t6_3 : Int) (out7_0 : Int) (out7_1 : Int) (out7_2 : Int) (out7_3 : Int) (t57 : List Pat) (t58 : Int) (t59 : Int) : pat_ends.l19 (pat_ends.R call (j + 1)) path1 at5_0 at5_1 at5_2 at5_3 t6_0 t6_1 t6_2 t6_3 out7_0 out7_1 out7_2 out7_3 t57 t58 t59 = pat_ends.t19 call (pat_ends.R call j) path1 at5_0 at5_1 at5_2 at5_3 t6_0 t6_1 t6_2 t6_3 out7_0 out7_1 out7_2 out7_3 t57 t58 t59 :=
  (goOn_eq B0 (by kernel_rfl) rfl call [] j _).trans (pat_ends.e19 _ _ path1 at5_0 at5_1 at5_2 at5_3 t6_0 t6_1 t6_2 t6_3 out7_0 out7_1 out7_2 out7_3 t57 t58 t59)
theorem pat_ends.e13 (call : B0.Call) (rec_ : B0.Rec 38) (path1 : List Int) (t6_0 : Int) (t6_1 : Int) (t6_2 : Int) (t6_3 : Int) (out7_0 : Int) (out7_1 : Int) (out7_2 : Int) (out7_3 : Int) (t43 : List Pat) (t44 : Int) (t45 : Int) :
    den (B0.env call 38 Try.f38 [] rec_) 100000 true (stk Try.f38.body 13) (putXs [.t 1, .p 6 [none, none, none, none], .p 7 [none, none, none, none], .t 43, .t 44, .t 45] [.val (.cell (.sl (.one (.int .u32))) path1 false), .box [.pl ⟨.int .u64, t6_0⟩, .pl ⟨.int .u64, t6_1⟩, .pl ⟨.int .u64, t6_2⟩, .pl ⟨.int .u64, t6_3⟩], .box [.pl ⟨.int .u64, out7_0⟩, .pl ⟨.int .u64, out7_1⟩, .pl ⟨.int .u64, out7_2⟩, .pl ⟨.int .u64, out7_3⟩], .val (.cell (.pats) t43 false), .val (.cell (.int .i64) t44 false), .val (.cell (.int .i64) t45 false)] S.zero) = pat_ends.t13 call rec_ path1 t6_0 t6_1 t6_2 t6_3 out7_0 out7_1 out7_2 out7_3 t43 t44 t45 := by kernel_rfl
theorem pat_ends.s13 (call : B0.Call) (j : Nat) (path1 : List Int) (t6_0 : Int) (t6_1 : Int) (t6_2 : Int) (t6_3 : Int) (out7_0 : Int) (out7_1 : Int) (out7_2 : Int) (out7_3 : Int) (t43 : List Pat) (t44 : Int) (t45 : Int) : pat_ends.l13 (pat_ends.R call (j + 1)) path1 t6_0 t6_1 t6_2 t6_3 out7_0 out7_1 out7_2 out7_3 t43 t44 t45 = pat_ends.t13 call (pat_ends.R call j) path1 t6_0 t6_1 t6_2 t6_3 out7_0 out7_1 out7_2 out7_3 t43 t44 t45 :=
  (goOn_eq B0 (by kernel_rfl) rfl call [] j _).trans (pat_ends.e13 _ _ path1 t6_0 t6_1 t6_2 t6_3 out7_0 out7_1 out7_2 out7_3 t43 t44 t45)
theorem pat_ends.e5 (call : B0.Call) (rec_ : B0.Rec 38) (p3_0 : Int) (p3_1 : List (Int × Int)) (p3_2 : List Pat) (at5_0 : Int) (at5_1 : Int) (at5_2 : Int) (at5_3 : Int) (t6_0 : Int) (t6_1 : Int) (t6_2 : Int) (t6_3 : Int) (out7_0 : Int) (out7_1 : Int) (out7_2 : Int) (out7_3 : Int) (t19 : List Int) (t20 : Int) (t21 : Int) :
    den (B0.env call 38 Try.f38 [] rec_) 100000 true (stk Try.f38.body 5) (putXs [.p 3 [none, none, none], .p 5 [none, none, none, none], .p 6 [none, none, none, none], .p 7 [none, none, none, none], .t 19, .t 20, .t 21] [.box [.pl ⟨.int .i64, p3_0⟩, .pl ⟨.sl spanRow, p3_1⟩, .pl ⟨.pats, p3_2⟩], .box [.pl ⟨.int .u64, at5_0⟩, .pl ⟨.int .u64, at5_1⟩, .pl ⟨.int .u64, at5_2⟩, .pl ⟨.int .u64, at5_3⟩], .box [.pl ⟨.int .u64, t6_0⟩, .pl ⟨.int .u64, t6_1⟩, .pl ⟨.int .u64, t6_2⟩, .pl ⟨.int .u64, t6_3⟩], .box [.pl ⟨.int .u64, out7_0⟩, .pl ⟨.int .u64, out7_1⟩, .pl ⟨.int .u64, out7_2⟩, .pl ⟨.int .u64, out7_3⟩], .val (.cell (.sl (.one (.int .u32))) t19 false), .val (.cell (.int .i64) t20 false), .val (.cell (.int .i64) t21 false)] S.zero) = pat_ends.t5 call rec_ p3_0 p3_1 p3_2 at5_0 at5_1 at5_2 at5_3 t6_0 t6_1 t6_2 t6_3 out7_0 out7_1 out7_2 out7_3 t19 t20 t21 := by kernel_rfl
theorem pat_ends.s5 (call : B0.Call) (j : Nat) (p3_0 : Int) (p3_1 : List (Int × Int)) (p3_2 : List Pat) (at5_0 : Int) (at5_1 : Int) (at5_2 : Int) (at5_3 : Int) (t6_0 : Int) (t6_1 : Int) (t6_2 : Int) (t6_3 : Int) (out7_0 : Int) (out7_1 : Int) (out7_2 : Int) (out7_3 : Int) (t19 : List Int) (t20 : Int) (t21 : Int) : pat_ends.l5 (pat_ends.R call (j + 1)) p3_0 p3_1 p3_2 at5_0 at5_1 at5_2 at5_3 t6_0 t6_1 t6_2 t6_3 out7_0 out7_1 out7_2 out7_3 t19 t20 t21 = pat_ends.t5 call (pat_ends.R call j) p3_0 p3_1 p3_2 at5_0 at5_1 at5_2 at5_3 t6_0 t6_1 t6_2 t6_3 out7_0 out7_1 out7_2 out7_3 t19 t20 t21 :=
  (goOn_eq B0 (by kernel_rfl) rfl call [] j _).trans (pat_ends.e5 _ _ p3_0 p3_1 p3_2 at5_0 at5_1 at5_2 at5_3 t6_0 t6_1 t6_2 t6_3 out7_0 out7_1 out7_2 out7_3 t19 t20 t21)
/- 39: pat_places_has -/
noncomputable def pat_places_has.R (call : B0.Call) (j : Nat) : B0.Rec 39 := B0.goOn call 39 Try.f39 [] j
noncomputable def pat_places_has.t (call : B0.Call) (rec_ : B0.Rec 39) (x0_0 : Int) (x0_1 : Int) (x0_2 : Int) (x0_3 : Int) (i1 : Int) : Option Bool :=
  bif (inB 4 (IntKind.wrap .i64 (Int.tdiv i1 64))) then
   Option.bind (idx (x0_0 :: (x0_1 :: (x0_2 :: (x0_3 :: [])))) (IntKind.wrap .i64 (Int.tdiv i1 64))) fun r0 =>
   bif (decide ((Int.tmod i1 64) < 0)) then
    none
   else
    some ((andI .u64 (shrI .u64 r0 (Int.tmod i1 64)) 1) == 1)
  else
   none
theorem pat_places_has.e (call : B0.Call) (rec_ : B0.Rec 39) (x0_0 : Int) (x0_1 : Int) (x0_2 : Int) (x0_3 : Int) (i1 : Int) :
    den (B0.env call 39 Try.f39 [] rec_) 100000 false (bodyOf Try.f39.body) (entryS 0 [.agg [⟨.int .u64, x0_0⟩, ⟨.int .u64, x0_1⟩, ⟨.int .u64, x0_2⟩, ⟨.int .u64, x0_3⟩], .cell (.int .i64) i1 false] S.zero).1 = pat_places_has.t call rec_ x0_0 x0_1 x0_2 x0_3 i1 := by kernel_rfl
theorem pat_places_has.s (k : Nat) (x0_0 : Int) (x0_1 : Int) (x0_2 : Int) (x0_3 : Int) (i1 : Int) : pat_places_has.C (B0.call (k + 1)) x0_0 x0_1 x0_2 x0_3 i1 = pat_places_has.t (B0.call k) (pat_places_has.R (B0.call k) k) x0_0 x0_1 x0_2 x0_3 i1 :=
  (call_eq B0 rfl Try.func39 (by kernel_rfl) k _).trans (pat_places_has.e _ _ x0_0 x0_1 x0_2 x0_3 i1)
/- 40: span_Norm -/
noncomputable def span_Norm.R (call : B0.Call) (j : Nat) : B0.Rec 40 := B0.goOn call 40 Try.f40 [] j
noncomputable def span_Norm.l3 (rec_ : B0.Rec 40) (some3 : List (Int × Int)) (t10 : List (Int × Int)) (t11 : Int) (t12 : Int) : Option (List (Int × Int)) := rec_ (stk Try.f40.body 3) [.own 80 (.sl spanRow) some3, .val (.cell (.sl spanRow) t10 false), .val (.cell (.int .i64) t11 false), .val (.cell (.int .i64) t12 false)]
noncomputable def span_Norm.l11 (rec_ : B0.Rec 40) (out6 : List (Int × Int)) (t28 : List (Int × Int)) (t29 : Int) (t30 : Int) : Option (List (Int × Int)) := rec_ (stk Try.f40.body 11) [.own 80 (.sl spanRow) out6, .own 80 (.sl spanRow) t28, .val (.cell (.int .i64) t29 false), .val (.cell (.int .i64) t30 false)]
noncomputable def span_Norm.t (call : B0.Call) (rec_ : B0.Rec 40) (l0 : List (Int × Int)) : Option (List (Int × Int)) :=
  span_Norm.l3 rec_ [] l0 ((List.length l0) : Int) 0
noncomputable def span_Norm.t3 (call : B0.Call) (rec_ : B0.Rec 40) (some3 : List (Int × Int)) (t10 : List (Int × Int)) (t11 : Int) (t12 : Int) : Option (List (Int × Int)) :=
  bif (decide (t12 < t11)) then
   Option.bind (idx t10 t12) fun r0 =>
   bif (decide (r0.1 ≤ r0.2)) then
    bif ((room ((List.length some3) + (List.length ((r0.1, r0.2) :: []))) 8) && (((true && true) && true) && true)) then
     span_Norm.l3 rec_ (some3 ++ ((r0.1, r0.2) :: [])) t10 t11 (IntKind.wrap .i64 (t12 + 1))
    else
     none
   else
    span_Norm.l3 rec_ some3 t10 t11 (IntKind.wrap .i64 (t12 + 1))
  else
   Option.bind (sortSpan some3) fun r0 =>
   span_Norm.l11 rec_ [] r0 ((List.length r0) : Int) 0
noncomputable def span_Norm.t11 (call : B0.Call) (rec_ : B0.Rec 40) (out6 : List (Int × Int)) (t28 : List (Int × Int)) (t29 : Int) (t30 : Int) : Option (List (Int × Int)) :=
  bif (decide (t30 < t29)) then
   bif (inB (List.length t28) t30) then
    Option.bind (idx t28 t30) fun r0 =>
    bif (decide (((List.length out6) : Int) > 0)) then
     bif (inB (List.length out6) (IntKind.wrap .i64 (((List.length out6) : Int) - 1))) then
      Option.bind (idx out6 (IntKind.wrap .i64 (((List.length out6) : Int) - 1))) fun r1 =>
      bif (r1.2 == 4294967295) then
       bif (inB (List.length out6) (IntKind.wrap .i64 (((List.length out6) : Int) - 1))) then
        Option.bind (idx out6 (IntKind.wrap .i64 (((List.length out6) : Int) - 1))) fun r2 =>
        bif (inB (List.length out6) (IntKind.wrap .i64 (((List.length out6) : Int) - 1))) then
         Option.bind (idx out6 (IntKind.wrap .i64 (((List.length out6) : Int) - 1))) fun r3 =>
         span_Norm.l11 rec_ (List.set out6 (Int.toNat (IntKind.wrap .i64 (((List.length out6) : Int) - 1))) (r3.1, (maxI r2.2 r0.2))) t28 t29 (IntKind.wrap .i64 (t30 + 1))
        else
         none
       else
        none
      else
       bif (inB (List.length out6) (IntKind.wrap .i64 (((List.length out6) : Int) - 1))) then
        Option.bind (idx out6 (IntKind.wrap .i64 (((List.length out6) : Int) - 1))) fun r2 =>
        bif (decide (r0.1 ≤ (IntKind.wrap .u32 (r2.2 + 1)))) then
         bif (inB (List.length out6) (IntKind.wrap .i64 (((List.length out6) : Int) - 1))) then
          Option.bind (idx out6 (IntKind.wrap .i64 (((List.length out6) : Int) - 1))) fun r3 =>
          bif (inB (List.length out6) (IntKind.wrap .i64 (((List.length out6) : Int) - 1))) then
           Option.bind (idx out6 (IntKind.wrap .i64 (((List.length out6) : Int) - 1))) fun r4 =>
           span_Norm.l11 rec_ (List.set out6 (Int.toNat (IntKind.wrap .i64 (((List.length out6) : Int) - 1))) (r4.1, (maxI r3.2 r0.2))) t28 t29 (IntKind.wrap .i64 (t30 + 1))
          else
           none
         else
          none
        else
         bif ((room ((List.length out6) + (List.length ((r0.1, r0.2) :: []))) 8) && (((true && true) && true) && true)) then
          span_Norm.l11 rec_ (out6 ++ ((r0.1, r0.2) :: [])) t28 t29 (IntKind.wrap .i64 (t30 + 1))
         else
          none
       else
        none
     else
      none
    else
     bif ((room ((List.length out6) + (List.length ((r0.1, r0.2) :: []))) 8) && (((true && true) && true) && true)) then
      span_Norm.l11 rec_ (out6 ++ ((r0.1, r0.2) :: [])) t28 t29 (IntKind.wrap .i64 (t30 + 1))
     else
      none
   else
    none
  else
   some out6
theorem span_Norm.e (call : B0.Call) (rec_ : B0.Rec 40) (l0 : List (Int × Int)) :
    den (B0.env call 40 Try.f40 [] rec_) 100000 false (bodyOf Try.f40.body) (entryS 0 [.cell (.sl spanRow) l0 false] S.zero).1 = span_Norm.t call rec_ l0 := by kernel_rfl
theorem span_Norm.s (k : Nat) (l0 : List (Int × Int)) : span_Norm.C (B0.call (k + 1)) l0 = span_Norm.t (B0.call k) (span_Norm.R (B0.call k) k) l0 :=
  (call_eq B0 rfl Try.func40 (by kernel_rfl) k _).trans (span_Norm.e _ _ l0)
theorem span_Norm.e3 (call : B0.Call) (rec_ : B0.Rec 40) (some3 : List (Int × Int)) (t10 : List (Int × Int)) (t11 : Int) (t12 : Int) :
    den (B0.env call 40 Try.f40 [] rec_) 100000 true (stk Try.f40.body 3) (putXs [.o 3 80, .t 10, .t 11, .t 12] [.own 80 (.sl spanRow) some3, .val (.cell (.sl spanRow) t10 false), .val (.cell (.int .i64) t11 false), .val (.cell (.int .i64) t12 false)] S.zero) = span_Norm.t3 call rec_ some3 t10 t11 t12 := by kernel_rfl
theorem span_Norm.s3 (call : B0.Call) (j : Nat) (some3 : List (Int × Int)) (t10 : List (Int × Int)) (t11 : Int) (t12 : Int) : span_Norm.l3 (span_Norm.R call (j + 1)) some3 t10 t11 t12 = span_Norm.t3 call (span_Norm.R call j) some3 t10 t11 t12 :=
  (goOn_eq B0 (by kernel_rfl) rfl call [] j _).trans (span_Norm.e3 _ _ some3 t10 t11 t12)
theorem span_Norm.e11 (call : B0.Call) (rec_ : B0.Rec 40) (out6 : List (Int × Int)) (t28 : List (Int × Int)) (t29 : Int) (t30 : Int) :
    den (B0.env call 40 Try.f40 [] rec_) 100000 true (stk Try.f40.body 11) (putXs [.o 6 80, .o 28 80, .t 29, .t 30] [.own 80 (.sl spanRow) out6, .own 80 (.sl spanRow) t28, .val (.cell (.int .i64) t29 false), .val (.cell (.int .i64) t30 false)] S.zero) = span_Norm.t11 call rec_ out6 t28 t29 t30 := by kernel_rfl
theorem span_Norm.s11 (call : B0.Call) (j : Nat) (out6 : List (Int × Int)) (t28 : List (Int × Int)) (t29 : Int) (t30 : Int) : span_Norm.l11 (span_Norm.R call (j + 1)) out6 t28 t29 t30 = span_Norm.t11 call (span_Norm.R call j) out6 t28 t29 t30 :=
  (goOn_eq B0 (by kernel_rfl) rfl call [] j _).trans (span_Norm.e11 _ _ out6 t28 t29 t30)
/- 42: pos_maker_chain -/
noncomputable def pos_maker_chain.R (call : B0.Call) (j : Nat) : B0.Rec 42 := B0.goOn call 42 Try.f42 [0] j
noncomputable def pos_maker_chain.l1 (rec_ : B0.Rec 42) (m0_0 : List (List (Int × Int))) (m0_1 : Bool) (m0_2 : List Int) (m0_3 : List Int) (m0_4 : List (List Int)) (first2 : List Int) (t8 : List Int) (t9 : Int) (t10 : Int) : Option ((List (List (Int × Int))) × Bool × (List Int) × (List Int) × (List (List Int))) := rec_ (stk Try.f42.body 1) [.box [.ow 22 ⟨.sl (.one (.sl spanRow)), m0_0⟩, .pl ⟨.bool, m0_1⟩, .pl ⟨.sl (.one (.int .i64)), m0_2⟩, .pl ⟨.sl (.one (.int .i64)), m0_3⟩, .ow 30 ⟨.sl (.one (.sl (.one (.int .i64)))), m0_4⟩], .val (.cell (.sl (.one (.int .i64))) first2 false), .val (.cell (.sl (.one (.int .i64))) t8 false), .val (.cell (.int .i64) t9 false), .val (.cell (.int .i64) t10 false)]
noncomputable def pos_maker_chain.t (call : B0.Call) (rec_ : B0.Rec 42) (m0_0 : List (List (Int × Int))) (m0_1 : Bool) (m0_2 : List Int) (m0_3 : List Int) (m0_4 : List (List Int)) (last1 : List Int) (first2 : List Int) : Option ((List (List (Int × Int))) × Bool × (List Int) × (List Int) × (List (List Int))) :=
  pos_maker_chain.l1 rec_ m0_0 m0_1 m0_2 m0_3 m0_4 first2 last1 ((List.length last1) : Int) 0
noncomputable def pos_maker_chain.t1 (call : B0.Call) (rec_ : B0.Rec 42) (m0_0 : List (List (Int × Int))) (m0_1 : Bool) (m0_2 : List Int) (m0_3 : List Int) (m0_4 : List (List Int)) (first2 : List Int) (t8 : List Int) (t9 : Int) (t10 : Int) : Option ((List (List (Int × Int))) × Bool × (List Int) × (List Int) × (List (List Int))) :=
  bif (decide (t10 < t9)) then
   Option.bind (idx t8 t10) fun r0 =>
   bif (inB (List.length m0_4) r0) then
    Option.bind (idx m0_4 r0) fun r1 =>
    Option.bind (pos_with.C call r1 first2) fun r2 =>
    bif (inB (List.length m0_4) r0) then
     Option.bind (idx m0_4 r0) fun r3 =>
     pos_maker_chain.l1 rec_ m0_0 m0_1 m0_2 m0_3 (List.set m0_4 (Int.toNat r0) r2) first2 t8 t9 (IntKind.wrap .i64 (t10 + 1))
    else
     none
   else
    none
  else
   some (m0_0, (m0_1, (m0_2, (m0_3, m0_4))))
theorem pos_maker_chain.e (call : B0.Call) (rec_ : B0.Rec 42) (m0_0 : List (List (Int × Int))) (m0_1 : Bool) (m0_2 : List Int) (m0_3 : List Int) (m0_4 : List (List Int)) (last1 : List Int) (first2 : List Int) :
    den (B0.env call 42 Try.f42 [0] rec_) 100000 false (bodyOf Try.f42.body) (entryS 0 [.box [.ow 22 ⟨.sl (.one (.sl spanRow)), m0_0⟩, .pl ⟨.bool, m0_1⟩, .pl ⟨.sl (.one (.int .i64)), m0_2⟩, .pl ⟨.sl (.one (.int .i64)), m0_3⟩, .ow 30 ⟨.sl (.one (.sl (.one (.int .i64)))), m0_4⟩], .cell (.sl (.one (.int .i64))) last1 false, .cell (.sl (.one (.int .i64))) first2 false] S.zero).1 = pos_maker_chain.t call rec_ m0_0 m0_1 m0_2 m0_3 m0_4 last1 first2 := by kernel_rfl
theorem pos_maker_chain.s (k : Nat) (m0_0 : List (List (Int × Int))) (m0_1 : Bool) (m0_2 : List Int) (m0_3 : List Int) (m0_4 : List (List Int)) (last1 : List Int) (first2 : List Int) : pos_maker_chain.C (B0.call (k + 1)) m0_0 m0_1 m0_2 m0_3 m0_4 last1 first2 = pos_maker_chain.t (B0.call k) (pos_maker_chain.R (B0.call k) k) m0_0 m0_1 m0_2 m0_3 m0_4 last1 first2 :=
  (call_eq B0 rfl Try.func42 (by kernel_rfl) k _).trans (pos_maker_chain.e _ _ m0_0 m0_1 m0_2 m0_3 m0_4 last1 first2)
theorem pos_maker_chain.e1 (call : B0.Call) (rec_ : B0.Rec 42) (m0_0 : List (List (Int × Int))) (m0_1 : Bool) (m0_2 : List Int) (m0_3 : List Int) (m0_4 : List (List Int)) (first2 : List Int) (t8 : List Int) (t9 : Int) (t10 : Int) :
    den (B0.env call 42 Try.f42 [0] rec_) 100000 true (stk Try.f42.body 1) (putXs [.p 0 [some 22, none, none, none, some 30], .t 2, .t 8, .t 9, .t 10] [.box [.ow 22 ⟨.sl (.one (.sl spanRow)), m0_0⟩, .pl ⟨.bool, m0_1⟩, .pl ⟨.sl (.one (.int .i64)), m0_2⟩, .pl ⟨.sl (.one (.int .i64)), m0_3⟩, .ow 30 ⟨.sl (.one (.sl (.one (.int .i64)))), m0_4⟩], .val (.cell (.sl (.one (.int .i64))) first2 false), .val (.cell (.sl (.one (.int .i64))) t8 false), .val (.cell (.int .i64) t9 false), .val (.cell (.int .i64) t10 false)] S.zero) = pos_maker_chain.t1 call rec_ m0_0 m0_1 m0_2 m0_3 m0_4 first2 t8 t9 t10 := by kernel_rfl
theorem pos_maker_chain.s1 (call : B0.Call) (j : Nat) (m0_0 : List (List (Int × Int))) (m0_1 : Bool) (m0_2 : List Int) (m0_3 : List Int) (m0_4 : List (List Int)) (first2 : List Int) (t8 : List Int) (t9 : Int) (t10 : Int) : pos_maker_chain.l1 (pos_maker_chain.R call (j + 1)) m0_0 m0_1 m0_2 m0_3 m0_4 first2 t8 t9 t10 = pos_maker_chain.t1 call (pos_maker_chain.R call j) m0_0 m0_1 m0_2 m0_3 m0_4 first2 t8 t9 t10 :=
  (goOn_eq B0 (by kernel_rfl) rfl call [0] j _).trans (pos_maker_chain.e1 _ _ m0_0 m0_1 m0_2 m0_3 m0_4 first2 t8 t9 t10)
/- 41: pos_maker_cat -/
noncomputable def pos_maker_cat.R (call : B0.Call) (j : Nat) : B0.Rec 41 := B0.goOn call 41 Try.f41 [0] j
noncomputable def pos_maker_cat.t (call : B0.Call) (rec_ : B0.Rec 41) (m0_0 : List (List (Int × Int))) (m0_1 : Bool) (m0_2 : List Int) (m0_3 : List Int) (m0_4 : List (List Int)) (a1_0 : Bool) (a1_1 : List Int) (a1_2 : List Int) (b2_0 : Bool) (b2_1 : List Int) (b2_2 : List Int) : Option (Bool × (List Int) × (List Int) × (List (List (Int × Int))) × Bool × (List Int) × (List Int) × (List (List Int))) :=
  Option.bind (pos_maker_chain.C call m0_0 m0_1 m0_2 m0_3 m0_4 a1_2 b2_1) fun r0 =>
  bif a1_0 then
   bif a1_0 then
    Option.bind (pos_with.C call a1_1 b2_1) fun r1 =>
    bif b2_0 then
     Option.bind (pos_with.C call a1_2 b2_2) fun r2 =>
     some (b2_0, (r1, (r2, (r0.1, (r0.2.1, (r0.2.2.1, (r0.2.2.2.1, r0.2.2.2.2)))))))
    else
     some (b2_0, (r1, (b2_2, (r0.1, (r0.2.1, (r0.2.2.1, (r0.2.2.2.1, r0.2.2.2.2)))))))
   else
    bif b2_0 then
     Option.bind (pos_with.C call a1_2 b2_2) fun r1 =>
     some (b2_0, (a1_1, (r1, (r0.1, (r0.2.1, (r0.2.2.1, (r0.2.2.2.1, r0.2.2.2.2)))))))
    else
     some (b2_0, (a1_1, (b2_2, (r0.1, (r0.2.1, (r0.2.2.1, (r0.2.2.2.1, r0.2.2.2.2)))))))
  else
   bif a1_0 then
    Option.bind (pos_with.C call a1_1 b2_1) fun r1 =>
    bif b2_0 then
     Option.bind (pos_with.C call a1_2 b2_2) fun r2 =>
     some (false, (r1, (r2, (r0.1, (r0.2.1, (r0.2.2.1, (r0.2.2.2.1, r0.2.2.2.2)))))))
    else
     some (false, (r1, (b2_2, (r0.1, (r0.2.1, (r0.2.2.1, (r0.2.2.2.1, r0.2.2.2.2)))))))
   else
    bif b2_0 then
     Option.bind (pos_with.C call a1_2 b2_2) fun r1 =>
     some (false, (a1_1, (r1, (r0.1, (r0.2.1, (r0.2.2.1, (r0.2.2.2.1, r0.2.2.2.2)))))))
    else
     some (false, (a1_1, (b2_2, (r0.1, (r0.2.1, (r0.2.2.1, (r0.2.2.2.1, r0.2.2.2.2)))))))
theorem pos_maker_cat.e (call : B0.Call) (rec_ : B0.Rec 41) (m0_0 : List (List (Int × Int))) (m0_1 : Bool) (m0_2 : List Int) (m0_3 : List Int) (m0_4 : List (List Int)) (a1_0 : Bool) (a1_1 : List Int) (a1_2 : List Int) (b2_0 : Bool) (b2_1 : List Int) (b2_2 : List Int) :
    den (B0.env call 41 Try.f41 [0] rec_) 100000 false (bodyOf Try.f41.body) (entryS 0 [.box [.ow 22 ⟨.sl (.one (.sl spanRow)), m0_0⟩, .pl ⟨.bool, m0_1⟩, .pl ⟨.sl (.one (.int .i64)), m0_2⟩, .pl ⟨.sl (.one (.int .i64)), m0_3⟩, .ow 30 ⟨.sl (.one (.sl (.one (.int .i64)))), m0_4⟩], .agg [⟨.bool, a1_0⟩, ⟨.sl (.one (.int .i64)), a1_1⟩, ⟨.sl (.one (.int .i64)), a1_2⟩], .agg [⟨.bool, b2_0⟩, ⟨.sl (.one (.int .i64)), b2_1⟩, ⟨.sl (.one (.int .i64)), b2_2⟩]] S.zero).1 = pos_maker_cat.t call rec_ m0_0 m0_1 m0_2 m0_3 m0_4 a1_0 a1_1 a1_2 b2_0 b2_1 b2_2 := by kernel_rfl
theorem pos_maker_cat.s (k : Nat) (m0_0 : List (List (Int × Int))) (m0_1 : Bool) (m0_2 : List Int) (m0_3 : List Int) (m0_4 : List (List Int)) (a1_0 : Bool) (a1_1 : List Int) (a1_2 : List Int) (b2_0 : Bool) (b2_1 : List Int) (b2_2 : List Int) : pos_maker_cat.C (B0.call (k + 1)) m0_0 m0_1 m0_2 m0_3 m0_4 a1_0 a1_1 a1_2 b2_0 b2_1 b2_2 = pos_maker_cat.t (B0.call k) (pos_maker_cat.R (B0.call k) k) m0_0 m0_1 m0_2 m0_3 m0_4 a1_0 a1_1 a1_2 b2_0 b2_1 b2_2 :=
  (call_eq B0 rfl Try.func41 (by kernel_rfl) k _).trans (pos_maker_cat.e _ _ m0_0 m0_1 m0_2 m0_3 m0_4 a1_0 a1_1 a1_2 b2_0 b2_1 b2_2)
/- 43: ref05_kinds -/
noncomputable def ref05_kinds.R (call : B0.Call) (j : Nat) : B0.Rec 43 := B0.goOn call 43 Try.f43 [] j
noncomputable def ref05_kinds.l8 (rec_ : B0.Rec 43) (t46 : List Pat) (t47 : Int) (t48 : Int) : Option Bool := rec_ (stk Try.f43.body 8) [.val (.cell (.pats) t46 false), .val (.cell (.int .i64) t47 false), .val (.cell (.int .i64) t48 false)]
noncomputable def ref05_kinds.t (call : B0.Call) (rec_ : B0.Rec 43) (p0_0 : Int) (p0_1 : List (Int × Int)) (p0_2 : List Pat) : Option Bool :=
  bif (p0_0 == 1) then
   bif (decide (((List.length p0_2) : Int) > 0)) then
    some false
   else
    bif (decide (((List.length p0_1) : Int) > 256)) then
     some false
    else
     bif (p0_0 != 1) then
      bif (decide (((List.length p0_1) : Int) > 0)) then
       some false
      else
       bif (p0_0 == 4) then
        bif (((List.length p0_2) : Int) != 1) then
         some false
        else
         bif (decide (p0_0 < 1)) then
          some false
         else
          bif (decide (p0_0 > 4)) then
           some false
          else
           ref05_kinds.l8 rec_ p0_2 ((List.length p0_2) : Int) 0
       else
        bif (decide (p0_0 < 1)) then
         some false
        else
         bif (decide (p0_0 > 4)) then
          some false
         else
          ref05_kinds.l8 rec_ p0_2 ((List.length p0_2) : Int) 0
     else
      bif (p0_0 == 4) then
       bif (((List.length p0_2) : Int) != 1) then
        some false
       else
        bif (decide (p0_0 < 1)) then
         some false
        else
         bif (decide (p0_0 > 4)) then
          some false
         else
          ref05_kinds.l8 rec_ p0_2 ((List.length p0_2) : Int) 0
      else
       bif (decide (p0_0 < 1)) then
        some false
       else
        bif (decide (p0_0 > 4)) then
         some false
        else
         ref05_kinds.l8 rec_ p0_2 ((List.length p0_2) : Int) 0
  else
   bif (p0_0 != 1) then
    bif (decide (((List.length p0_1) : Int) > 0)) then
     some false
    else
     bif (p0_0 == 4) then
      bif (((List.length p0_2) : Int) != 1) then
       some false
      else
       bif (decide (p0_0 < 1)) then
        some false
       else
        bif (decide (p0_0 > 4)) then
         some false
        else
         ref05_kinds.l8 rec_ p0_2 ((List.length p0_2) : Int) 0
     else
      bif (decide (p0_0 < 1)) then
       some false
      else
       bif (decide (p0_0 > 4)) then
        some false
       else
        ref05_kinds.l8 rec_ p0_2 ((List.length p0_2) : Int) 0
   else
    bif (p0_0 == 4) then
     bif (((List.length p0_2) : Int) != 1) then
      some false
     else
      bif (decide (p0_0 < 1)) then
       some false
      else
       bif (decide (p0_0 > 4)) then
        some false
       else
        ref05_kinds.l8 rec_ p0_2 ((List.length p0_2) : Int) 0
    else
     bif (decide (p0_0 < 1)) then
      some false
     else
      bif (decide (p0_0 > 4)) then
       some false
      else
       ref05_kinds.l8 rec_ p0_2 ((List.length p0_2) : Int) 0
noncomputable def ref05_kinds.t8 (call : B0.Call) (rec_ : B0.Rec 43) (t46 : List Pat) (t47 : Int) (t48 : Int) : Option Bool :=
  bif (decide (t48 < t47)) then
   Option.bind (idx t46 t48) fun r0 =>
   Option.bind (ref05_kinds.C call r0.kind r0.set r0.subs) fun r1 =>
   bif (!r1) then
    some false
   else
    ref05_kinds.l8 rec_ t46 t47 (IntKind.wrap .i64 (t48 + 1))
  else
   some true
theorem ref05_kinds.e (call : B0.Call) (rec_ : B0.Rec 43) (p0_0 : Int) (p0_1 : List (Int × Int)) (p0_2 : List Pat) :
    den (B0.env call 43 Try.f43 [] rec_) 100000 false (bodyOf Try.f43.body) (entryS 0 [.agg [⟨.int .i64, p0_0⟩, ⟨.sl spanRow, p0_1⟩, ⟨.pats, p0_2⟩]] S.zero).1 = ref05_kinds.t call rec_ p0_0 p0_1 p0_2 := by kernel_rfl
theorem ref05_kinds.s (k : Nat) (p0_0 : Int) (p0_1 : List (Int × Int)) (p0_2 : List Pat) : ref05_kinds.C (B0.call (k + 1)) p0_0 p0_1 p0_2 = ref05_kinds.t (B0.call k) (ref05_kinds.R (B0.call k) k) p0_0 p0_1 p0_2 :=
  (call_eq B0 rfl Try.func43 (by kernel_rfl) k _).trans (ref05_kinds.e _ _ p0_0 p0_1 p0_2)
/- 47: slices_ContainsFunc_api_Pat_api_Pat -/
noncomputable def slices_ContainsFunc_api_Pat_api_Pat.R (call : B0.Call) (j : Nat) : B0.Rec 47 := B0.goOn call 47 Try.f47 [] j
noncomputable def slices_ContainsFunc_api_Pat_api_Pat.t (call : B0.Call) (rec_ : B0.Rec 47) (s0 : List Pat) : Option Bool :=
  Option.bind (slices_IndexFunc_api_Pat_api_Pat.C call s0) fun r0 =>
  some (decide (r0 ≥ 0))
theorem slices_ContainsFunc_api_Pat_api_Pat.e (call : B0.Call) (rec_ : B0.Rec 47) (s0 : List Pat) :
    den (B0.env call 47 Try.f47 [] rec_) 100000 false (bodyOf Try.f47.body) (entryS 0 [.cell (.pats) s0 false, .fn 48 []] S.zero).1 = slices_ContainsFunc_api_Pat_api_Pat.t call rec_ s0 := by kernel_rfl
theorem slices_ContainsFunc_api_Pat_api_Pat.s (k : Nat) (s0 : List Pat) : slices_ContainsFunc_api_Pat_api_Pat.C (B0.call (k + 1)) s0 = slices_ContainsFunc_api_Pat_api_Pat.t (B0.call k) (slices_ContainsFunc_api_Pat_api_Pat.R (B0.call k) k) s0 :=
  (call_eq B0 rfl Try.func47 (by kernel_rfl) k _).trans (slices_ContainsFunc_api_Pat_api_Pat.e _ _ s0)
/- 49: span_In -/
noncomputable def span_In.R (call : B0.Call) (j : Nat) : B0.Rec 49 := B0.goOn call 49 Try.f49 [] j
noncomputable def span_In.t (call : B0.Call) (rec_ : B0.Rec 49) (l0 : List (Int × Int)) (n1 : Int) : Option Bool :=
  Option.bind (slices_ContainsFunc_api_Span_api_Span.C call l0 n1) fun r0 =>
  some r0.1
theorem span_In.e (call : B0.Call) (rec_ : B0.Rec 49) (l0 : List (Int × Int)) (n1 : Int) :
    den (B0.env call 49 Try.f49 [] rec_) 100000 false (bodyOf Try.f49.body) (entryS 0 [.cell (.sl spanRow) l0 false, .cell (.int .u32) n1 false] S.zero).1 = span_In.t call rec_ l0 n1 := by kernel_rfl
theorem span_In.s (k : Nat) (l0 : List (Int × Int)) (n1 : Int) : span_In.C (B0.call (k + 1)) l0 n1 = span_In.t (B0.call k) (span_In.R (B0.call k) k) l0 n1 :=
  (call_eq B0 rfl Try.func49 (by kernel_rfl) k _).trans (span_In.e _ _ l0 n1)
/- 52: slices_IndexFunc_int_int -/
noncomputable def slices_IndexFunc_int_int.R (call : B0.Call) (j : Nat) : B0.Rec 52 := B0.goOn call 52 Try.f52 [64] j
noncomputable def slices_IndexFunc_int_int.l2 (rec_ : B0.Rec 52) (s0 : List Int) (t7 : Int) (t8 : Int) (f1_0 : List (List (Int × Int))) (f1_1 : Bool) (f1_2 : List Int) (f1_3 : List Int) (f1_4 : List (List Int)) : Option (Int × (List (List (Int × Int))) × Bool × (List Int) × (List Int) × (List (List Int))) := rec_ (stk Try.f52.body 2) [.val (.cell (.sl (.one (.int .i64))) s0 true), .val (.fn 35 [.ptr 64 0]), .val (.cell (.int .i64) t7 false), .val (.cell (.int .i64) t8 false), .box [.pl ⟨.sl (.one (.sl spanRow)), f1_0⟩, .pl ⟨.bool, f1_1⟩, .pl ⟨.sl (.one (.int .i64)), f1_2⟩, .pl ⟨.sl (.one (.int .i64)), f1_3⟩, .pl ⟨.sl (.one (.sl (.one (.int .i64)))), f1_4⟩]]
noncomputable def slices_IndexFunc_int_int.t (call : B0.Call) (rec_ : B0.Rec 52) (s0 : List Int) (f1_0_0 : List (List (Int × Int))) (f1_0_1 : Bool) (f1_0_2 : List Int) (f1_0_3 : List Int) (f1_0_4 : List (List Int)) : Option (Int × (List (List (Int × Int))) × Bool × (List Int) × (List Int) × (List (List Int))) :=
  slices_IndexFunc_int_int.l2 rec_ s0 ((List.length s0) : Int) 0 f1_0_0 f1_0_1 f1_0_2 f1_0_3 f1_0_4
noncomputable def slices_IndexFunc_int_int.t2 (call : B0.Call) (rec_ : B0.Rec 52) (s0 : List Int) (t7 : Int) (t8 : Int) (f1_0 : List (List (Int × Int))) (f1_1 : Bool) (f1_2 : List Int) (f1_3 : List Int) (f1_4 : List (List Int)) : Option (Int × (List (List (Int × Int))) × Bool × (List Int) × (List Int) × (List (List Int))) :=
  bif (decide (t8 < t7)) then
   Option.bind (idx s0 t8) fun r0 =>
   Option.bind (pos_Run_c1.C call r0 f1_0 f1_1 f1_2 f1_3 f1_4) fun r1 =>
   bif r1.1 then
    some (t8, (r1.2.1, (r1.2.2.1, (r1.2.2.2.1, (r1.2.2.2.2.1, r1.2.2.2.2.2)))))
   else
    slices_IndexFunc_int_int.l2 rec_ s0 t7 (IntKind.wrap .i64 (t8 + 1)) r1.2.1 r1.2.2.1 r1.2.2.2.1 r1.2.2.2.2.1 r1.2.2.2.2.2
  else
   some ((-1), (f1_0, (f1_1, (f1_2, (f1_3, f1_4)))))
theorem slices_IndexFunc_int_int.e (call : B0.Call) (rec_ : B0.Rec 52) (s0 : List Int) (f1_0_0 : List (List (Int × Int))) (f1_0_1 : Bool) (f1_0_2 : List Int) (f1_0_3 : List Int) (f1_0_4 : List (List Int)) :
    den (B0.env call 52 Try.f52 [64] rec_) 100000 false (bodyOf Try.f52.body) (entryS 0 [.cell (.sl (.one (.int .i64))) s0 true, .fn 35 [.box [.pl ⟨.sl (.one (.sl spanRow)), f1_0_0⟩, .pl ⟨.bool, f1_0_1⟩, .pl ⟨.sl (.one (.int .i64)), f1_0_2⟩, .pl ⟨.sl (.one (.int .i64)), f1_0_3⟩, .pl ⟨.sl (.one (.sl (.one (.int .i64)))), f1_0_4⟩]]] S.zero).1 = slices_IndexFunc_int_int.t call rec_ s0 f1_0_0 f1_0_1 f1_0_2 f1_0_3 f1_0_4 := by kernel_rfl
theorem slices_IndexFunc_int_int.s (k : Nat) (s0 : List Int) (f1_0_0 : List (List (Int × Int))) (f1_0_1 : Bool) (f1_0_2 : List Int) (f1_0_3 : List Int) (f1_0_4 : List (List Int)) : slices_IndexFunc_int_int.C (B0.call (k + 1)) s0 f1_0_0 f1_0_1 f1_0_2 f1_0_3 f1_0_4 = slices_IndexFunc_int_int.t (B0.call k) (slices_IndexFunc_int_int.R (B0.call k) k) s0 f1_0_0 f1_0_1 f1_0_2 f1_0_3 f1_0_4 :=
  (call_eq B0 rfl Try.func52 (by kernel_rfl) k _).trans (slices_IndexFunc_int_int.e _ _ s0 f1_0_0 f1_0_1 f1_0_2 f1_0_3 f1_0_4)
theorem slices_IndexFunc_int_int.e2 (call : B0.Call) (rec_ : B0.Rec 52) (s0 : List Int) (t7 : Int) (t8 : Int) (f1_0 : List (List (Int × Int))) (f1_1 : Bool) (f1_2 : List Int) (f1_3 : List Int) (f1_4 : List (List Int)) :
    den (B0.env call 52 Try.f52 [64] rec_) 100000 true (stk Try.f52.body 2) (putXs [.t 0, .t 1, .t 7, .t 8, .f 1 0 64 [none, none, none, none, none]] [.val (.cell (.sl (.one (.int .i64))) s0 true), .val (.fn 35 [.ptr 64 0]), .val (.cell (.int .i64) t7 false), .val (.cell (.int .i64) t8 false), .box [.pl ⟨.sl (.one (.sl spanRow)), f1_0⟩, .pl ⟨.bool, f1_1⟩, .pl ⟨.sl (.one (.int .i64)), f1_2⟩, .pl ⟨.sl (.one (.int .i64)), f1_3⟩, .pl ⟨.sl (.one (.sl (.one (.int .i64)))), f1_4⟩]] S.zero) = slices_IndexFunc_int_int.t2 call rec_ s0 t7 t8 f1_0 f1_1 f1_2 f1_3 f1_4 := by kernel_rfl
theorem slices_IndexFunc_int_int.s2 (call : B0.Call) (j : Nat) (s0 : List Int) (t7 : Int) (t8 : Int) (f1_0 : List (List (Int × Int))) (f1_1 : Bool) (f1_2 : List Int) (f1_3 : List Int) (f1_4 : List (List Int)) : slices_IndexFunc_int_int.l2 (slices_IndexFunc_int_int.R call (j + 1)) s0 t7 t8 f1_0 f1_1 f1_2 f1_3 f1_4 = slices_IndexFunc_int_int.t2 call (slices_IndexFunc_int_int.R call j) s0 t7 t8 f1_0 f1_1 f1_2 f1_3 f1_4 :=
  (goOn_eq B0 (by kernel_rfl) rfl call [64] j _).trans (slices_IndexFunc_int_int.e2 _ _ s0 t7 t8 f1_0 f1_1 f1_2 f1_3 f1_4)
/- 50: slices_BinarySearch_int_int -/
noncomputable def slices_BinarySearch_int_int.R (call : B0.Call) (j : Nat) : B0.Rec 50 := B0.goOn call 50 Try.f50 [] j
noncomputable def slices_BinarySearch_int_int.l3 (rec_ : B0.Rec 50) (x0 : List Int) (target1 : Int) (n6 : Int) (i7 : Int) (j8 : Int) : Option (Int × Bool) := rec_ (stk Try.f50.body 3) [.val (.cell (.sl (.one (.int .i64))) x0 true), .val (.cell (.int .i64) target1 false), .val (.cell (.int .i64) n6 false), .val (.cell (.int .i64) i7 false), .val (.cell (.int .i64) j8 false)]
noncomputable def slices_BinarySearch_int_int.t (call : B0.Call) (rec_ : B0.Rec 50) (x0 : List Int) (target1 : Int) : Option (Int × Bool) :=
  slices_BinarySearch_int_int.l3 rec_ x0 target1 ((List.length x0) : Int) 0 ((List.length x0) : Int)
noncomputable def slices_BinarySearch_int_int.t3 (call : B0.Call) (rec_ : B0.Rec 50) (x0 : List Int) (target1 : Int) (n6 : Int) (i7 : Int) (j8 : Int) : Option (Int × Bool) :=
  bif (decide (i7 < j8)) then
   Option.bind (idx x0 (IntKind.wrap .i64 (shrI .u64 (IntKind.wrap .u64 (IntKind.wrap .i64 (i7 + j8))) 1))) fun r0 =>
   Option.bind (cmp_Less_int.C call r0 target1) fun r1 =>
   bif r1 then
    slices_BinarySearch_int_int.l3 rec_ x0 target1 n6 (IntKind.wrap .i64 ((IntKind.wrap .i64 (shrI .u64 (IntKind.wrap .u64 (IntKind.wrap .i64 (i7 + j8))) 1)) + 1)) j8
   else
    slices_BinarySearch_int_int.l3 rec_ x0 target1 n6 i7 (IntKind.wrap .i64 (shrI .u64 (IntKind.wrap .u64 (IntKind.wrap .i64 (i7 + j8))) 1))
  else
   bif (decide (i7 < n6)) then
    Option.bind (idx x0 i7) fun r0 =>
    bif (r0 == target1) then
     some (i7, true)
    else
     Option.bind (idx x0 i7) fun r1 =>
     Option.bind (slices_isNaN_int.C call r1) fun r2 =>
     bif r2 then
      Option.bind (slices_isNaN_int.C call target1) fun r3 =>
      some (i7, r3)
     else
      some (i7, false)
   else
    some (i7, false)
theorem slices_BinarySearch_int_int.e (call : B0.Call) (rec_ : B0.Rec 50) (x0 : List Int) (target1 : Int) :
    den (B0.env call 50 Try.f50 [] rec_) 100000 false (bodyOf Try.f50.body) (entryS 0 [.cell (.sl (.one (.int .i64))) x0 true, .cell (.int .i64) target1 false] S.zero).1 = slices_BinarySearch_int_int.t call rec_ x0 target1 := by kernel_rfl
theorem slices_BinarySearch_int_int.s (k : Nat) (x0 : List Int) (target1 : Int) : slices_BinarySearch_int_int.C (B0.call (k + 1)) x0 target1 = slices_BinarySearch_int_int.t (B0.call k) (slices_BinarySearch_int_int.R (B0.call k) k) x0 target1 :=
  (call_eq B0 rfl Try.func50 (by kernel_rfl) k _).trans (slices_BinarySearch_int_int.e _ _ x0 target1)
theorem slices_BinarySearch_int_int.e3 (call : B0.Call) (rec_ : B0.Rec 50) (x0 : List Int) (target1 : Int) (n6 : Int) (i7 : Int) (j8 : Int) :
    den (B0.env call 50 Try.f50 [] rec_) 100000 true (stk Try.f50.body 3) (putXs [.t 0, .t 1, .t 6, .t 7, .t 8] [.val (.cell (.sl (.one (.int .i64))) x0 true), .val (.cell (.int .i64) target1 false), .val (.cell (.int .i64) n6 false), .val (.cell (.int .i64) i7 false), .val (.cell (.int .i64) j8 false)] S.zero) = slices_BinarySearch_int_int.t3 call rec_ x0 target1 n6 i7 j8 := by kernel_rfl
theorem slices_BinarySearch_int_int.s3 (call : B0.Call) (j : Nat) (x0 : List Int) (target1 : Int) (n6 : Int) (i7 : Int) (j8 : Int) : slices_BinarySearch_int_int.l3 (slices_BinarySearch_int_int.R call (j + 1)) x0 target1 n6 i7 j8 = slices_BinarySearch_int_int.t3 call (slices_BinarySearch_int_int.R call j) x0 target1 n6 i7 j8 :=
  (goOn_eq B0 (by kernel_rfl) rfl call [] j _).trans (slices_BinarySearch_int_int.e3 _ _ x0 target1 n6 i7 j8)
/- 54: pat_places_with -/
noncomputable def pat_places_with.R (call : B0.Call) (j : Nat) : B0.Rec 54 := B0.goOn call 54 Try.f54 [] j
noncomputable def pat_places_with.l2 (rec_ : B0.Rec 54) (x2_0 : Int) (x2_1 : Int) (x2_2 : Int) (x2_3 : Int) (t4_0 : Int) (t4_1 : Int) (t4_2 : Int) (t4_3 : Int) (t7_0 : Int) (t7_1 : Int) (t7_2 : Int) (t7_3 : Int) (t8 : Int) : Option (Int × Int × Int × Int) := rec_ (stk Try.f54.body 2) [.box [.pl ⟨.int .u64, x2_0⟩, .pl ⟨.int .u64, x2_1⟩, .pl ⟨.int .u64, x2_2⟩, .pl ⟨.int .u64, x2_3⟩], .box [.pl ⟨.int .u64, t4_0⟩, .pl ⟨.int .u64, t4_1⟩, .pl ⟨.int .u64, t4_2⟩, .pl ⟨.int .u64, t4_3⟩], .val (.agg [.pl ⟨.int .u64, t7_0⟩, .pl ⟨.int .u64, t7_1⟩, .pl ⟨.int .u64, t7_2⟩, .pl ⟨.int .u64, t7_3⟩]), .val (.cell (.int .i64) t8 false)]
noncomputable def pat_places_with.t (call : B0.Call) (rec_ : B0.Rec 54) (x0_0 : Int) (x0_1 : Int) (x0_2 : Int) (x0_3 : Int) (y1_0 : Int) (y1_1 : Int) (y1_2 : Int) (y1_3 : Int) : Option (Int × Int × Int × Int) :=
  pat_places_with.l2 rec_ x0_0 x0_1 x0_2 x0_3 0 0 0 0 y1_0 y1_1 y1_2 y1_3 0
noncomputable def pat_places_with.t2 (call : B0.Call) (rec_ : B0.Rec 54) (x2_0 : Int) (x2_1 : Int) (x2_2 : Int) (x2_3 : Int) (t4_0 : Int) (t4_1 : Int) (t4_2 : Int) (t4_3 : Int) (t7_0 : Int) (t7_1 : Int) (t7_2 : Int) (t7_3 : Int) (t8 : Int) : Option (Int × Int × Int × Int) :=
  bif (decide (t8 < 4)) then
   Option.bind (idx (t7_0 :: (t7_1 :: (t7_2 :: (t7_3 :: [])))) t8) fun r0 =>
   bif (inB 4 t8) then
    Option.bind (idx (x2_0 :: (x2_1 :: (x2_2 :: (x2_3 :: [])))) t8) fun r1 =>
    bif (inB 4 t8) then
     pat_places_with.l2 rec_ (bif (t8 == (0 : Int)) then (orI .u64 r1 r0) else x2_0) (bif (t8 == ((0 + 1) : Int)) then (orI .u64 r1 r0) else x2_1) (bif (t8 == (((0 + 1) + 1) : Int)) then (orI .u64 r1 r0) else x2_2) (bif (t8 == ((((0 + 1) + 1) + 1) : Int)) then (orI .u64 r1 r0) else x2_3) t4_0 t4_1 t4_2 t4_3 t7_0 t7_1 t7_2 t7_3 (IntKind.wrap .i64 (t8 + 1))
    else
     none
   else
    none
  else
   some (x2_0, (x2_1, (x2_2, x2_3)))
theorem pat_places_with.e (call : B0.Call) (rec_ : B0.Rec 54) (x0_0 : Int) (x0_1 : Int) (x0_2 : Int) (x0_3 : Int) (y1_0 : Int) (y1_1 : Int) (y1_2 : Int) (y1_3 : Int) :
    den (B0.env call 54 Try.f54 [] rec_) 100000 false (bodyOf Try.f54.body) (entryS 0 [.agg [⟨.int .u64, x0_0⟩, ⟨.int .u64, x0_1⟩, ⟨.int .u64, x0_2⟩, ⟨.int .u64, x0_3⟩], .agg [⟨.int .u64, y1_0⟩, ⟨.int .u64, y1_1⟩, ⟨.int .u64, y1_2⟩, ⟨.int .u64, y1_3⟩]] S.zero).1 = pat_places_with.t call rec_ x0_0 x0_1 x0_2 x0_3 y1_0 y1_1 y1_2 y1_3 := by kernel_rfl
theorem pat_places_with.s (k : Nat) (x0_0 : Int) (x0_1 : Int) (x0_2 : Int) (x0_3 : Int) (y1_0 : Int) (y1_1 : Int) (y1_2 : Int) (y1_3 : Int) : pat_places_with.C (B0.call (k + 1)) x0_0 x0_1 x0_2 x0_3 y1_0 y1_1 y1_2 y1_3 = pat_places_with.t (B0.call k) (pat_places_with.R (B0.call k) k) x0_0 x0_1 x0_2 x0_3 y1_0 y1_1 y1_2 y1_3 :=
  (call_eq B0 rfl Try.func54 (by kernel_rfl) k _).trans (pat_places_with.e _ _ x0_0 x0_1 x0_2 x0_3 y1_0 y1_1 y1_2 y1_3)
theorem pat_places_with.e2 (call : B0.Call) (rec_ : B0.Rec 54) (x2_0 : Int) (x2_1 : Int) (x2_2 : Int) (x2_3 : Int) (t4_0 : Int) (t4_1 : Int) (t4_2 : Int) (t4_3 : Int) (t7_0 : Int) (t7_1 : Int) (t7_2 : Int) (t7_3 : Int) (t8 : Int) :
    den (B0.env call 54 Try.f54 [] rec_) 100000 true (stk Try.f54.body 2) (putXs [.p 2 [none, none, none, none], .p 4 [none, none, none, none], .t 7, .t 8] [.box [.pl ⟨.int .u64, x2_0⟩, .pl ⟨.int .u64, x2_1⟩, .pl ⟨.int .u64, x2_2⟩, .pl ⟨.int .u64, x2_3⟩], .box [.pl ⟨.int .u64, t4_0⟩, .pl ⟨.int .u64, t4_1⟩, .pl ⟨.int .u64, t4_2⟩, .pl ⟨.int .u64, t4_3⟩], .val (.agg [.pl ⟨.int .u64, t7_0⟩, .pl ⟨.int .u64, t7_1⟩, .pl ⟨.int .u64, t7_2⟩, .pl ⟨.int .u64, t7_3⟩]), .val (.cell (.int .i64) t8 false)] S.zero) = pat_places_with.t2 call rec_ x2_0 x2_1 x2_2 x2_3 t4_0 t4_1 t4_2 t4_3 t7_0 t7_1 t7_2 t7_3 t8 := by kernel_rfl
theorem pat_places_with.s2 (call : B0.Call) (j : Nat) (x2_0 : Int) (x2_1 : Int) (x2_2 : Int) (x2_3 : Int) (t4_0 : Int) (t4_1 : Int) (t4_2 : Int) (t4_3 : Int) (t7_0 : Int) (t7_1 : Int) (t7_2 : Int) (t7_3 : Int) (t8 : Int) : pat_places_with.l2 (pat_places_with.R call (j + 1)) x2_0 x2_1 x2_2 x2_3 t4_0 t4_1 t4_2 t4_3 t7_0 t7_1 t7_2 t7_3 t8 = pat_places_with.t2 call (pat_places_with.R call j) x2_0 x2_1 x2_2 x2_3 t4_0 t4_1 t4_2 t4_3 t7_0 t7_1 t7_2 t7_3 t8 :=
  (goOn_eq B0 (by kernel_rfl) rfl call [] j _).trans (pat_places_with.e2 _ _ x2_0 x2_1 x2_2 x2_3 t4_0 t4_1 t4_2 t4_3 t7_0 t7_1 t7_2 t7_3 t8)
/- 59: slices_IndexFunc_api_Pat_api_Pat -/
noncomputable def slices_IndexFunc_api_Pat_api_Pat.R (call : B0.Call) (j : Nat) : B0.Rec 59 := B0.goOn call 59 Try.f59 [] j
noncomputable def slices_IndexFunc_api_Pat_api_Pat.l2 (rec_ : B0.Rec 59) (s0 : List Pat) (t7 : Int) (t8 : Int) : Option Int := rec_ (stk Try.f59.body 2) [.val (.cell (.pats) s0 false), .val (.fn 48 []), .val (.cell (.int .i64) t7 false), .val (.cell (.int .i64) t8 false)]
noncomputable def slices_IndexFunc_api_Pat_api_Pat.t (call : B0.Call) (rec_ : B0.Rec 59) (s0 : List Pat) : Option Int :=
  slices_IndexFunc_api_Pat_api_Pat.l2 rec_ s0 ((List.length s0) : Int) 0
noncomputable def slices_IndexFunc_api_Pat_api_Pat.t2 (call : B0.Call) (rec_ : B0.Rec 59) (s0 : List Pat) (t7 : Int) (t8 : Int) : Option Int :=
  bif (decide (t8 < t7)) then
   Option.bind (idx s0 t8) fun r0 =>
   Option.bind (pat_fits_c1.C call r0.kind r0.set r0.subs) fun r1 =>
   bif r1 then
    some t8
   else
    slices_IndexFunc_api_Pat_api_Pat.l2 rec_ s0 t7 (IntKind.wrap .i64 (t8 + 1))
  else
   some (-1)
theorem slices_IndexFunc_api_Pat_api_Pat.e (call : B0.Call) (rec_ : B0.Rec 59) (s0 : List Pat) :
    den (B0.env call 59 Try.f59 [] rec_) 100000 false (bodyOf Try.f59.body) (entryS 0 [.cell (.pats) s0 false, .fn 48 []] S.zero).1 = slices_IndexFunc_api_Pat_api_Pat.t call rec_ s0 := by kernel_rfl
theorem slices_IndexFunc_api_Pat_api_Pat.s (k : Nat) (s0 : List Pat) : slices_IndexFunc_api_Pat_api_Pat.C (B0.call (k + 1)) s0 = slices_IndexFunc_api_Pat_api_Pat.t (B0.call k) (slices_IndexFunc_api_Pat_api_Pat.R (B0.call k) k) s0 :=
  (call_eq B0 rfl Try.func59 (by kernel_rfl) k _).trans (slices_IndexFunc_api_Pat_api_Pat.e _ _ s0)
theorem slices_IndexFunc_api_Pat_api_Pat.e2 (call : B0.Call) (rec_ : B0.Rec 59) (s0 : List Pat) (t7 : Int) (t8 : Int) :
    den (B0.env call 59 Try.f59 [] rec_) 100000 true (stk Try.f59.body 2) (putXs [.t 0, .t 1, .t 7, .t 8] [.val (.cell (.pats) s0 false), .val (.fn 48 []), .val (.cell (.int .i64) t7 false), .val (.cell (.int .i64) t8 false)] S.zero) = slices_IndexFunc_api_Pat_api_Pat.t2 call rec_ s0 t7 t8 := by kernel_rfl
theorem slices_IndexFunc_api_Pat_api_Pat.s2 (call : B0.Call) (j : Nat) (s0 : List Pat) (t7 : Int) (t8 : Int) : slices_IndexFunc_api_Pat_api_Pat.l2 (slices_IndexFunc_api_Pat_api_Pat.R call (j + 1)) s0 t7 t8 = slices_IndexFunc_api_Pat_api_Pat.t2 call (slices_IndexFunc_api_Pat_api_Pat.R call j) s0 t7 t8 :=
  (goOn_eq B0 (by kernel_rfl) rfl call [] j _).trans (slices_IndexFunc_api_Pat_api_Pat.e2 _ _ s0 t7 t8)
/- 60: slices_ContainsFunc_api_Span_api_Span -/
noncomputable def slices_ContainsFunc_api_Span_api_Span.R (call : B0.Call) (j : Nat) : B0.Rec 60 := B0.goOn call 60 Try.f60 [64] j
noncomputable def slices_ContainsFunc_api_Span_api_Span.t (call : B0.Call) (rec_ : B0.Rec 60) (s0 : List (Int × Int)) (f1_0_0 : Int) : Option (Bool × Int) :=
  Option.bind (slices_IndexFunc_api_Span_api_Span.C call s0 f1_0_0) fun r0 =>
  some ((decide (r0.1 ≥ 0)), r0.2)
theorem slices_ContainsFunc_api_Span_api_Span.e (call : B0.Call) (rec_ : B0.Rec 60) (s0 : List (Int × Int)) (f1_0_0 : Int) :
    den (B0.env call 60 Try.f60 [64] rec_) 100000 false (bodyOf Try.f60.body) (entryS 0 [.cell (.sl spanRow) s0 false, .fn 61 [.box [.pl ⟨.int .u32, f1_0_0⟩]]] S.zero).1 = slices_ContainsFunc_api_Span_api_Span.t call rec_ s0 f1_0_0 := by kernel_rfl
theorem slices_ContainsFunc_api_Span_api_Span.s (k : Nat) (s0 : List (Int × Int)) (f1_0_0 : Int) : slices_ContainsFunc_api_Span_api_Span.C (B0.call (k + 1)) s0 f1_0_0 = slices_ContainsFunc_api_Span_api_Span.t (B0.call k) (slices_ContainsFunc_api_Span_api_Span.R (B0.call k) k) s0 f1_0_0 :=
  (call_eq B0 rfl Try.func60 (by kernel_rfl) k _).trans (slices_ContainsFunc_api_Span_api_Span.e _ _ s0 f1_0_0)
/- 35: pos_Run_c1 -/
noncomputable def pos_Run_c1.R (call : B0.Call) (j : Nat) : B0.Rec 35 := B0.goOn call 35 Try.f35 [64] j
noncomputable def pos_Run_c1.t (call : B0.Call) (rec_ : B0.Rec 35) (k0 : Int) (t1_0 : List (List (Int × Int))) (t1_1 : Bool) (t1_2 : List Int) (t1_3 : List Int) (t1_4 : List (List Int)) : Option (Bool × (List (List (Int × Int))) × Bool × (List Int) × (List Int) × (List (List Int))) :=
  Option.bind (slices_Contains_int_int.C call t1_3 k0) fun r0 =>
  some (r0, (t1_0, (t1_1, (t1_2, (t1_3, t1_4)))))
theorem pos_Run_c1.e (call : B0.Call) (rec_ : B0.Rec 35) (k0 : Int) (t1_0 : List (List (Int × Int))) (t1_1 : Bool) (t1_2 : List Int) (t1_3 : List Int) (t1_4 : List (List Int)) :
    den (B0.env call 35 Try.f35 [64] rec_) 100000 false (bodyOf Try.f35.body) (entryS 0 [.cell (.int .i64) k0 false, .box [.pl ⟨.sl (.one (.sl spanRow)), t1_0⟩, .pl ⟨.bool, t1_1⟩, .pl ⟨.sl (.one (.int .i64)), t1_2⟩, .pl ⟨.sl (.one (.int .i64)), t1_3⟩, .pl ⟨.sl (.one (.sl (.one (.int .i64)))), t1_4⟩]] S.zero).1 = pos_Run_c1.t call rec_ k0 t1_0 t1_1 t1_2 t1_3 t1_4 := by kernel_rfl
theorem pos_Run_c1.s (k : Nat) (k0 : Int) (t1_0 : List (List (Int × Int))) (t1_1 : Bool) (t1_2 : List Int) (t1_3 : List Int) (t1_4 : List (List Int)) : pos_Run_c1.C (B0.call (k + 1)) k0 t1_0 t1_1 t1_2 t1_3 t1_4 = pos_Run_c1.t (B0.call k) (pos_Run_c1.R (B0.call k) k) k0 t1_0 t1_1 t1_2 t1_3 t1_4 :=
  (call_eq B0 rfl Try.func35 (by kernel_rfl) k _).trans (pos_Run_c1.e _ _ k0 t1_0 t1_1 t1_2 t1_3 t1_4)
/- 62: cmp_Less_int -/
noncomputable def cmp_Less_int.R (call : B0.Call) (j : Nat) : B0.Rec 62 := B0.goOn call 62 Try.f62 [] j
noncomputable def cmp_Less_int.t (call : B0.Call) (rec_ : B0.Rec 62) (x0 : Int) (y1 : Int) : Option Bool :=
  Option.bind (cmp_isNaN_int.C call x0) fun r0 =>
  bif r0 then
   Option.bind (cmp_isNaN_int.C call y1) fun r1 =>
   bif (!r1) then
    some true
   else
    some (decide (x0 < y1))
  else
   some (decide (x0 < y1))
theorem cmp_Less_int.e (call : B0.Call) (rec_ : B0.Rec 62) (x0 : Int) (y1 : Int) :
    den (B0.env call 62 Try.f62 [] rec_) 100000 false (bodyOf Try.f62.body) (entryS 0 [.cell (.int .i64) x0 false, .cell (.int .i64) y1 false] S.zero).1 = cmp_Less_int.t call rec_ x0 y1 := by kernel_rfl
theorem cmp_Less_int.s (k : Nat) (x0 : Int) (y1 : Int) : cmp_Less_int.C (B0.call (k + 1)) x0 y1 = cmp_Less_int.t (B0.call k) (cmp_Less_int.R (B0.call k) k) x0 y1 :=
  (call_eq B0 rfl Try.func62 (by kernel_rfl) k _).trans (cmp_Less_int.e _ _ x0 y1)
/- 63: slices_isNaN_int -/
noncomputable def slices_isNaN_int.R (call : B0.Call) (j : Nat) : B0.Rec 63 := B0.goOn call 63 Try.f63 [] j
noncomputable def slices_isNaN_int.t (call : B0.Call) (rec_ : B0.Rec 63) (x0 : Int) : Option Bool :=
  some (x0 != x0)
theorem slices_isNaN_int.e (call : B0.Call) (rec_ : B0.Rec 63) (x0 : Int) :
    den (B0.env call 63 Try.f63 [] rec_) 100000 false (bodyOf Try.f63.body) (entryS 0 [.cell (.int .i64) x0 false] S.zero).1 = slices_isNaN_int.t call rec_ x0 := by kernel_rfl
theorem slices_isNaN_int.s (k : Nat) (x0 : Int) : slices_isNaN_int.C (B0.call (k + 1)) x0 = slices_isNaN_int.t (B0.call k) (slices_isNaN_int.R (B0.call k) k) x0 :=
  (call_eq B0 rfl Try.func63 (by kernel_rfl) k _).trans (slices_isNaN_int.e _ _ x0)
/- 48: pat_fits_c1 -/
noncomputable def pat_fits_c1.R (call : B0.Call) (j : Nat) : B0.Rec 48 := B0.goOn call 48 Try.f48 [] j
noncomputable def pat_fits_c1.t (call : B0.Call) (rec_ : B0.Rec 48) (s0_0 : Int) (s0_1 : List (Int × Int)) (s0_2 : List Pat) : Option Bool :=
  Option.bind (pat_fits.C call s0_0 s0_1 s0_2) fun r0 =>
  some (!r0)
theorem pat_fits_c1.e (call : B0.Call) (rec_ : B0.Rec 48) (s0_0 : Int) (s0_1 : List (Int × Int)) (s0_2 : List Pat) :
    den (B0.env call 48 Try.f48 [] rec_) 100000 false (bodyOf Try.f48.body) (entryS 0 [.agg [⟨.int .i64, s0_0⟩, ⟨.sl spanRow, s0_1⟩, ⟨.pats, s0_2⟩]] S.zero).1 = pat_fits_c1.t call rec_ s0_0 s0_1 s0_2 := by kernel_rfl
theorem pat_fits_c1.s (k : Nat) (s0_0 : Int) (s0_1 : List (Int × Int)) (s0_2 : List Pat) : pat_fits_c1.C (B0.call (k + 1)) s0_0 s0_1 s0_2 = pat_fits_c1.t (B0.call k) (pat_fits_c1.R (B0.call k) k) s0_0 s0_1 s0_2 :=
  (call_eq B0 rfl Try.func48 (by kernel_rfl) k _).trans (pat_fits_c1.e _ _ s0_0 s0_1 s0_2)
end Go.Proofs.Ytoifbdaaiejbnaa.D
/- What functions come to. Printed by dp.py. -/
set_option maxRecDepth 100000
namespace Go.Proofs.Ytoifbdaaiejbnaa.D
open Go
/- 71: slices_IndexFunc_api_Span_api_Span -/
noncomputable def slices_IndexFunc_api_Span_api_Span.R (call : B0.Call) (j : Nat) : B0.Rec 71 := B0.goOn call 71 Try.f71 [64] j
noncomputable def slices_IndexFunc_api_Span_api_Span.l2 (rec_ : B0.Rec 71) (s0 : List (Int × Int)) (t7 : Int) (t8 : Int) (f1_0 : Int) : Option (Int × Int) := rec_ (stk Try.f71.body 2) [.val (.cell (.sl spanRow) s0 false), .val (.fn 61 [.ptr 64 0]), .val (.cell (.int .i64) t7 false), .val (.cell (.int .i64) t8 false), .box [.pl ⟨.int .u32, f1_0⟩]]
noncomputable def slices_IndexFunc_api_Span_api_Span.t (call : B0.Call) (rec_ : B0.Rec 71) (s0 : List (Int × Int)) (f1_0_0 : Int) : Option (Int × Int) :=
  slices_IndexFunc_api_Span_api_Span.l2 rec_ s0 ((List.length s0) : Int) 0 f1_0_0
noncomputable def slices_IndexFunc_api_Span_api_Span.t2 (call : B0.Call) (rec_ : B0.Rec 71) (s0 : List (Int × Int)) (t7 : Int) (t8 : Int) (f1_0 : Int) : Option (Int × Int) :=
  bif (decide (t8 < t7)) then
   Option.bind (idx s0 t8) fun r0 =>
   Option.bind (span_In_c1.C call r0.1 r0.2 f1_0) fun r1 =>
   bif r1.1 then
    some (t8, r1.2)
   else
    slices_IndexFunc_api_Span_api_Span.l2 rec_ s0 t7 (IntKind.wrap .i64 (t8 + 1)) r1.2
  else
   some ((-1), f1_0)
theorem slices_IndexFunc_api_Span_api_Span.e (call : B0.Call) (rec_ : B0.Rec 71) (s0 : List (Int × Int)) (f1_0_0 : Int) :
    den (B0.env call 71 Try.f71 [64] rec_) 100000 false (bodyOf Try.f71.body) (entryS 0 [.cell (.sl spanRow) s0 false, .fn 61 [.box [.pl ⟨.int .u32, f1_0_0⟩]]] S.zero).1 = slices_IndexFunc_api_Span_api_Span.t call rec_ s0 f1_0_0 := by kernel_rfl
theorem slices_IndexFunc_api_Span_api_Span.s (k : Nat) (s0 : List (Int × Int)) (f1_0_0 : Int) : slices_IndexFunc_api_Span_api_Span.C (B0.call (k + 1)) s0 f1_0_0 = slices_IndexFunc_api_Span_api_Span.t (B0.call k) (slices_IndexFunc_api_Span_api_Span.R (B0.call k) k) s0 f1_0_0 :=
  (call_eq B0 rfl Try.func71 (by kernel_rfl) k _).trans (slices_IndexFunc_api_Span_api_Span.e _ _ s0 f1_0_0)
theorem slices_IndexFunc_api_Span_api_Span.e2 (call : B0.Call) (rec_ : B0.Rec 71) (s0 : List (Int × Int)) (t7 : Int) (t8 : Int) (f1_0 : Int) :
    den (B0.env call 71 Try.f71 [64] rec_) 100000 true (stk Try.f71.body 2) (putXs [.t 0, .t 1, .t 7, .t 8, .f 1 0 64 [none]] [.val (.cell (.sl spanRow) s0 false), .val (.fn 61 [.ptr 64 0]), .val (.cell (.int .i64) t7 false), .val (.cell (.int .i64) t8 false), .box [.pl ⟨.int .u32, f1_0⟩]] S.zero) = slices_IndexFunc_api_Span_api_Span.t2 call rec_ s0 t7 t8 f1_0 := by kernel_rfl
theorem slices_IndexFunc_api_Span_api_Span.s2 (call : B0.Call) (j : Nat) (s0 : List (Int × Int)) (t7 : Int) (t8 : Int) (f1_0 : Int) : slices_IndexFunc_api_Span_api_Span.l2 (slices_IndexFunc_api_Span_api_Span.R call (j + 1)) s0 t7 t8 f1_0 = slices_IndexFunc_api_Span_api_Span.t2 call (slices_IndexFunc_api_Span_api_Span.R call j) s0 t7 t8 f1_0 :=
  (goOn_eq B0 (by kernel_rfl) rfl call [64] j _).trans (slices_IndexFunc_api_Span_api_Span.e2 _ _ s0 t7 t8 f1_0)
/- 36: slices_Contains_int_int -/
noncomputable def slices_Contains_int_int.R (call : B0.Call) (j : Nat) : B0.Rec 36 := B0.goOn call 36 Try.f36 [] j
noncomputable def slices_Contains_int_int.t (call : B0.Call) (rec_ : B0.Rec 36) (s0 : List Int) (v1 : Int) : Option Bool :=
  Option.bind (slices_Index_int_int.C call s0 v1) fun r0 =>
  some (decide (r0 ≥ 0))
theorem slices_Contains_int_int.e (call : B0.Call) (rec_ : B0.Rec 36) (s0 : List Int) (v1 : Int) :
    den (B0.env call 36 Try.f36 [] rec_) 100000 false (bodyOf Try.f36.body) (entryS 0 [.cell (.sl (.one (.int .i64))) s0 true, .cell (.int .i64) v1 false] S.zero).1 = slices_Contains_int_int.t call rec_ s0 v1 := by kernel_rfl
theorem slices_Contains_int_int.s (k : Nat) (s0 : List Int) (v1 : Int) : slices_Contains_int_int.C (B0.call (k + 1)) s0 v1 = slices_Contains_int_int.t (B0.call k) (slices_Contains_int_int.R (B0.call k) k) s0 v1 :=
  (call_eq B0 rfl Try.func36 (by kernel_rfl) k _).trans (slices_Contains_int_int.e _ _ s0 v1)
/- 72: cmp_isNaN_int -/
noncomputable def cmp_isNaN_int.R (call : B0.Call) (j : Nat) : B0.Rec 72 := B0.goOn call 72 Try.f72 [] j
noncomputable def cmp_isNaN_int.t (call : B0.Call) (rec_ : B0.Rec 72) (x0 : Int) : Option Bool :=
  some (x0 != x0)
theorem cmp_isNaN_int.e (call : B0.Call) (rec_ : B0.Rec 72) (x0 : Int) :
    den (B0.env call 72 Try.f72 [] rec_) 100000 false (bodyOf Try.f72.body) (entryS 0 [.cell (.int .i64) x0 false] S.zero).1 = cmp_isNaN_int.t call rec_ x0 := by kernel_rfl
theorem cmp_isNaN_int.s (k : Nat) (x0 : Int) : cmp_isNaN_int.C (B0.call (k + 1)) x0 = cmp_isNaN_int.t (B0.call k) (cmp_isNaN_int.R (B0.call k) k) x0 :=
  (call_eq B0 rfl Try.func72 (by kernel_rfl) k _).trans (cmp_isNaN_int.e _ _ x0)
/- 61: span_In_c1 -/
noncomputable def span_In_c1.R (call : B0.Call) (j : Nat) : B0.Rec 61 := B0.goOn call 61 Try.f61 [64] j
noncomputable def span_In_c1.t (call : B0.Call) (rec_ : B0.Rec 61) (s0_0 : Int) (s0_1 : Int) (t1_0 : Int) : Option (Bool × Int) :=
  bif (decide (t1_0 ≥ s0_0)) then
   some ((decide (t1_0 ≤ s0_1)), t1_0)
  else
   some (false, t1_0)
theorem span_In_c1.e (call : B0.Call) (rec_ : B0.Rec 61) (s0_0 : Int) (s0_1 : Int) (t1_0 : Int) :
    den (B0.env call 61 Try.f61 [64] rec_) 100000 false (bodyOf Try.f61.body) (entryS 0 [.agg [⟨.int .u32, s0_0⟩, ⟨.int .u32, s0_1⟩], .box [.pl ⟨.int .u32, t1_0⟩]] S.zero).1 = span_In_c1.t call rec_ s0_0 s0_1 t1_0 := by kernel_rfl
theorem span_In_c1.s (k : Nat) (s0_0 : Int) (s0_1 : Int) (t1_0 : Int) : span_In_c1.C (B0.call (k + 1)) s0_0 s0_1 t1_0 = span_In_c1.t (B0.call k) (span_In_c1.R (B0.call k) k) s0_0 s0_1 t1_0 :=
  (call_eq B0 rfl Try.func61 (by kernel_rfl) k _).trans (span_In_c1.e _ _ s0_0 s0_1 t1_0)
/- 53: slices_Index_int_int -/
noncomputable def slices_Index_int_int.R (call : B0.Call) (j : Nat) : B0.Rec 53 := B0.goOn call 53 Try.f53 [] j
noncomputable def slices_Index_int_int.l2 (rec_ : B0.Rec 53) (s0 : List Int) (v1 : Int) (t7 : Int) (t8 : Int) : Option Int := rec_ (stk Try.f53.body 2) [.val (.cell (.sl (.one (.int .i64))) s0 true), .val (.cell (.int .i64) v1 false), .val (.cell (.int .i64) t7 false), .val (.cell (.int .i64) t8 false)]
noncomputable def slices_Index_int_int.t (call : B0.Call) (rec_ : B0.Rec 53) (s0 : List Int) (v1 : Int) : Option Int :=
  slices_Index_int_int.l2 rec_ s0 v1 ((List.length s0) : Int) 0
noncomputable def slices_Index_int_int.t2 (call : B0.Call) (rec_ : B0.Rec 53) (s0 : List Int) (v1 : Int) (t7 : Int) (t8 : Int) : Option Int :=
  bif (decide (t8 < t7)) then
   Option.bind (idx s0 t8) fun r0 =>
   bif (v1 == r0) then
    some t8
   else
    slices_Index_int_int.l2 rec_ s0 v1 t7 (IntKind.wrap .i64 (t8 + 1))
  else
   some (-1)
theorem slices_Index_int_int.e (call : B0.Call) (rec_ : B0.Rec 53) (s0 : List Int) (v1 : Int) :
    den (B0.env call 53 Try.f53 [] rec_) 100000 false (bodyOf Try.f53.body) (entryS 0 [.cell (.sl (.one (.int .i64))) s0 true, .cell (.int .i64) v1 false] S.zero).1 = slices_Index_int_int.t call rec_ s0 v1 := by kernel_rfl
theorem slices_Index_int_int.s (k : Nat) (s0 : List Int) (v1 : Int) : slices_Index_int_int.C (B0.call (k + 1)) s0 v1 = slices_Index_int_int.t (B0.call k) (slices_Index_int_int.R (B0.call k) k) s0 v1 :=
  (call_eq B0 rfl Try.func53 (by kernel_rfl) k _).trans (slices_Index_int_int.e _ _ s0 v1)
theorem slices_Index_int_int.e2 (call : B0.Call) (rec_ : B0.Rec 53) (s0 : List Int) (v1 : Int) (t7 : Int) (t8 : Int) :
    den (B0.env call 53 Try.f53 [] rec_) 100000 true (stk Try.f53.body 2) (putXs [.t 0, .t 1, .t 7, .t 8] [.val (.cell (.sl (.one (.int .i64))) s0 true), .val (.cell (.int .i64) v1 false), .val (.cell (.int .i64) t7 false), .val (.cell (.int .i64) t8 false)] S.zero) = slices_Index_int_int.t2 call rec_ s0 v1 t7 t8 := by kernel_rfl
theorem slices_Index_int_int.s2 (call : B0.Call) (j : Nat) (s0 : List Int) (v1 : Int) (t7 : Int) (t8 : Int) : slices_Index_int_int.l2 (slices_Index_int_int.R call (j + 1)) s0 v1 t7 t8 = slices_Index_int_int.t2 call (slices_Index_int_int.R call j) s0 v1 t7 t8 :=
  (goOn_eq B0 (by kernel_rfl) rfl call [] j _).trans (slices_Index_int_int.e2 _ _ s0 v1 t7 t8)
end Go.Proofs.Ytoifbdaaiejbnaa.D
/- All that functions come to. -/
namespace Go.Proofs.Ytoifbdaaiejbnaa.D
end Go.Proofs.Ytoifbdaaiejbnaa.D
/- What the functions on patterns come to: pat.Size. -/
namespace Go.Proofs.Ytoifbdaaiejbnaa.D
open Go

theorem pat_Size.loop (call : B0.Call) (l : List Pat) (hl : l.length < 9223372036854775807) (h : ∀ p ∈ l, pat_Size.C call p.kind p.set p.subs = some ((p.parts : Int), (p.deep : Int))) :
    ∀ (r : List Pat) (i j a d : Nat), l.drop i = r → r.length < j → a + Pat.partsL r < 9223372036854775807 → max d (Pat.deepL r) < 9223372036854775807 →
      pat_Size.l3 (pat_Size.R call j) a d l l.length i = some (((a + Pat.partsL r : Nat) : Int), ((max d (Pat.deepL r) + 1 : Nat) : Int)) := by
  intro r
  induction r with
  | nil =>
    intro i j a d hr hj ha hd
    obtain ⟨m, rfl, hm⟩ := succ_of hj
    rw [pat_Size.s3, pat_Size.t3, dec_ge (drop_nil' hr), cond_false]
    rw [Pat.deepL] at hd
    rw [Pat.partsL, Pat.deepL, Nat.max_zero, wrapS d (by omega)]
    rfl
  | cons p r ih =>
    intro i j a d hr hj ha hd
    obtain ⟨m, rfl, hm⟩ := succ_of hj
    obtain ⟨h1, h2, h3⟩ := drop_cons' hr
    rw [Pat.partsL] at ha
    rw [Pat.deepL] at hd
    rw [pat_Size.s3, pat_Size.t3, dec_lt h1, cond_true, idx_nat, h2, Option.bind_some, h p (List.mem_of_getElem? h2), Option.bind_some, wrapS i (by omega), maxI_nat]
    have e : IntKind.wrap .i64 ((a : Int) + (p.parts : Int)) = ((a + p.parts : Nat) : Int) := by rw [wrap64 (by omega) (by omega)]; omega
    rw [List.length_cons] at hj
    rw [e, ih (i + 1) m (a + p.parts) (max d p.deep) h3 (by omega) (by omega) (by omega), Pat.partsL, Pat.deepL]
    congr 3 <;> omega

theorem pat_Size.spec : ∀ (k : Nat) (p : Pat), p.sz < k → p.sz < 4611686018427387904 → pat_Size.C (B0.call k) p.kind p.set p.subs = some ((p.parts : Int), (p.deep : Int)) := by
  intro k
  induction k with
  | zero => intro p h; omega
  | succ k ih =>
    intro p hk hp
    have e := p.sz_eq
    have e1 := Pat.szL_len p.subs
    have e2 := Pat.partsL_le p.subs
    have e3 := Pat.deepL_le p.subs
    rw [pat_Size.s, pat_Size.t]
    refine (pat_Size.loop (B0.call k) p.subs (by omega) (fun q hq => ih q ?_ ?_) p.subs 0 k 1 0 (List.drop_zero) (by omega) (by omega) (by omega)).trans ?_
    · have := Pat.sz_sub hq; omega
    · have := Pat.sz_sub hq; omega
    · rw [p.parts_eq, p.deep_eq]; congr 3 <;> omega

/- pat.fits -/
theorem fitsIdx.loop (call : B0.Call) (l : List Pat) (hl : l.length < 9223372036854775807) (h : ∀ p ∈ l, pat_fits_c1.C call p.kind p.set p.subs = some (!p.fits)) :
    ∀ (r : List Pat) (i j : Nat), l.drop i = r → r.length < j →
      ∃ n : Int, slices_IndexFunc_api_Pat_api_Pat.l2 (slices_IndexFunc_api_Pat_api_Pat.R call j) l l.length i = some n ∧ decide (n ≥ 0) = !(Pat.fitsL r) := by
  intro r
  induction r with
  | nil =>
    intro i j hr hj
    obtain ⟨m, rfl, hm⟩ := succ_of hj
    rw [slices_IndexFunc_api_Pat_api_Pat.s2, slices_IndexFunc_api_Pat_api_Pat.t2, dec_ge (drop_nil' hr), cond_false, Pat.fitsL]
    exact ⟨_, rfl, rfl⟩
  | cons p r ih =>
    intro i j hr hj
    obtain ⟨m, rfl, hm⟩ := succ_of hj
    obtain ⟨h1, h2, h3⟩ := drop_cons' hr
    rw [List.length_cons] at hj
    rw [slices_IndexFunc_api_Pat_api_Pat.s2, slices_IndexFunc_api_Pat_api_Pat.t2, dec_lt h1, cond_true, idx_nat, h2, Option.bind_some, h p (List.mem_of_getElem? h2), Option.bind_some, wrapS i (by omega), Pat.fitsL]
    cases hp : p.fits with
    | true =>
      obtain ⟨n, e1, e2⟩ := ih (i + 1) m h3 (by omega)
      exact ⟨n, e1, by rw [e2]; rfl⟩
    | false => exact ⟨(i : Int), rfl, decide_eq_true (by omega)⟩

theorem pat_fits.spec : ∀ (n : Nat) (p : Pat) (k : Nat), p.sz ≤ n → 5 * n < k → n < 4611686018427387904 → pat_fits.C (B0.call k) p.kind p.set p.subs = some p.fits := by
  intro n
  induction n with
  | zero => intro p k h; rw [p.sz_eq] at h; omega
  | succ n ih =>
    intro p k hp hk hn
    obtain ⟨m, rfl⟩ : ∃ m, k = m + 4 := ⟨k - 4, by omega⟩
    have e := p.sz_eq
    have e1 := Pat.szL_len p.subs
    have con : slices_ContainsFunc_api_Pat_api_Pat.C (B0.call (m + 3)) p.subs = some (!(Pat.fitsL p.subs)) := by
      rw [slices_ContainsFunc_api_Pat_api_Pat.s, slices_ContainsFunc_api_Pat_api_Pat.t, slices_IndexFunc_api_Pat_api_Pat.s, slices_IndexFunc_api_Pat_api_Pat.t]
      obtain ⟨q, h1, h2⟩ := fitsIdx.loop (B0.call (m + 1)) p.subs (by omega) (fun q hq => by
        rw [pat_fits_c1.s, pat_fits_c1.t, ih q m (by have := Pat.sz_sub hq; omega) (by omega) (by omega)]; rfl) p.subs 0 (m + 1) List.drop_zero (by omega)
      have h1 : slices_IndexFunc_api_Pat_api_Pat.l2 (slices_IndexFunc_api_Pat_api_Pat.R (B0.call (m + 1)) (m + 1)) p.subs p.subs.length 0 = some q := h1
      rw [h1, Option.bind_some, h2]
    rw [pat_fits.s, pat_fits.t, con, p.fits_eq]
    simp only [Option.bind_some, Bool.cond_eq_ite, beq_iff_eq, bne_iff_ne, Bool.not_not]
    have z1 : ((p.subs.length : Int) = 0) ↔ p.subs.length = 0 := by omega
    have z2 : ((p.set.length : Int) = 0) ↔ p.set.length = 0 := by omega
    have z3 : ((p.subs.length : Int) = 1) ↔ p.subs.length = 1 := by omega
    have z4 : ((p.set.length : Int) ≤ 256) ↔ p.set.length ≤ 256 := by omega
    simp only [z1, z2, z3, z4]
    by_cases k1 : p.kind = 1
    · by_cases h0 : p.subs.length = 0 <;> simp [k1, h0]
    · by_cases k2 : p.kind = 2
      · by_cases h0 : p.set.length = 0 <;> simp [k2, h0]
      · by_cases k3 : p.kind = 3
        · by_cases h0 : p.set.length = 0 <;> simp [k3, h0]
        · by_cases k4 : p.kind = 4
          · by_cases h0 : p.set.length = 0 <;> by_cases h1 : p.subs.length = 1 <;> simp [k4, h0, h1]
          · simp [k1, k2, k3, k4]

theorem pat_Right.spec (p : Pat) (k : Nat) (hk : 5 * p.sz + 1 < k) (hn : p.sz < 4611686018427387904) : pat_Right.C (B0.call k) p.kind p.set p.subs = some p.right := by
  obtain ⟨m, rfl⟩ : ∃ m, k = m + 1 := ⟨k - 1, by omega⟩
  rw [pat_Right.s, pat_Right.t, pat_Size.spec m p (by omega) hn, pat_fits.spec p.sz p m (Nat.le_refl _) (by omega) hn]
  unfold Pat.right
  by_cases h1 : p.parts ≤ 200
  · by_cases h2 : p.deep ≤ 40
    · have h1' : (p.parts : Int) ≤ 200 := by omega
      have h2' : (p.deep : Int) ≤ 40 := by omega
      simp [h1, h2, h1', h2']
    · have h1' : (p.parts : Int) ≤ 200 := by omega
      have h2' : ¬ (p.deep : Int) ≤ 40 := by omega
      simp [h2, h1', h2']
  · have h1' : ¬ (p.parts : Int) ≤ 200 := by omega
    simp [h1, h1']

end Go.Proofs.Ytoifbdaaiejbnaa.D
/- What the functions on patterns come to, by a pattern's parts alone (its sets may be of any length): pat.Size, pat.Right, the document's Size and Great. -/
namespace Go.Proofs.Ytoifbdaaiejbnaa.D
open Go

theorem Pat.parts_pos (p : Pat) : 0 < p.parts := by rw [p.parts_eq]; omega
theorem Pat.partsL_len : ∀ l : List Pat, l.length ≤ Pat.partsL l
  | [] => Nat.le_refl 0
  | p :: l => by rw [Pat.partsL, List.length_cons]; have := Pat.partsL_len l; have := p.parts_pos; omega
theorem Pat.partsL_mem : ∀ {l : List Pat} {p : Pat}, p ∈ l → p.parts ≤ Pat.partsL l
  | q :: l, p, h => by
    rw [Pat.partsL]
    rcases List.mem_cons.mp h with rfl | h
    · omega
    · have := Pat.partsL_mem h; omega
theorem Pat.parts_sub {p q : Pat} (h : q ∈ p.subs) : q.parts < p.parts := by
  rw [p.parts_eq]; have := Pat.partsL_mem h; omega

theorem pat_Size.specP : ∀ (k : Nat) (p : Pat), p.parts < k → p.parts < 4611686018427387904 → pat_Size.C (B0.call k) p.kind p.set p.subs = some ((p.parts : Int), (p.deep : Int)) := by
  intro k
  induction k with
  | zero => intro p h; omega
  | succ k ih =>
    intro p hk hp
    have e := p.parts_eq
    have e1 := Pat.partsL_len p.subs
    have e3 := Pat.deepL_le p.subs
    rw [pat_Size.s, pat_Size.t]
    refine (pat_Size.loop (B0.call k) p.subs (by omega) (fun q hq => ih q ?_ ?_) p.subs 0 k 1 0 (List.drop_zero) (by omega) (by omega) (by omega)).trans ?_
    · have := Pat.parts_sub hq; omega
    · have := Pat.parts_sub hq; omega
    · rw [p.parts_eq, p.deep_eq]; congr 3 <;> omega

theorem pat_fits.specP : ∀ (n : Nat) (p : Pat) (k : Nat), p.parts ≤ n → 5 * n < k → n < 4611686018427387904 → pat_fits.C (B0.call k) p.kind p.set p.subs = some p.fits := by
  intro n
  induction n with
  | zero => intro p k h; rw [p.parts_eq] at h; omega
  | succ n ih =>
    intro p k hp hk hn
    obtain ⟨m, rfl⟩ : ∃ m, k = m + 4 := ⟨k - 4, by omega⟩
    have e := p.parts_eq
    have e1 := Pat.partsL_len p.subs
    have con : slices_ContainsFunc_api_Pat_api_Pat.C (B0.call (m + 3)) p.subs = some (!(Pat.fitsL p.subs)) := by
      rw [slices_ContainsFunc_api_Pat_api_Pat.s, slices_ContainsFunc_api_Pat_api_Pat.t, slices_IndexFunc_api_Pat_api_Pat.s, slices_IndexFunc_api_Pat_api_Pat.t]
      obtain ⟨q, h1, h2⟩ := fitsIdx.loop (B0.call (m + 1)) p.subs (by omega) (fun q hq => by
        rw [pat_fits_c1.s, pat_fits_c1.t, ih q m (by have := Pat.parts_sub hq; omega) (by omega) (by omega)]; rfl) p.subs 0 (m + 1) List.drop_zero (by omega)
      have h1 : slices_IndexFunc_api_Pat_api_Pat.l2 (slices_IndexFunc_api_Pat_api_Pat.R (B0.call (m + 1)) (m + 1)) p.subs p.subs.length 0 = some q := h1
      rw [h1, Option.bind_some, h2]
    rw [pat_fits.s, pat_fits.t, con, p.fits_eq]
    simp only [Option.bind_some, Bool.cond_eq_ite, beq_iff_eq, bne_iff_ne, Bool.not_not]
    have z1 : ((p.subs.length : Int) = 0) ↔ p.subs.length = 0 := by omega
    have z2 : ((p.set.length : Int) = 0) ↔ p.set.length = 0 := by omega
    have z3 : ((p.subs.length : Int) = 1) ↔ p.subs.length = 1 := by omega
    have z4 : ((p.set.length : Int) ≤ 256) ↔ p.set.length ≤ 256 := by omega
    simp only [z1, z2, z3, z4]
    by_cases k1 : p.kind = 1
    · by_cases h0 : p.subs.length = 0 <;> simp [k1, h0]
    · by_cases k2 : p.kind = 2
      · by_cases h0 : p.set.length = 0 <;> simp [k2, h0]
      · by_cases k3 : p.kind = 3
        · by_cases h0 : p.set.length = 0 <;> simp [k3, h0]
        · by_cases k4 : p.kind = 4
          · by_cases h0 : p.set.length = 0 <;> by_cases h1 : p.subs.length = 1 <;> simp [k4, h0, h1]
          · simp [k1, k2, k3, k4]

theorem pat_Right.specP (p : Pat) (k : Nat) (hk : 5 * p.parts + 1 < k) (hn : p.parts < 4611686018427387904) : pat_Right.C (B0.call k) p.kind p.set p.subs = some p.right := by
  obtain ⟨m, rfl⟩ : ∃ m, k = m + 1 := ⟨k - 1, by omega⟩
  rw [pat_Right.s, pat_Right.t, pat_Size.specP m p (by omega) hn, pat_fits.specP p.parts p m (Nat.le_refl _) (by omega) hn]
  unfold Pat.right
  by_cases h1 : p.parts ≤ 200
  · by_cases h2 : p.deep ≤ 40
    · have h1' : (p.parts : Int) ≤ 200 := by omega
      have h2' : (p.deep : Int) ≤ 40 := by omega
      simp [h1, h2, h1', h2']
    · have h1' : (p.parts : Int) ≤ 200 := by omega
      have h2' : ¬ (p.deep : Int) ≤ 40 := by omega
      simp [h2, h1', h2']
  · have h1' : ¬ (p.parts : Int) ≤ 200 := by omega
    simp [h1, h1']

/- the document's Size: parts up to a million -/
theorem minI_nat (a b : Nat) : minI (a : Int) (b : Int) = ((min a b : Nat) : Int) := by
  unfold minI; split <;> omega


theorem ref05_Size.loop (call : B0.Call) (l : List Pat) (hl : l.length ≤ 9223372036854775807) (h : ∀ p ∈ l, ∃ d, ref05_Size.C call p.kind p.set p.subs = some (((min p.parts 1000000 : Nat) : Int), d)) :
    ∀ (r : List Pat) (i j a : Nat) (d : Int), l.drop i = r → r.length < j →
      ∃ d', ref05_Size.l3 (ref05_Size.R call j) ((min a 1000000 : Nat) : Int) d l l.length i = some (((min (a + Pat.partsL r) 1000000 : Nat) : Int), d') := by
  intro r
  induction r with
  | nil =>
    intro i j a d hr hj
    obtain ⟨m, rfl, hm⟩ := succ_of hj
    rw [ref05_Size.s3, ref05_Size.t3, dec_ge (drop_nil' hr), cond_false, Pat.partsL]
    exact ⟨_, rfl⟩
  | cons p r ih =>
    intro i j a d hr hj
    obtain ⟨m, rfl, hm⟩ := succ_of hj
    obtain ⟨h1, h2, h3⟩ := drop_cons' hr
    rw [List.length_cons] at hj
    obtain ⟨d1, e1⟩ := h p (List.mem_of_getElem? h2)
    rw [ref05_Size.s3, ref05_Size.t3, dec_lt h1, cond_true, idx_nat, h2, Option.bind_some, e1, Option.bind_some, wrapS i (by omega)]
    have e2 : IntKind.wrap .i64 (((min a 1000000 : Nat) : Int) + ((min p.parts 1000000 : Nat) : Int)) = ((min a 1000000 + min p.parts 1000000 : Nat) : Int) := by rw [wrap64 (by omega) (by omega)]; omega
    have e3 : minI (IntKind.wrap .i64 (((min a 1000000 : Nat) : Int) + ((min p.parts 1000000 : Nat) : Int))) 1000000 = ((min (a + p.parts) 1000000 : Nat) : Int) := by
      rw [e2]
      refine (minI_nat _ 1000000).trans ?_
      congr 1
      omega
    rw [e3]
    obtain ⟨d', e4⟩ := ih (i + 1) m (a + p.parts) (maxI d d1) h3 (by omega)
    refine ⟨d', e4.trans ?_⟩
    rw [Pat.partsL, Nat.add_assoc]

/- every list in a pattern is as long as Go's lists are at most -/

inductive Pat.Lens : Pat → Prop
  | mk (k : Int) (s : List (Int × Int)) (l : List Pat) (hl : ∀ p ∈ l, Pat.Lens p) (hs : s.length ≤ 9223372036854775807) (hll : l.length ≤ 9223372036854775807) : Pat.Lens (.mk k s l)

theorem ref05_Size.spec : ∀ (k : Nat) (p : Pat), p.Lens → p.parts < k → ∃ d, ref05_Size.C (B0.call k) p.kind p.set p.subs = some (((min p.parts 1000000 : Nat) : Int), d) := by
  intro k
  induction k with
  | zero => intro p _ h; omega
  | succ k ih =>
    intro p hp hk
    cases hp with
    | mk kd s l hl hs hll =>
    have e := (Pat.mk kd s l).parts_eq
    have e1 := Pat.partsL_len l
    have e : (Pat.mk kd s l).parts = Pat.partsL l + 1 := e
    show ∃ d, ref05_Size.C (B0.call (k + 1)) kd s l = _
    rw [ref05_Size.s, ref05_Size.t]
    obtain ⟨d, e2⟩ := ref05_Size.loop (B0.call k) l hll (fun q hq => ih q (hl q hq) (by have := Pat.partsL_mem hq; omega)) l 0 k 1 0 (List.drop_zero) (by omega)
    refine ⟨d, e2.trans ?_⟩
    rw [e, Nat.add_comm]

theorem ref05_Great.spec (p : Pat) (k : Nat) (hp : p.Lens) (hk : p.parts < k) : ref05_Great.C (B0.call (k + 1)) p.kind p.set p.subs = some (decide (3000 < p.parts)) := by
  obtain ⟨d, e⟩ := ref05_Size.spec k p hp hk
  rw [ref05_Great.s, ref05_Great.t, e, Option.bind_some]
  congr 1
  by_cases h : 3000 < p.parts
  · rw [decide_eq_true h]; exact decide_eq_true (by show ((min p.parts 1000000 : Nat) : Int) > 3000; omega)
  · rw [decide_eq_false h]; exact decide_eq_false (by show ¬ ((min p.parts 1000000 : Nat) : Int) > 3000; omega)

end Go.Proofs.Ytoifbdaaiejbnaa.D
/- Rising lists: binary search, slices.Insert, pos.with. -/
namespace Go.Proofs.Ytoifbdaaiejbnaa.D
open Go

def ins (k : Int) : List Int → List Int
  | [] => [k]
  | x :: l => if k < x then k :: x :: l else if k = x then x :: l else x :: ins k l
def withL (l more : List Int) : List Int := more.foldl (fun o k => ins k o) l
def Rise (l : List Int) : Prop := l.Pairwise (· < ·)

theorem ins_mem (k : Int) : ∀ (l : List Int) (x : Int), x ∈ ins k l ↔ x = k ∨ x ∈ l
  | [], x => by simp [ins]
  | y :: l, x => by
    rw [ins]
    split
    · simp
    · split
      · rename_i h; subst h; simp
      · rw [List.mem_cons, ins_mem k l x, List.mem_cons]
        constructor
        · rintro (h | h | h) <;> simp [h]
        · rintro (h | h | h) <;> simp [h]

theorem ins_len (k : Int) : ∀ l : List Int, (ins k l).length ≤ l.length + 1
  | [] => Nat.le_refl _
  | y :: l => by
    have := ins_len k l
    rw [ins]
    split
    · exact Nat.le_refl _
    · split
      · exact Nat.le_succ _
      · rw [List.length_cons, List.length_cons]; omega

theorem ins_rise (k : Int) : ∀ (l : List Int), Rise l → Rise (ins k l)
  | [], _ => by simp [ins, Rise]
  | y :: l, h => by
    have h1 := List.pairwise_cons.mp h
    rw [ins]
    split
    · rename_i hk
      refine List.pairwise_cons.mpr ⟨fun z hz => ?_, h⟩
      rcases List.mem_cons.mp hz with rfl | hz
      · exact hk
      · exact Int.lt_trans hk (h1.1 z hz)
    · split
      · exact h
      · rename_i hk hk2
        refine List.pairwise_cons.mpr ⟨fun z hz => ?_, ins_rise k l h1.2⟩
        rcases (ins_mem k l z).mp hz with rfl | hz
        · omega
        · exact h1.1 z hz

theorem withL_mem : ∀ (more l : List Int) (x : Int), x ∈ withL l more ↔ x ∈ l ∨ x ∈ more
  | [], l, x => by simp [withL]
  | k :: more, l, x => by
    have := withL_mem more (ins k l) x
    rw [show withL l (k :: more) = withL (ins k l) more from rfl, this, ins_mem, List.mem_cons]
    constructor
    · rintro ((h | h) | h) <;> simp [h]
    · rintro (h | h | h) <;> simp [h]

theorem withL_rise : ∀ (more l : List Int), Rise l → Rise (withL l more)
  | [], l, h => h
  | k :: more, l, h => withL_rise more (ins k l) (ins_rise k l h)

theorem rise_len_from : ∀ (l : List Int) (a n : Int), Rise l → (∀ x ∈ l, a ≤ x ∧ x < n) → l.length ≤ (n - a).toNat
  | [], _, _, _, _ => Nat.zero_le _
  | x :: l, a, n, h, hb => by
    have h1 := List.pairwise_cons.mp h
    have h2 := hb x List.mem_cons_self
    have := rise_len_from l (x + 1) n h1.2 (fun y hy => ⟨by have := h1.1 y hy; omega, (hb y (List.mem_cons_of_mem _ hy)).2⟩)
    rw [List.length_cons]
    omega

theorem rise_len {l : List Int} {n : Nat} (h : Rise l) (hb : ∀ x ∈ l, 0 ≤ x ∧ x < n) : l.length ≤ n := by
  have := rise_len_from l 0 n h hb
  omega

theorem ins_at (k : Int) : ∀ (l : List Int) (i : Nat), i ≤ l.length → (∀ j x, l[j]? = some x → j < i → x < k) → (∀ j x, l[j]? = some x → i ≤ j → k < x) → ins k l = l.take i ++ [k] ++ l.drop i
  | [], i, hi, _, _ => by simp at hi; subst hi; rfl
  | x :: l, 0, _, _, h => by
    have := h 0 x rfl (Nat.le_refl 0)
    rw [ins, if_pos this]; rfl
  | x :: l, i + 1, hi, h1, h2 => by
    have := h1 0 x rfl (Nat.succ_pos _)
    rw [ins, if_neg (by omega), if_neg (by omega), ins_at k l i (by simpa using hi) (fun j y hj hji => h1 (j + 1) y hj (by omega)) (fun j y hj hji => h2 (j + 1) y hj (by omega))]
    rfl

theorem ins_in (k : Int) : ∀ (l : List Int), Rise l → k ∈ l → ins k l = l
  | x :: l, h, hk => by
    have h1 := List.pairwise_cons.mp h
    rw [ins]
    rcases List.mem_cons.mp hk with rfl | hk
    · rw [if_neg (by omega), if_pos rfl]
    · have := h1.1 k hk
      rw [if_neg (by omega), if_neg (by omega), ins_in k l h1.2 hk]

theorem half64 {i j : Nat} (h : i + j < 9223372036854775807) : IntKind.wrap .i64 (shrI .u64 (IntKind.wrap .u64 (IntKind.wrap .i64 ((i : Int) + (j : Int)))) 1) = (((i + j) / 2 : Nat) : Int) := by
  have e0 : IntKind.wrap .i64 ((i : Int) + (j : Int)) = (i : Int) + (j : Int) := wrap64 (by omega) (by omega)
  rw [e0]
  have e1 : IntKind.wrap .u64 ((i : Int) + (j : Int)) = (i : Int) + (j : Int) := by rw [IntKind.wrap_u64]; omega
  rw [e1]
  have e2 : shrI .u64 ((i : Int) + (j : Int)) 1 = (((i + j) / 2 : Nat) : Int) := by
    unfold shrI
    rw [show (2 : Int) ^ (min (Int.toNat 1) IntKind.u64.bits) = 2 from by decide, Int.fdiv_eq_ediv_of_nonneg _ (by decide)]
    omega
  rw [e2, wrap64 (by omega) (by omega)]

structure Less (C : B0.Call) : Prop where
  less : ∀ x y, cmp_Less_int.C C x y = some (decide (x < y))
  nan : ∀ x, slices_isNaN_int.C C x = some false

theorem less_ok (k : Nat) : Less (B0.call (k + 2)) where
  less x y := by
    rw [cmp_Less_int.s, cmp_Less_int.t, cmp_isNaN_int.s, cmp_isNaN_int.t]
    simp
  nan x := by
    rw [slices_isNaN_int.s, slices_isNaN_int.t]
    simp

theorem search.loop {C : B0.Call} (hC : Less C) (l : List Int) (k : Int) (hl : l.length < 1099511627776) (hr : Rise l) : ∀ (m i j : Nat), i ≤ j → j ≤ l.length → j - i < m → (∀ a x, l[a]? = some x → a < i → x < k) → (∀ a x, l[a]? = some x → j ≤ a → k ≤ x) →
    ∃ r : Nat, slices_BinarySearch_int_int.l3 (slices_BinarySearch_int_int.R C m) l k l.length i j = some ((r : Int), decide (k ∈ l)) ∧ r ≤ l.length ∧ (∀ a x, l[a]? = some x → a < r → x < k) ∧ (∀ a x, l[a]? = some x → r ≤ a → k ≤ x) := by
  intro m
  induction m with
  | zero => intro i j _ _ h; omega
  | succ m ih =>
    intro i j hij hj hm h1 h2
    rw [slices_BinarySearch_int_int.s3, slices_BinarySearch_int_int.t3, half64 (by omega)]
    by_cases hlt : i < j
    · have hh : (i + j) / 2 < l.length := by omega
      rw [dec_lt hlt, cond_true, idx_nat, List.getElem?_eq_getElem hh, Option.bind_some, hC.less, Option.bind_some]
      by_cases hx : l[(i + j) / 2] < k
      · rw [decide_eq_true hx, cond_true, wrapS _ (by omega)]
        refine ih _ _ (by omega) hj (by omega) (fun a x ha hai => ?_) h2
        by_cases e : a = (i + j) / 2
        · subst e; rw [List.getElem?_eq_getElem hh] at ha; cases ha; exact hx
        · have hal := (List.getElem?_eq_some_iff.1 ha).1
          have := (List.pairwise_iff_getElem.mp hr) a ((i + j) / 2) hal hh (by omega)
          rw [List.getElem?_eq_getElem hal] at ha
          cases ha
          omega
      · rw [decide_eq_false hx, cond_false]
        refine ih _ _ (by omega) (by omega) (by omega) h1 (fun a x ha hai => ?_)
        by_cases e : a = (i + j) / 2
        · subst e; rw [List.getElem?_eq_getElem hh] at ha; cases ha; omega
        · have hal := (List.getElem?_eq_some_iff.1 ha).1
          have := (List.pairwise_iff_getElem.mp hr) ((i + j) / 2) a hh hal (by omega)
          rw [List.getElem?_eq_getElem hal] at ha
          cases ha
          omega
    · have e : i = j := by omega
      subst e
      rw [dec_ge (Nat.le_refl _), cond_false]
      have key : decide (k ∈ l) = (match l[i]? with | some x => decide (x = k) | none => false) := by
        cases hx : l[i]? with
        | none =>
          refine decide_eq_false fun hk => ?_
          obtain ⟨a, ha⟩ := List.getElem?_of_mem hk
          have hal := (List.getElem?_eq_some_iff.1 ha).1
          have := List.getElem?_eq_none_iff.mp hx
          have := h1 a k ha (by omega)
          omega
        | some x =>
          by_cases e : x = k
          · subst e
            rw [decide_eq_true (List.mem_of_getElem? hx)]
            simp
          · show decide (k ∈ l) = decide (x = k)
            rw [decide_eq_false e]
            refine decide_eq_false fun hk => ?_
            obtain ⟨a, ha⟩ := List.getElem?_of_mem hk
            rcases Nat.lt_trichotomy a i with h | h | h
            · have := h1 a k ha h; omega
            · subst h; rw [ha] at hx; cases hx; exact e rfl
            · have hal := (List.getElem?_eq_some_iff.1 ha).1
              have hil := (List.getElem?_eq_some_iff.1 hx).1
              have h5 := (List.pairwise_iff_getElem.mp hr) i a hil hal h
              rw [List.getElem?_eq_getElem hal] at ha
              rw [List.getElem?_eq_getElem hil] at hx
              cases ha; cases hx
              have := h2 i _ (List.getElem?_eq_getElem hil) (Nat.le_refl _)
              omega
      refine ⟨i, ?_, hj, h1, h2⟩
      rw [key, idx_nat]
      by_cases hi : i < l.length
      · rw [dec_lt hi, cond_true, List.getElem?_eq_getElem hi, Option.bind_some, Option.bind_some, hC.nan, Option.bind_some, cond_false]
        have e9 : (l[i] == k) = decide (l[i] = k) := rfl
        rw [e9]
        show (bif decide (l[i] = k) then some ((i : Int), true) else some ((i : Int), false)) = some ((i : Int), decide (l[i] = k))
        cases decide (l[i] = k) <;> rfl
      · rw [dec_ge (by omega), cond_false, List.getElem?_eq_none (by omega)]

structure WithF (C : B0.Call) : Prop where
  clone : ∀ l, l.length < 1099511627776 → slices_Clone_int_int.C C l = some l
  search : ∀ l k, l.length < 1099511627776 → Rise l → ∃ r : Nat, slices_BinarySearch_int_int.C C l k = some ((r : Int), decide (k ∈ l)) ∧ r ≤ l.length ∧ (∀ a x, l[a]? = some x → a < r → x < k) ∧ (∀ a x, l[a]? = some x → r ≤ a → k ≤ x)
  insert : ∀ l i v, slices_Insert_int_int.C C l i v = insI 3 3 l i v

theorem clone_int (k : Nat) (l : List Int) (hl : l.length < 1099511627776) : slices_Clone_int_int.C (B0.call (k + 1)) l = some l := by
  rw [slices_Clone_int_int.s, slices_Clone_int_int.t, room_ok (by omega)]
  cases l with
  | nil => rfl
  | cons x l => rfl

theorem withF_ok (k : Nat) (hk : 1099511627776 < k) : WithF (B0.call (k + 3)) where
  clone l hl := clone_int _ l hl
  search l x hl hr := by
    rw [slices_BinarySearch_int_int.s, slices_BinarySearch_int_int.t]
    exact search.loop (less_ok k) l x hl hr _ 0 l.length (Nat.zero_le _) (Nat.le_refl _) (by omega) (fun a x _ h => by omega) (fun a x h1 h2 => by have := (List.getElem?_eq_some_iff.1 h1).1; omega)
  insert l i v := rfl

theorem pos_with.loop {C : B0.Call} (hC : WithF C) (more : List Int) : ∀ (r : List Int) (i j : Nat) (o : List Int), more.drop i = r → r.length < j → more.length < 549755813888 → Rise o → o.length + r.length < 549755813888 →
    pos_with.l3 (pos_with.R C j) o more more.length i = some (withL o r) := by
  intro r
  induction r with
  | nil =>
    intro i j o hr hj _ _ _
    obtain ⟨m, rfl, hm⟩ := succ_of hj
    rw [pos_with.s3, pos_with.t3, dec_ge (drop_nil' hr), cond_false]
    rfl
  | cons x r ih =>
    intro i j o hr hj hl ho hlen
    obtain ⟨m, rfl, hm⟩ := succ_of hj
    obtain ⟨h1, h2, h3⟩ := drop_cons' hr
    rw [List.length_cons] at hj hlen
    obtain ⟨p, e1, e2, e3, e4⟩ := hC.search o x (by omega) ho
    rw [pos_with.s3, pos_with.t3, dec_lt h1, cond_true, idx_nat, h2, Option.bind_some, e1, Option.bind_some, wrapS i (by omega)]
    have step : ∀ o', o' = ins x o → pos_with.l3 (pos_with.R C m) o' more more.length ((i + 1 : Nat) : Int) = some (withL o (x :: r)) := by
      rintro o' rfl
      refine ih (i + 1) m (ins x o) h3 (by omega) hl (ins_rise x o ho) ?_
      have := ins_len x o
      omega
    by_cases hx : x ∈ o
    · rw [decide_eq_true hx]
      exact step o (ins_in x o ho hx).symm
    · rw [decide_eq_false hx]
      show Option.bind (slices_Insert_int_int.C C o p [x]) _ = _
      have e5 : insI 3 3 o p [x] = some (o.take p ++ [x] ++ o.drop p) := by
        unfold insI
        rw [if_pos ⟨rfl, rfl, by omega, by omega, by simp, by simp; omega⟩]
        rfl
      rw [hC.insert, e5, Option.bind_some]
      refine step _ (ins_at x o p e2 e3 (fun a y ha hpa => ?_)).symm
      have := e4 a y ha hpa
      rcases Int.lt_or_eq_of_le this with h | h
      · exact h
      · subst h; exact absurd (List.mem_of_getElem? ha) hx

theorem pos_with.spec (l more : List Int) (k : Nat) (hk : 1099511627776 + 3 < k) (hl : l.length < 274877906944) (hm : more.length < 274877906944) (hr : Rise l) : pos_with.C (B0.call (k + 1)) l more = some (withL l more) := by
  obtain ⟨m, rfl⟩ : ∃ m, k = m + 3 := ⟨k - 3, by omega⟩
  rw [pos_with.s, pos_with.t, (withF_ok m (by omega)).clone l (by omega), Option.bind_some]
  exact pos_with.loop (withF_ok m (by omega)) more more 0 _ l List.drop_zero (by omega) (by omega) hr (by omega)

end Go.Proofs.Ytoifbdaaiejbnaa.D
/- slices.SortFunc at spans, by their begins: over the slice it is given. -/
namespace Go.Proofs.Ytoifbdaaiejbnaa.D
open Go Go.RowKit Go.Sort Go.Shelf Go.Lib

section
variable {α : Type} [Inhabited α] {enc : α → List Value} {sz e g cap n : Nat} {w : World} {cur : Array Value} {l : List α}

/- the cells of a row, in the sort's words -/
theorem flat_of (hk : ∀ x, (enc x).length = sz) (hpos : 0 < sz) {xs : List Value} (hx : ∀ (i j : Nat) x v, l[i]? = some x → (enc x)[j]? = some v → xs[i * sz + j]? = some v) (t : Nat) (ht : t < l.length * sz) :
    xs[t]? = some ((flatK enc sz l.toArray)[t]!) := by
  rw [get_flatK enc sz l.toArray t (by simpa using ht)]
  have hq : t / sz < l.length := Nat.div_lt_of_lt_mul (by rw [Nat.mul_comm]; exact ht)
  have hm : t % sz < sz := Nat.mod_lt _ hpos
  have e1 : l.toArray[t / sz]! = l[t / sz] := by rw [getElem!_pos l.toArray _ (by simpa using hq)]; simp
  have hm' : t % sz < (enc l[t / sz]).length := by rw [hk]; exact hm
  rw [e1, getElem!_pos (enc l[t / sz]) _ hm']
  have := hx (t / sz) (t % sz) l[t / sz] ((enc l[t / sz])[t % sz]'hm') (List.getElem?_eq_getElem hq) (List.getElem?_eq_getElem hm')
  rwa [Nat.div_add_mod'] at this

theorem holds_of (hk : ∀ x, (enc x).length = sz) (hpos : 0 < sz) (hb : w.heap[g]? = some (.cells cur e (0, 0))) (hc : l.length * sz ≤ cur.size)
    (hx : ∀ (i j : Nat) x v, l[i]? = some x → (enc x)[j]? = some v → cur.toList[i * sz + j]? = some v) : HoldsK enc sz w g 0 l.toArray := by
  intro j hj
  rw [size_flatK, List.size_toArray] at hj
  rw [Nat.zero_add]
  refine ⟨?_, by simp [World.frozen?, hb]⟩
  have := flat_of hk hpos hx j hj
  rw [cell_of_block hb, ← Array.getElem?_toList, this]; rfl

theorem sorted_block (w : World) (m : Nat) (D : Array α) (os : Array Obj) (hb : w.heap[g]? = some (.cells cur e (0, 0))) :
    (grow (putRowK enc sz (Sort.ahead w m) g 0 D) os).heap[g]? = some (.cells (putCells id 0 (flatK enc sz D) cur) e (0, 0)) ∧
    (∀ k, k < w.heap.size → k ≠ g → (grow (putRowK enc sz (Sort.ahead w m) g 0 D) os).heap[k]? = w.heap[k]?) ∧ w.heap.size ≤ (grow (putRowK enc sz (Sort.ahead w m) g 0 D) os).heap.size := by
  have hg : g < w.heap.size := (Array.getElem?_eq_some_iff.1 hb).1
  have hsz : (putRowK enc sz (Sort.ahead w m) g 0 D).heap.size = w.heap.size := by
    unfold putRowK
    rw [size_putRow]
    rfl
  have hlt : ∀ k : Nat, k < w.heap.size → (grow (putRowK enc sz (Sort.ahead w m) g 0 D) os).heap[k]? = (putRowK enc sz (Sort.ahead w m) g 0 D).heap[k]? := fun k hk => by
    unfold grow
    exact Array.getElem?_append_left (by rw [hsz]; exact hk)
  have hmod : ∀ k : Nat, (putRowK enc sz (Sort.ahead w m) g 0 D).heap[k]? = (w.heap.modify g (onCells (putCells id 0 (flatK enc sz D))))[k]? := fun k => rfl
  refine ⟨?_, ?_, ?_⟩
  · rw [hlt g hg, hmod, Array.getElem?_modify, if_pos rfl, hb]
    rfl
  · intro k hk hne
    rw [hlt k hk, hmod, Array.getElem?_modify, if_neg (fun h => hne h.symm)]
  · unfold grow
    rw [Array.size_append, hsz]
    omega

theorem put_get (hk : ∀ x, (enc x).length = sz) (hpos : 0 < sz) (hc : l.length * sz ≤ cur.size) : ∀ (i j : Nat) x v, l[i]? = some x → (enc x)[j]? = some v → (putCells id 0 (flatK enc sz l.toArray) cur).toList[i * sz + j]? = some v := by
  intro i j x v hi hj
  obtain ⟨hil, rfl⟩ := List.getElem?_eq_some_iff.1 hi
  have hjl : j < sz := by have := (List.getElem?_eq_some_iff.1 hj).1; rwa [hk] at this
  have ht : i * sz + j < l.length * sz := flat_lt hil hjl
  rw [Array.getElem?_toList]
  unfold putCells
  rw [Array.getElem?_mapIdx, Array.getElem?_eq_getElem (show i * sz + j < cur.size by omega), Option.map_some, if_pos ⟨Nat.zero_le _, by rw [size_flatK]; simpa using ht⟩, Nat.sub_zero, id,
    get_flatK enc sz l.toArray _ (by simpa using ht)]
  have e1 : (i * sz + j) / sz = i := by rw [Nat.mul_comm, Nat.mul_add_div hpos, Nat.div_eq_of_lt hjl, Nat.add_zero]
  have e2 : (i * sz + j) % sz = j := by rw [Nat.mul_comm, Nat.mul_add_mod, Nat.mod_eq_of_lt hjl]
  have e3 : l.toArray[i]! = l[i] := by rw [getElem!_pos l.toArray _ (by simpa using hil)]; simp
  rw [e1, e2, e3, getElem!_pos (enc l[i]) _ (by rw [hk]; exact hjl)]
  rw [List.getElem?_eq_getElem (by rw [hk]; exact hjl)] at hj
  exact hj

end

def encP (x : Int × Int) : List Value := [.int .u32 x.1, .int .u32 x.2]

def lay_SortFunc_Span_ren : Go.Shelf.Ren := ⟨fun | 6 => 55 | 15 => 67 | 14 => 66 | 28 => 82 | 29 => 83 | 20 => 74 | 21 => 75 | 22 => 76 | 23 => 77 | 24 => 78 | 25 => 79 | 26 => 80 | 27 => 81 | 46 => 87 | 47 => 88 | 48 => 89 | 49 => 90 | 50 => 91 | 57 => 92 | n => n, fun | 22 => 22 | 24 => 80 | 25 => 97 | 3 => 3 | 39 => 102 | 0 => 0 | 53 => 48 | 55 => 74 | 4 => 4 | 46 => 113 | 45 => 112 | 50 => 88 | 5 => 5 | 9 => 9 | 66 => 123 | 70 => 127 | 76 => 129 | 77 => 50 | n => n, fun n => n⟩
theorem lay_SortFunc_Span : SlLaysF0.n6 Try.prog lay_SortFunc_Span_ren := {
  mixed := by kernel_rfl,
  f6 := ⟨Try.f55.name, by decide, Try.func55.trans (congrArg some (by kernel_rfl))⟩,
  f14 := ⟨Try.f66.name, by decide, Try.func66.trans (congrArg some (by kernel_rfl))⟩,
  f15 := Try.func67.trans (congrArg some (by kernel_rfl)),
  f20 := ⟨Try.f74.name, by decide, Try.func74.trans (congrArg some (by kernel_rfl))⟩,
  f21 := ⟨Try.f75.name, by decide, Try.func75.trans (congrArg some (by kernel_rfl))⟩,
  f22 := ⟨Try.f76.name, by decide, Try.func76.trans (congrArg some (by kernel_rfl))⟩,
  f23 := ⟨Try.f77.name, by decide, Try.func77.trans (congrArg some (by kernel_rfl))⟩,
  f24 := ⟨Try.f78.name, by decide, Try.func78.trans (congrArg some (by kernel_rfl))⟩,
  f25 := ⟨Try.f79.name, by decide, Try.func79.trans (congrArg some (by kernel_rfl))⟩,
  f26 := ⟨Try.f80.name, by decide, Try.func80.trans (congrArg some (by kernel_rfl))⟩,
  f27 := ⟨Try.f81.name, by decide, Try.func81.trans (congrArg some (by kernel_rfl))⟩,
  f28 := Try.func82.trans (congrArg some (by kernel_rfl)),
  f29 := Try.func83.trans (congrArg some (by kernel_rfl)),
  f46 := ⟨Try.f87.name, by decide, Try.func87.trans (congrArg some (by kernel_rfl))⟩,
  f47 := Try.func88.trans (congrArg some (by kernel_rfl)),
  f48 := Try.func89.trans (congrArg some (by kernel_rfl)),
  f49 := ⟨Try.f90.name, by decide, Try.func90.trans (congrArg some (by kernel_rfl))⟩,
  f50 := ⟨Try.f91.name, by decide, Try.func91.trans (congrArg some (by kernel_rfl))⟩,
  f57 := ⟨Try.f92.name, by decide, Try.func92.trans (congrArg some (by kernel_rfl))⟩,
  t0 := Try.underlying0,
  a0 := Try.isAgg0,
  z0 := Try.sizeOf0,
  v0 := Try.zeroValue0,
  t3 := Try.underlying3,
  a3 := Try.isAgg3,
  z3 := Try.sizeOf3,
  v3 := Try.zeroValue3,
  t4 := Try.underlying4,
  a4 := Try.isAgg4,
  z4 := Try.sizeOf4,
  v4 := Try.zeroValue4,
  t5 := Try.underlying5,
  a5 := Try.isAgg5,
  z5 := Try.sizeOf5,
  v5 := Try.zeroValue5,
  t9 := Try.underlying9,
  a9 := Try.isAgg9,
  z9 := Try.sizeOf9,
  v9 := Try.zeroValue9,
  t22 := Try.underlying22,
  a22 := Try.isAgg22,
  z22 := Try.sizeOf22,
  v22 := Try.zeroValue22,
  t25 := Try.underlying97,
  a25 := Try.isAgg97,
  z25 := Try.sizeOf97,
  v25 := Try.zeroValue97,
  t39 := Try.underlying102,
  a39 := Try.isAgg102,
  z39 := Try.sizeOf102,
  v39 := Try.zeroValue102,
  t45 := Try.underlying112,
  a45 := Try.isAgg112,
  z45 := Try.sizeOf112,
  v45 := Try.zeroValue112,
  t46 := Try.underlying113,
  a46 := Try.isAgg113,
  z46 := Try.sizeOf113,
  v46 := Try.zeroValue113,
  t50 := Try.underlying88,
  a50 := Try.isAgg88,
  z50 := Try.sizeOf88,
  v50 := Try.zeroValue88,
  t53 := Try.underlying48,
  a53 := Try.isAgg48,
  z53 := Try.sizeOf48,
  v53 := Try.zeroValue48,
  t55 := Try.underlying74,
  a55 := Try.isAgg74,
  z55 := Try.sizeOf74,
  v55 := Try.zeroValue74,
  t66 := Try.underlying123,
  a66 := Try.isAgg123,
  z66 := Try.sizeOf123,
  v66 := Try.zeroValue123,
  t70 := Try.underlying127,
  a70 := Try.isAgg127,
  z70 := Try.sizeOf127,
  v70 := Try.zeroValue127,
  t76 := Try.underlying129,
  a76 := Try.isAgg129,
  z76 := Try.sizeOf129,
  v76 := Try.zeroValue129,
  t77 := Try.underlying50,
  a77 := Try.isAgg50,
  z77 := Try.sizeOf50,
  v77 := Try.zeroValue50 }


set_option maxHeartbeats 1000000 in
theorem cmp_u32 (a b : Int) (W : World) : Calls Try.prog 57 #[.int .u32 a, .int .u32 b] W fun e w' => e = .returned (.int .i64 (if a < b then -1 else if b < a then 1 else 0)) ∧ w' = W := by
  by_cases h1 : a < b
  · have n1 : ¬ b < a := by omega
    go_enter Try.func57, Try.ntmps57
    go_wp2
    all_goals (go_ret; exact ⟨by simp [h1], rfl⟩)
  · by_cases h2 : b < a
    · go_enter Try.func57, Try.ntmps57
      go_wp2
      all_goals (go_ret; exact ⟨by simp [h1, h2], rfl⟩)
    · go_enter Try.func57, Try.ntmps57
      go_wp2
      all_goals (go_ret; exact ⟨by simp [h1, h2], rfl⟩)

theorem closureSpan (x y : Int × Int) (W : World) : Calls Try.prog 56 #[.agg #[.int .u32 x.1, .int .u32 x.2], .agg #[.int .u32 y.1, .int .u32 y.2]] W fun e w' => e = .returned (.int .i64 (cmpSpan x y)) ∧ ∃ q os', w' = grow (W.drewN q) os' := by
  have hcon := fun W' => cmp_u32 x.1 y.1 W'
  unfold cmpSpan
  generalize (if x.1 < y.1 then (-1 : Int) else if y.1 < x.1 then 1 else 0) = r at hcon ⊢
  have hu33 := Try.underlying80
  go_enter Try.func56, Try.ntmps56
  go_wp2_with (go_at_call 57; refine (hcon _).mono ?_; rintro e w' ⟨rfl, rfl⟩)
  go_ret
  exact ⟨rfl, 0, _, by rw [alloc_eq_grow, alloc_eq_grow, grow_grow]; rfl⟩

theorem cmpLaysSpan (blk off size : Nat) (w : World) : CmpLays Try.prog 56 #[] encP 2 cmpSpan blk off size w := fun _ _ _ _ x y => closureSpan x y _

theorem ltSpan (x y : Int × Int) : ltOf cmpSpan x y = decide (x.1 < y.1) := by
  unfold ltOf cmpSpan
  by_cases h1 : x.1 < y.1
  · simp [h1]
  · by_cases h2 : y.1 < x.1 <;> simp [h1, h2]
theorem swoSpan : SWO (ltOf cmpSpan) where
  irrefl x := by rw [ltSpan]; simp
  trans x y z h1 h2 := by rw [ltSpan] at *; simp at *; omega
  ntrans x y z h1 h2 := by rw [ltSpan] at *; simp at *; omega

theorem pdq_perm (l : List (Int × Int)) : (pdq (ltOf cmpSpan) l.toArray 0 l.length (Go.Lib.bitLen l.length) true true).toList.Perm l ∧ (pdq (ltOf cmpSpan) l.toArray 0 l.length (Go.Lib.bitLen l.length) true true).toList.Pairwise (fun a b => a.1 ≤ b.1) := by
  obtain ⟨⟨h1, h2, h3⟩, h4⟩ := pdq_sorts (ltOf cmpSpan) swoSpan l.toArray 0 l.length (Go.Lib.bitLen l.length) true true (Nat.zero_le _) (by simp) (Or.inl rfl)
  generalize pdq (ltOf cmpSpan) l.toArray 0 l.length (Go.Lib.bitLen l.length) true true = D at h1 h3 h4
  have hs : D.size = l.length := by simpa using h1
  have hp : D.toList.Perm l := by
    have e1 : D.extract 0 l.length = D := by rw [← hs]; simp
    have e2 : l.toArray.extract 0 l.length = l.toArray := by simp
    rw [e1, e2] at h3
    exact h3
  refine ⟨hp, ?_⟩
  rw [List.pairwise_iff_getElem]
  intro i j hi hj hij
  have hj' : j < l.length := by rw [← hs]; simpa using hj
  have h5 := h4 i j (Nat.zero_le _) hij hj'
  rw [ltSpan, getElem!_pos D j (by omega), getElem!_pos D i (by omega), decide_eq_false_iff_not] at h5
  rw [Array.getElem_toList, Array.getElem_toList]
  omega

/- what sortSpan gives -/
theorem sortSpan_eq {l r : List (Int × Int)} (h : sortSpan l = some r) : l.length < 4611686018427387904 ∧ (pdq (ltOf cmpSpan) l.toArray 0 l.length (Go.Lib.bitLen l.length) true true).toList = r := by
  unfold sortSpan at h
  split at h
  · cases h
    refine ⟨by simp, ?_⟩
    exact List.Perm.eq_nil (pdq_perm []).1
  · rename_i x
    cases h
    refine ⟨by simp, ?_⟩
    exact List.perm_singleton.mp (pdq_perm [x]).1
  · split at h
    · rename_i hl; exact ⟨hl, Option.some.inj h⟩
    · cases h

theorem sortSpan_sorts {l r : List (Int × Int)} (h : sortSpan l = some r) : r.Perm l ∧ r.Pairwise (fun a b => a.1 ≤ b.1) := by
  obtain ⟨_, e⟩ := sortSpan_eq h
  rw [← e]; exact pdq_perm l

theorem sortSpan_some (l : List (Int × Int)) (h : l.length < 4611686018427387904) : ∃ r, sortSpan l = some r := by
  unfold sortSpan
  split
  · exact ⟨_, rfl⟩
  · exact ⟨_, rfl⟩
  · rw [if_pos h]; exact ⟨_, rfl⟩

theorem rep_span {w : World} {A : Nat → Prop} {x : Int × Int} {j : Nat} {c : Cell} {u : Value} (hj : (rowCells spanRow x)[j]? = some c) (hr : RepC w A c u) : (encP x)[j]? = some u := by
  match j with
  | 0 => cases hj; rw [hr.int_inv]; rfl
  | 1 => cases hj; rw [hr.int_inv]; rfl
  | j + 2 => simp [rowCells, spanRow] at hj

theorem sortSpan_run (w : World) (v : Value) (x y : List (Int × Int)) (xs : List Value) (A : Nat → Prop) (hrow : w.ownsRow 0 80 2 v x.length xs)
    (hx : ∀ (i j : Nat) (p : Int × Int) c, x[i]? = some p → (rowCells spanRow p)[j]? = some c → ∃ u, xs[i * 2 + j]? = some u ∧ RepC w A c u) (hy : sortSpan x = some y) :
    Calls Try.prog 55 #[v, .func (.func 56) #[] #[]] w fun e w' => e = .returned (.tuple #[]) ∧ Step w w' (fun g => v.ownBlock = some g) ∧
      ∃ xs', w'.ownsRow 0 80 2 v y.length xs' ∧ ∀ (i j : Nat) (p : Int × Int) u, y[i]? = some p → (encP p)[j]? = some u → xs'[i * 2 + j]? = some u := by
  obtain ⟨hl, hp⟩ := sortSpan_eq hy
  have hyl : y.length = x.length := (sortSpan_sorts hy).1.length_eq
  have hxs : ∀ (i j : Nat) (p : Int × Int) u, x[i]? = some p → (encP p)[j]? = some u → xs[i * 2 + j]? = some u := by
    intro i j p u hi hj
    have hj2 : j < 2 := (List.getElem?_eq_some_iff.1 hj).1
    have hc : ∃ c, (rowCells spanRow p)[j]? = some c := by match j, hj2 with
      | 0, _ => exact ⟨_, rfl⟩
      | 1, _ => exact ⟨_, rfl⟩
    obtain ⟨c, hc⟩ := hc
    obtain ⟨q, h1, h2⟩ := hx i j p c hi hc
    rw [h1, ← hj, rep_span hc h2]
  rcases hrow.2 with ⟨rfl, hn⟩ | ⟨g, cap, cur, rfl, hb0, hb, hnc, hcm, hcs, htk⟩
  · have hx0 : x = [] := List.eq_nil_of_length_eq_zero hn
    subst hx0
    have hy0 : y = [] := List.eq_nil_of_length_eq_zero hyl
    subst hy0
    have hcon := AnyF.slices_SortFunc_none (P := Try.prog) (ρ := lay_SortFunc_Span_ren) { lay_SortFunc_Span with } none 0 (.func (.func 56) #[] #[]) w
    refine (show Calls Try.prog 55 _ _ _ from hcon).mono ?_
    rintro e w' ⟨rfl, rfl⟩
    exact ⟨rfl, Step.refl _ _, [], World.ownsRow_nil _ 0 _ 2, fun i j p u hi => by cases hi⟩
  · have hc2 : x.length * 2 ≤ cur.size := by rw [hcs]; exact Nat.mul_le_mul_right _ hnc
    have hcur : ∀ (i j : Nat) (p : Int × Int) u, x[i]? = some p → (encP p)[j]? = some u → cur.toList[i * 2 + j]? = some u := by
      intro i j p u hi hj
      have h1 := hxs i j p u hi hj
      rw [← htk] at h1
      have hlt := (List.getElem?_eq_some_iff.1 h1).1
      rw [List.length_take] at hlt
      rwa [List.getElem?_take_of_lt (by omega)] at h1
    have hH := holds_of (enc := encP) (sz := 2) (fun _ => rfl) (by decide) hb hc2 hcur
    have hcon := AnyQ.slices_SortFunc_eq lay_SortFunc_Span 2 Try.isAgg80 Try.sizeOf80 encP (fun _ => rfl) (fun x v hv => by simp [encP] at hv; rcases hv with rfl | rfl <;> rfl) cmpSpan swoSpan 56 #[] g 0 cap x.toArray w
      (enters_of Try.func56 (by kernel_rfl) rfl) (cmpLaysSpan g 0 _ w) hH (Array.getElem?_eq_some_iff.1 hb).1 (by simpa using hl)
    refine (show Calls Try.prog 55 _ _ _ from hcon).mono ?_
    rintro e w' ⟨rfl, n, os, rfl⟩
    have hD : pdq (ltOf cmpSpan) x.toArray 0 x.toArray.size (Go.Lib.bitLen x.toArray.size) true true = y.toArray := by rw [← hp]; simp
    rw [hD]
    obtain ⟨b1, b2, b3⟩ := sorted_block (enc := encP) (sz := 2) w n y.toArray os hb
    have hpl : (putCells id 0 (flatK encP 2 y.toArray) cur).size = cur.size := by simp [putCells]
    refine ⟨rfl, ⟨b3, fun k hk hn' => b2 k hk (fun e => hn' (by rw [e]; rfl)), rfl, rfl, rfl⟩, (putCells id 0 (flatK encP 2 y.toArray) cur).toList.take (y.length * 2), ?_, ?_⟩
    · have hpl2 : (List.take (y.length * 2) (putCells id 0 (flatK encP 2 y.toArray) cur).toList).length = y.length * 2 := by
        have h9 : (putCells id 0 (flatK encP 2 y.toArray) cur).toList.length = cur.size := hpl
        rw [List.length_take, h9]; omega
      refine ⟨hpl2, .inr ⟨g, cap, _, by rw [hyl], Nat.zero_le _, b1, by rw [hyl]; exact hnc, hcm, by rw [hpl]; exact hcs, rfl⟩⟩
    · intro i j p u hi hj
      have hil := (List.getElem?_eq_some_iff.1 hi).1
      have hjl : j < 2 := (List.getElem?_eq_some_iff.1 hj).1
      rw [List.getElem?_take_of_lt (flat_lt hil hjl)]
      exact put_get (enc := encP) (sz := 2) (fun _ => rfl) (by decide) (by rw [hyl]; exact hc2) i j p u hi hj

theorem map_els {α β : Type} (f : α → β) {l : List α} {i : Nat} {L : β} (h : (List.map f l)[i]? = some L) : ∃ p, l[i]? = some p ∧ f p = L := by
  rw [List.getElem?_map] at h
  exact Option.map_eq_some_iff.mp h
theorem els_map {α β : Type} (f : α → β) {l : List α} {i : Nat} {p : α} (h : l[i]? = some p) : (List.map f l)[i]? = some (f p) := by
  rw [List.getElem?_map, h]; rfl
theorem span_els {l : List (Int × Int)} {i : Nat} {L : List Cell} (h : (List.map (rowCells spanRow) l)[i]? = some L) : ∃ p, l[i]? = some p ∧ rowCells spanRow p = L := map_els _ h

theorem sortSpan_ok : InpOk Try.prog 55 inpSortSpan := by
  refine ⟨fun args w => enters_of Try.func55 (by kernel_rfl) rfl args w, ?_⟩
  intro w v x y els xs A he hrow hx _ hy
  have he : some (List.map (rowCells spanRow) x) = some els := he
  have he := Option.some.inj he
  subst he
  have h1 : w.ownsRow 0 80 2 v (List.map (rowCells spanRow) x).length xs := hrow
  rw [show (List.map (rowCells spanRow) x).length = List.length (α := Int × Int) x from List.length_map _] at h1
  refine (sortSpan_run w v x y xs A h1 (fun i j p c hi hc => hx i j _ c (els_map (rowCells spanRow) hi) hc) hy).mono ?_
  rintro e w' ⟨rfl, hs, xs', ho, hr⟩
  refine ⟨rfl, hs, List.map (rowCells spanRow) y, xs', rfl, ?_, fun i j l c hi hj => ?_⟩
  · show w'.ownsRow 0 80 2 v (List.map (rowCells spanRow) y).length xs'
    rw [show (List.map (rowCells spanRow) y).length = List.length (α := Int × Int) y from List.length_map _]
    exact ho
  · obtain ⟨p, hp, rfl⟩ := span_els (l := y) hi
    match j with
    | 0 => cases hj; exact ⟨_, hr i 0 p _ hp rfl, .int _ _⟩
    | 1 => cases hj; exact ⟨_, hr i 1 p _ hp rfl, .int _ _⟩
    | j + 2 => simp [rowCells, spanRow] at hj

end Go.Proofs.Ytoifbdaaiejbnaa.D
