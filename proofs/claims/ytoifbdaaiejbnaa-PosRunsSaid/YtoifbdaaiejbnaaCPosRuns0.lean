/- Part of the proof of the law PosRuns: the functions that it reaches, by contract. -/
import Derived.Test.YtoifbdaaiejbnaaProg
import Derived.ProofKit
import Derived.Laws.AppendOwn
import Derived.Orders
import Derived.Below
import Derived.Lib.Strings
import Derived.Laws.Cells
import Derived.DeepKeys
set_option linter.unusedVariables false
set_option linter.unusedSimpArgs false
/- Data of the abstract interpreter: cells, rows of cells, values, places. -/
namespace Go.Proofs.Ytoifbdaaiejbnaa.D
open Go

mutual
inductive CT where
  | int (k : IntKind)
  | bool
  | str
  | sl (row : Row)
  | pats
inductive Row where
  | nil
  | one (c : CT)
  | cons (c : CT) (r : Row)
end

inductive Pat where
  | mk (kind : Int) (set : List (Int × Int)) (subs : List Pat)

def Pat.kind : Pat → Int | .mk k _ _ => k
def Pat.set : Pat → List (Int × Int) | .mk _ s _ => s
def Pat.subs : Pat → List Pat | .mk _ _ l => l

mutual
def CT.T : CT → Type
  | .int _ => Int
  | .bool => Bool
  | .str => List UInt8
  | .sl row => List (Row.T row)
  | .pats => List Pat
def Row.T : Row → Type
  | .nil => Unit
  | .one c => c.T
  | .cons c r => c.T × r.T
end

mutual
def CT.eqb : CT → CT → Bool
  | .int k, c => match c with | .int k' => decide (k = k') | _ => false
  | .bool, c => match c with | .bool => true | _ => false
  | .str, c => match c with | .str => true | _ => false
  | .sl r, c => match c with | .sl r' => Row.eqb r r' | _ => false
  | .pats, c => match c with | .pats => true | _ => false
def Row.eqb : Row → Row → Bool
  | .nil, r => match r with | .nil => true | _ => false
  | .one c, r => match r with | .one c' => CT.eqb c c' | _ => false
  | .cons c r, s => match s with | .cons c' r' => CT.eqb c c' && Row.eqb r r' | _ => false
end

mutual
theorem CT.eq_of_eqb : ∀ (c c' : CT), CT.eqb c c' = true → c = c'
  | .int k, c', h => by cases c' <;> simp_all [CT.eqb]
  | .bool, c', h => by cases c' <;> simp_all [CT.eqb]
  | .str, c', h => by cases c' <;> simp_all [CT.eqb]
  | .sl r, c', h => by
    cases c' with
    | sl r' => simp only [CT.eqb] at h; rw [Row.eq_of_eqb r r' h]
    | _ => simp [CT.eqb] at h
  | .pats, c', h => by cases c' <;> simp_all [CT.eqb]
theorem Row.eq_of_eqb : ∀ (r r' : Row), Row.eqb r r' = true → r = r'
  | .nil, r', h => by cases r' <;> simp_all [Row.eqb]
  | .one c, r', h => by
    cases r' with
    | one c' => simp only [Row.eqb] at h; rw [CT.eq_of_eqb c c' h]
    | _ => simp [Row.eqb] at h
  | .cons c r, s, h => by
    cases s with
    | cons c' r' => simp only [Row.eqb, Bool.and_eq_true] at h; rw [CT.eq_of_eqb c c' h.1, Row.eq_of_eqb r r' h.2]
    | _ => simp [Row.eqb] at h
end

mutual
theorem CT.eqb_refl : ∀ c : CT, CT.eqb c c = true
  | .int _ => by simp [CT.eqb]
  | .bool => rfl
  | .str => rfl
  | .sl r => by simp only [CT.eqb]; exact Row.eqb_refl r
  | .pats => rfl
theorem Row.eqb_refl : ∀ r : Row, Row.eqb r r = true
  | .nil => rfl
  | .one c => by simp only [Row.eqb]; exact CT.eqb_refl c
  | .cons c r => by simp only [Row.eqb, Bool.and_eq_true]; exact ⟨CT.eqb_refl c, Row.eqb_refl r⟩
end

structure Cell where
  c : CT
  x : c.T

def castC (c' c : CT) (x : c'.T) : Option c.T :=
  if h : CT.eqb c' c = true then some (CT.eq_of_eqb c' c h ▸ x) else none

theorem castC_some {c' c : CT} {x : c'.T} {y : c.T} (h : castC c' c x = some y) : (⟨c', x⟩ : Cell) = ⟨c, y⟩ := by
  unfold castC at h; split at h
  · rename_i e; have e' := CT.eq_of_eqb c' c e; subst e'; simp only [Option.some.injEq] at h; rw [← h]
  · simp at h

/- the cells of a row's value -/
def rowCells : (row : Row) → row.T → List Cell
  | .nil, _ => []
  | .one c, x => [⟨c, x⟩]
  | .cons c r, x => ⟨c, x.1⟩ :: rowCells r x.2

/- a row's value from its cells -/
def rowOf : (row : Row) → List Cell → Option row.T
  | .nil, l => match l with | [] => some () | _ :: _ => none
  | .one c, l => match l with | [x] => castC x.c c x.x | _ => none
  | .cons c r, l => match l with | x :: l => (castC x.c c x.x).bind fun y => (rowOf r l).bind fun z => some (y, z) | [] => none

theorem rowOf_cons (c : CT) (r : Row) (y : Cell) (l : List Cell) :
    rowOf (.cons c r) (y :: l) = ((castC y.c c y.x).bind fun y => (rowOf r l).bind fun z => some (y, z)) := rfl
theorem rowCells_cons (c : CT) (r : Row) (x : c.T) (z : r.T) : rowCells (.cons c r) (x, z) = ⟨c, x⟩ :: rowCells r z := rfl

theorem cells_rowOf : ∀ (row : Row) (l : List Cell) (a : row.T), rowOf row l = some a → rowCells row a = l
  | .nil, l, a, h => by
    cases l with
    | nil => rfl
    | cons x l => exact absurd (h : none = some a) (by intro e; cases e)
  | .one c, l, a, h => by
    cases l with
    | nil => exact absurd (h : none = some a) (by intro e; cases e)
    | cons x l =>
      cases l with
      | nil => exact congrArg (fun z => [z]) (castC_some (h : castC x.c c x.x = some a)).symm
      | cons y l => exact absurd (h : none = some a) (by intro e; cases e)
  | .cons c r, l, a, h => by
    cases l with
    | nil => exact absurd (h : none = some a) (by intro e; cases e)
    | cons x l =>
      obtain ⟨y, hy, h2⟩ := Option.bind_eq_some_iff.mp ((rowOf_cons c r x l).symm.trans h)
      obtain ⟨z, hz, e⟩ := Option.bind_eq_some_iff.mp h2
      have e' := Option.some.inj e
      subst e'
      exact (rowCells_cons c r y z).trans ((congrArg (fun q => (⟨c, y⟩ : Cell) :: q) (cells_rowOf r l z hz)).trans (congrArg (fun q => q :: l) (castC_some hy).symm))

def spanRow : Row := .cons (.int .u32) (.one (.int .u32))
def patRow : Row := .cons (.int .i64) (.cons (.sl spanRow) (.one .pats))
def Pat.cells (p : Pat) : List Cell := [⟨.int .i64, p.kind⟩, ⟨.sl spanRow, p.set⟩, ⟨.pats, p.subs⟩]
def Pat.ofCells (l : List Cell) : Option Pat := (rowOf patRow l).map fun a => .mk a.1 a.2.1 a.2.2

def Row.len : Row → Nat
  | .nil => 0
  | .one _ => 1
  | .cons _ r => r.len + 1

def esize : CT → Nat
  | .sl row => row.len
  | .pats => 3
  | _ => 0

def idx {α : Type} (l : List α) (i : Int) : Option α := if 0 ≤ i then l[i.toNat]? else none

/- a cell of a box: plain; nil and nothing else; what an owned slice's place holds -/
inductive BCell where
  | pl (c : Cell)
  | nl (c : CT)
  | rf (p : Nat)

/- a place of an owned slice: none, or it has gone; owned (e: the type of its block); frozen by now -/
inductive Pl where
  | none
  | live (e : TypeId) (c : Cell)
  | froz (c : Cell)

inductive Val where
  | un
  | sk
  | nilp
  | nilS (c : CT)
  | cell (c : CT) (x : c.T) (bw : Bool)
  | agg (l : List BCell)
  | tup (l : List Val)
  | ptr (r off : Nat)
  | dptr (r off : Nat) (i : Int) (n : Nat)
  | eptr (l : List Cell) (bw : Bool)
  | own (p : Nat)
  | optr (p : Nat) (i : Int) (off : Nat)
  | fn (f : Nat) (caps : List Val)

/- a box's cell by value -/
inductive XB where
  | pl (c : Cell)
  | ow (e : TypeId) (c : Cell)

/- what is handed over: to a callee, to a cut -/
inductive X where
  | cell (c : CT) (x : c.T) (bw : Bool)
  | own (e : TypeId) (c : CT) (x : c.T)
  | agg (l : List Cell)
  | box (l : List XB)
  | fn (f : Nat) (caps : List X)
  | val (v : Val)

structure S where
  tm : Nat → Val
  bx : Nat → List BCell
  pl : Nat → Pl
  nx : Nat

def upd {α : Type} (f : Nat → α) (d : Nat) (v : α) : Nat → α := fun i => bif Nat.beq i d then v else f i

theorem upd_same {α : Type} (f : Nat → α) (d : Nat) (v : α) : upd f d v d = v := by
  unfold upd; rw [Nat.beq_refl]; rfl
theorem upd_other {α : Type} (f : Nat → α) (d i : Nat) (v : α) (h : i ≠ d) : upd f d v i = f i := by
  have e : Nat.beq i d = false := by
    cases h' : Nat.beq i d with
    | false => rfl
    | true => exact absurd (Nat.eq_of_beq_eq_true h') h
  unfold upd; rw [e]; rfl

end Go.Proofs.Ytoifbdaaiejbnaa.D
/- The abstract interpreter. -/
namespace Go.Proofs.Ytoifbdaaiejbnaa.D
open Go

def rowL : List CT → Row
  | [] => .nil
  | c :: l => match l with | [] => .one c | _ :: _ => .cons c (rowL l)

/- the cells of a type -/
def ctsOf (P : Program) (pt : TypeId) : Nat → TypeId → Option (List CT)
  | 0, _ => none
  | n + 1, t =>
    match P.underlying t with
    | some (.int k) => some [.int k]
    | some .bool => some [.bool]
    | some .string => some [.str]
    | some (.slice e) => bif Nat.beq e pt then some [.pats] else (ctsOf P pt n e).map fun l => [.sl (rowL l)]
    | some (.struct fs) => fs.toList.foldr (fun f o => o.bind fun l => (ctsOf P pt n f.type).map fun m => m ++ l) (some [])
    | some (.array m e) => (ctsOf P pt n e).map fun l => (List.replicate m l).flatten
    | _ => none

def nilC : CT → Option Cell
  | .sl r => some ⟨.sl r, ([] : List r.T)⟩
  | .pats => some ⟨.pats, ([] : List Pat)⟩
  | _ => none

def refC : CT → Bool
  | .sl _ => true
  | .pats => true
  | _ => false

inductive PM where
  | s
  | b
  | o (e : TypeId)

inductive RS where
  | c (t : CT) (own : Option TypeId)
  | a (l : List CT)

structure Sig where
  ps : List PM
  rs : List RS
  bs : List (List (CT × Option TypeId))

def RS.cts : RS → List CT
  | .c t _ => [t]
  | .a l => l

def Sig.cts (g : Sig) : List CT := (g.rs.map RS.cts).flatten ++ (g.bs.map fun l => l.map fun p => p.1).flatten
def Sig.row (g : Sig) : Row := rowL g.cts

/- what is kept at a cut: a temporary · an owned slice in one · a place behind one, and which of its cells are owned · a place behind a function's capture, and its new number -/
inductive K where
  | t (i : Nat)
  | o (i : Nat) (e : TypeId)
  | p (i : Nat) (ms : List (Option TypeId))
  | f (i j n : Nat) (ms : List (Option TypeId))

/- the box that a function's capture points to -/
def capR (v : Val) (j : Nat) : Option Nat :=
  match v with
  | .fn _ caps => match caps[j]? with | some (.ptr r _) => some r | _ => none
  | _ => none

inductive W1 where
  | b (r : Nat) (l : List BCell)
  | p (i : Nat) (q : Pl)
abbrev Wr := List W1

/- a function that writes over the owned slice that it is given first; what it is given besides: functions -/
structure Inp where
  e : TypeId
  c : CT
  h : c.T → Option c.T
  fns : List Nat

structure Bs where
  P : Program
  pt : TypeId
  sig : Nat → Sig
  nt : Nat
  roots : List Nat
  call : (f : Nat) → List X → Option (sig f).row.T
  inp : Nat → Option Inp

structure Env (ρ : Type) extends Bs where
  cut : Nat → Option (List K)
  rec_ : List Item → List X → Option ρ
  ret : S → Option ρ
  same : ρ → ρ → Bool

/- the data of cells that hold no owned slice -/
def plainB : List BCell → Option (List Cell)
  | [] => some []
  | .pl c :: l => match plainB l with | some m => some (c :: m) | none => none
  | .nl c :: l => match nilC c, plainB l with | some z, some m => some (z :: m) | _, _ => none
  | .rf _ :: _ => none

def splice (l : List BCell) (off : Nat) (m : List BCell) : List BCell := l.take off ++ m ++ l.drop (off + m.length)

def S.w1 (s : S) : W1 → S
  | .b r l => { s with bx := upd s.bx r l }
  | .p i q => { s with pl := upd s.pl i q }
def S.ws (s : S) : Wr → S
  | [] => s
  | w :: l => (s.w1 w).ws l

/- cells as they stand, owned slices frozen -/
def froz : S → List BCell → Option (List BCell × Wr)
  | _, [] => some ([], [])
  | s, b :: l => match b with
    | .rf p => match s.pl p with
      | .live _ c => match froz (s.w1 (.p p (.froz c))) l with | some (m, ws) => some (.pl c :: m, .p p (.froz c) :: ws) | none => none
      | .froz c => match froz s l with | some (m, ws) => some (.pl c :: m, ws) | none => none
      | .none => none
    | b => match froz s l with | some (m, ws) => some (b :: m, ws) | none => none

/- numbers -/
def shlI (k : IntKind) (x y : Int) : Int := k.wrap (x * 2 ^ (min y.toNat k.bits))
def shrI (k : IntKind) (x y : Int) : Int := x.fdiv (2 ^ (min y.toNat k.bits))
def andI (k : IntKind) (x y : Int) : Int := k.wrap (BitVec.ofInt k.bits x &&& BitVec.ofInt k.bits y).toNat
def orI (k : IntKind) (x y : Int) : Int := k.wrap (BitVec.ofInt k.bits x ||| BitVec.ofInt k.bits y).toNat
def xorI (k : IntKind) (x y : Int) : Int := k.wrap (BitVec.ofInt k.bits x ^^^ BitVec.ofInt k.bits y).toNat
def andNotI (k : IntKind) (x y : Int) : Int := k.wrap (BitVec.ofInt k.bits x &&& ~~~ BitVec.ofInt k.bits y).toNat
def maxI (x y : Int) : Int := if y > x then y else x
def minI (x y : Int) : Int := if y < x then y else x
def room (n b : Nat) : Bool := decide (n * b < 70368744177664)
def inB (n : Nat) (i : Int) : Bool := decide (0 ≤ i) && decide (i < n)

section
variable {ρ : Type}

abbrev Kt (ρ : Type) := Val → Wr → Option ρ

def int_ (k : IntKind) (n : Int) : Val := .cell (.int k) n false
def bool_ (b : Bool) : Val := .cell .bool b false
def str_ (s : List UInt8) : Val := .cell .str s false

def eqI (x y : Int) : Bool := x == y
def eqB (x y : Bool) : Bool := x == y
def eqS (x y : List UInt8) : Bool := x == y

/- equality of two rows of cells at a type, as the machine asks it -/
def eq1i : List Cell → List Cell → Option Bool
  | [⟨.int k, x⟩], [⟨.int k', y⟩] => bif decide (k = k') then some (eqI x y) else none
  | _, _ => none
def eq1b : List Cell → List Cell → Option Bool
  | [⟨.bool, x⟩], [⟨.bool, y⟩] => some (eqB x y)
  | _, _ => none
def eq1s : List Cell → List Cell → Option Bool
  | [⟨.str, x⟩], [⟨.str, y⟩] => some (eqS x y)
  | _, _ => none

def eqL (q : TypeId → List Cell → List Cell → Option Bool) (P : Program) (l m : List Cell) : List (TypeId × Nat) → Option Bool
  | [] => some true
  | p :: r => match q p.1 ((l.drop p.2).take (P.cellsOf p.1)) ((m.drop p.2).take (P.cellsOf p.1)), eqL q P l m r with
    | some a, some b => some (a && b)
    | _, _ => none

def eqT (P : Program) : Nat → TypeId → List Cell → List Cell → Option Bool
  | 0, _, _, _ => none
  | d + 1, t, l, m =>
    match P.underlying t with
    | some (.int _) => eq1i l m
    | some .bool => eq1b l m
    | some .string => eq1s l m
    | some (.struct fs) => bif P.stoodInHeld t || fs.toList.any (fun f => f.name == "_") || !Nat.beq l.length (P.cellsOf t) || !Nat.beq m.length (P.cellsOf t) then none else eqL (eqT P d) P l m (fs.toList.map fun f => (f.type, f.offset))
    | some (.array n e) => bif Nat.beq n 0 || !Nat.beq l.length (P.cellsOf t) || !Nat.beq m.length (P.cellsOf t) then none else eqL (eqT P d) P l m ((List.range n).map fun i => (e, i * P.cellsOf e))
    | _ => none

def eqOp (op : BinOp) (r : Bool) (kt : Kt ρ) : Option ρ :=
  match op with
  | .eql => kt (bool_ r) []
  | .neq => kt (bool_ (!r)) []
  | _ => none

def aggEqK (P : Program) (t : TypeId) (op : BinOp) (l m : List BCell) (kt : Kt ρ) : Option ρ :=
  match plainB l, plainB m with
  | some l, some m => bif P.eqGuardType P.depth t then none else (match eqT P 9 t l m with | some r => eqOp op r kt | none => none)
  | _, _ => none

def intOp (op : BinOp) (k : IntKind) (x y : Int) (kt : Kt ρ) : Option ρ :=
  match op with
  | .add => kt (int_ k (k.wrap (x + y))) []
  | .sub => kt (int_ k (k.wrap (x - y))) []
  | .mul => kt (int_ k (k.wrap (x * y))) []
  | .quo => bif y == 0 then none else kt (int_ k (k.wrap (x.tdiv y))) []
  | .rem => bif y == 0 then none else kt (int_ k (x.tmod y)) []
  | .and => kt (int_ k (andI k x y)) []
  | .or => kt (int_ k (orI k x y)) []
  | .xor => kt (int_ k (xorI k x y)) []
  | .andNot => kt (int_ k (andNotI k x y)) []
  | .eql => kt (bool_ (x == y)) []
  | .neq => kt (bool_ (x != y)) []
  | .lss => kt (bool_ (decide (x < y))) []
  | .leq => kt (bool_ (decide (x ≤ y))) []
  | .gtr => kt (bool_ (decide (x > y))) []
  | .geq => kt (bool_ (decide (x ≥ y))) []
  | _ => none

def binI (op : BinOp) (k k' : IntKind) (x y : Int) (kt : Kt ρ) : Option ρ :=
  match op with
  | .shl => bif decide (y < 0) then none else kt (int_ k (shlI k x y)) []
  | .shr => bif decide (y < 0) then none else kt (int_ k (shrI k x y)) []
  | op => bif decide (k = k') then intOp op k x y kt else none

def binB (op : BinOp) (x y : Bool) (kt : Kt ρ) : Option ρ :=
  match op with
  | .eql => kt (bool_ (x == y)) []
  | .neq => kt (bool_ (!(x == y))) []
  | _ => none

def binS (op : BinOp) (x y : List UInt8) (kt : Kt ρ) : Option ρ :=
  match op with
  | .eql => kt (bool_ (x == y)) []
  | .neq => kt (bool_ (!(x == y))) []
  | .lss => kt (bool_ (Op.bytesLess x y)) []
  | .add => bif room (x.length + y.length) 1 then kt (str_ (x ++ y)) [] else none
  | _ => none

def binK (P : Program) (t : TypeId) (op : BinOp) (a b : Val) (kt : Kt ρ) : Option ρ :=
  match a with
  | .cell (.int k) x _ => match b with | .cell (.int k') y _ => binI op k k' x y kt | _ => none
  | .cell .bool x _ => match b with | .cell .bool y _ => (match P.underlying t with | some .bool => binB op x y kt | _ => none) | _ => none
  | .cell .str x _ => match b with | .cell .str y _ => binS op x y kt | _ => none
  | .agg l => match b with | .agg m => (match P.underlying t with | some (.struct _) => aggEqK P t op l m kt | some (.array _ _) => aggEqK P t op l m kt | _ => none) | _ => none
  | _ => none

def unI (op : UnOp) (k : IntKind) (x : Int) (kt : Kt ρ) : Option ρ :=
  match op with
  | .neg => kt (int_ k (k.wrap (0 - x))) []
  | .xor => kt (int_ k (xorI k (if k.signed then -1 else k.max) x)) []
  | _ => none
def unB (op : UnOp) (b : Bool) (kt : Kt ρ) : Option ρ := match op with | .not => kt (bool_ (!b)) [] | _ => none

def unK (op : UnOp) (a : Val) (kt : Kt ρ) : Option ρ :=
  match a with
  | .cell (.int k) x _ => unI op k x kt
  | .cell .bool b _ => unB op b kt
  | _ => none

/- an element of a slice -/
def slK (c : CT) (x : c.T) (i : Int) (kt : List Cell → Option ρ) : Option ρ :=
  match c with
  | .sl row => (idx (α := row.T) x i).bind fun a => kt (rowCells row a)
  | .pats => (idx (α := Pat) x i).bind fun a => kt a.cells
  | _ => none

def slLen (c : CT) (x : c.T) : Option Nat :=
  match c with
  | .sl row => some (List.length (α := row.T) x)
  | .pats => some (List.length (α := Pat) x)
  | .str => some (List.length (α := UInt8) x)
  | _ => none

/- an element's cells replaced from a place on -/
def over (l : List Cell) (off : Nat) (m : List Cell) : List Cell := l.take off ++ m ++ l.drop (off + m.length)

def slSet (c : CT) (x : c.T) (i : Int) (off : Nat) (m : List Cell) (kt : c.T → Option ρ) : Option ρ :=
  match c with
  | .sl row => (idx (α := row.T) x i).bind fun a =>
      match rowOf row (over (rowCells row a) off m) with
      | some b => kt (List.set (α := row.T) x i.toNat b)
      | none => none
  | .pats => (idx (α := Pat) x i).bind fun a =>
      match Pat.ofCells (over a.cells off m) with
      | some b => kt (List.set (α := Pat) x i.toNat b)
      | none => none
  | _ => none

def slApp (c : CT) (x y : c.T) : Option c.T :=
  match c with
  | .sl row => some (List.append (α := row.T) x y)
  | .pats => some (List.append (α := Pat) x y)
  | _ => none

def slCut (c : CT) (x : c.T) (lo hi : Nat) : Option c.T :=
  match c with
  | .sl row => some (List.drop lo (List.take (α := row.T) hi x))
  | .pats => some (List.drop lo (List.take (α := Pat) hi x))
  | .str => some (List.drop lo (List.take (α := UInt8) hi x))
  | _ => none

/- a list of rows out of lists of cells -/
def rowsOf (row : Row) : List (List Cell) → Option (List row.T)
  | [] => some []
  | l :: m => match rowOf row l with | some a => (match rowsOf row m with | some r => some (a :: r) | none => none) | none => none
def patsOf : List (List Cell) → Option (List Pat)
  | [] => some []
  | l :: m => match Pat.ofCells l with | some a => (match patsOf m with | some r => some (a :: r) | none => none) | none => none
def slMk (c : CT) (l : List (List Cell)) : Option c.T :=
  match c with
  | .sl row => rowsOf row l
  | .pats => patsOf l
  | _ => none

def evS (s : S) : Operand → Val
  | .tmp t => s.tm t
  | .func f => .fn f []
  | _ => .un

def aggConst : List CT → List Value → Option (List BCell)
  | [], [] => some []
  | c :: l, v :: m => match c, v, aggConst l m with
    | .int _, .int k n, some r => some (.pl ⟨.int k, n⟩ :: r)
    | .bool, .bool b, some r => some (.pl ⟨.bool, b⟩ :: r)
    | .str, .string s, some r => some (.pl ⟨.str, s.data.toList⟩ :: r)
    | .sl w, .slice none 0 0, some r => some (.nl (.sl w) :: r)
    | .pats, .slice none 0 0, some r => some (.nl .pats :: r)
    | _, _, _ => none
  | _, _ => none

def constV (E : Bs) (t : TypeId) : Value → Val
  | .int k n => int_ k n
  | .bool b => bool_ b
  | .string s => str_ s.data.toList
  | .pointer none => .nilp
  | .slice none 0 0 => match ctsOf E.P E.pt 9 t with | some [c] => (match nilC c with | some _ => .nilS c | none => .un) | _ => .un
  | .agg vs => match ctsOf E.P E.pt 9 t with | some l => (match aggConst l vs.toList with | some m => .agg m | none => .un) | none => .un
  | .func (.func f) ⟨[]⟩ ⟨[]⟩ => .fn f []
  | _ => .un

def ev (E : Bs) (s : S) (t : TypeId) : Operand → Val
  | .const v => constV E t v
  | x => evS s x

/- a type's zero, as the program's table has it -/
def zeroT (P : Program) (pt t : TypeId) : Option (List BCell) :=
  match ctsOf P pt 9 t, P.info? t with
  | some l, some i => match i.zero with | some z => aggConst l z.cells.toList | none => none
  | _, _ => none

/- an owned slice that is frozen by now is a snapshot -/
def res (s : S) : Val → Val
  | .own p => match s.pl p with | .froz c => .cell c.c c.x false | _ => .own p
  | v => v

/- the same, nil read as what it is -/
def rd (s : S) (v : Val) : Val :=
  match res s v with
  | .nilS c => match nilC c with | some z => .cell z.c z.x false | none => .un
  | v => v

/- what a value is as cells of a box -/
def toB (s : S) (v : Val) : Option (List BCell) :=
  match res s v with
  | .nilS c => some [.nl c]
  | .cell c x bw => bif bw && refC c then none else some [.pl ⟨c, x⟩]
  | .agg l => some l
  | .own p => match s.pl p with | .live _ _ => some [.rf p] | _ => none
  | _ => none

/- what a value is as cells for good: an owned slice is frozen -/
def toC (s : S) (v : Val) : Option (List BCell × Wr) :=
  match res s v with
  | .nilS c => some ([.nl c], [])
  | .cell c x bw => bif bw && refC c then none else some ([.pl ⟨c, x⟩], [])
  | .agg l => some (l, [])
  | .own p => match s.pl p with | .live _ c => some ([.pl c], [.p p (.froz c)]) | _ => none
  | _ => none

/- is a type's value many cells, or one? -/
def aggT (P : Program) (t : TypeId) : Option Bool :=
  match P.underlying t with
  | some (.struct _) => some true
  | some (.array _ _) => some true
  | some _ => some false
  | none => none

def sizeT (P : Program) (t : TypeId) : Nat := P.cellsOf t

/- a value of a type, at the head of these cells -/
def pickC (P : Program) (t : TypeId) (l : List Cell) (bw : Bool) : Option Val :=
  match aggT P t with
  | some true => bif Nat.ble (sizeT P t) l.length && !(bw && (l.take (sizeT P t)).any (fun c => refC c.c)) then some (.agg ((l.take (sizeT P t)).map .pl)) else none
  | some false => match l with | c :: _ => some (.cell c.c c.x (bw && refC c.c)) | [] => none
  | none => none

def pickB (P : Program) (t : TypeId) (l : List BCell) : Option Val :=
  match aggT P t with
  | some true => bif Nat.ble (sizeT P t) l.length then some (.agg (l.take (sizeT P t))) else none
  | some false => match l with | .pl c :: _ => some (.cell c.c c.x false) | .nl c :: _ => some (.nilS c) | .rf p :: _ => some (.own p) | [] => none
  | none => none

/- arrays: the values of like cells -/
def likes (c : CT) : List Cell → Option (List c.T)
  | [] => some []
  | x :: l => match castC x.c c x.x with | some y => (match likes c l with | some r => some (y :: r) | none => none) | none => none

def arrK (l : List Cell) (i : Int) (kt : Cell → Option ρ) : Option ρ :=
  match l with
  | [] => none
  | x :: _ => match likes x.c l with | some ys => (idx ys i).bind fun y => kt ⟨x.c, y⟩ | none => none

def arrSet (l : List Cell) (j : Nat) (i : Int) (y : Cell) : Option (List Cell) :=
  match l with
  | [] => some []
  | x :: l => match castC y.c x.c y.x with
    | some z => (match arrSet l (j + 1) i y with | some r => some (⟨x.c, bif i == (j : Int) then z else x.x⟩ :: r) | none => none)
    | none => none

def loadK (E : Bs) (t : TypeId) (s : S) (a : Val) (kt : Kt ρ) : Option ρ :=
  match a with
  | .ptr r off =>
    match aggT E.P t with
    | some true => match froz s (((s.bx r).drop off).take (sizeT E.P t)) with
      | some (l, ws) => match pickB E.P t l with | some v => kt v ws | none => none
      | none => none
    | some false => match pickB E.P t ((s.bx r).drop off) with | some v => kt v [] | none => none
    | none => none
  | .dptr r off i n => match aggT E.P t with
    | some false => match plainB (((s.bx r).drop off).take n) with
      | some l => arrK l i fun c => bif refC c.c then none else kt (.cell c.c c.x false) []
      | none => none
    | _ => none
  | .eptr l bw => match pickC E.P t l bw with | some v => kt v [] | none => none
  | .optr p i off => match s.pl p with
      | .live _ c => slK c.c c.x i fun l => match pickC E.P t (l.drop off) false with | some v => kt v [] | none => none
      | _ => none
  | _ => none

def sizeIs (P : Program) (t : TypeId) (n : Nat) : Bool :=
  match P.info? t with
  | some i => Nat.beq n i.size
  | none => false

def storeK (P : Program) (t : TypeId) (s : S) (a v : Val) (kt : Kt ρ) : Option ρ :=
  match a with
  | .ptr r off => match toB s v with
      | some m => bif Nat.ble (off + m.length) (s.bx r).length && sizeIs P t m.length then kt .sk [.b r (splice (s.bx r) off m)] else none
      | none => none
  | .dptr r off i n => match v with
      | .cell c x _ => bif refC c || !Nat.ble (off + n) (s.bx r).length || !sizeIs P t 1 then none else match plainB (((s.bx r).drop off).take n) with
          | some l => match arrSet l 0 i ⟨c, x⟩ with | some m => kt .sk [.b r (splice (s.bx r) off (m.map .pl))] | none => none
          | none => none
      | _ => none
  | .optr p i off => match toC s v with
      | some (m, ws) => match plainB m, (s.ws ws).pl p with
          | some m, .live e c => bif sizeIs P t m.length && Nat.ble (off + m.length) (esize c.c) then (slSet c.c c.x i off m fun y => kt .sk (ws ++ [.p p (.live e ⟨c.c, y⟩)])) else none
          | _, _ => none
      | none => none
  | _ => none

def fieldOff (P : Program) (t : TypeId) (f : Nat) : Option (Nat × TypeId) :=
  match P.underlying t with
  | some (.struct fs) => match fs[f]? with
    | some x => match P.info? x.type with
      | some i => bif Nat.blt 0 i.size then some (x.offset, x.type) else none
      | none => none
    | none => none
  | _ => none

/- a slice type's elements have so many cells as this type's -/
def okS (P : Program) (t : TypeId) (c : CT) : Bool :=
  match P.underlying t with
  | some (.slice e) => match P.info? e with | some i => Nat.beq i.size (esize c) && !Nat.beq (esize c) 0 | none => false
  | _ => false

def indexK (E : Bs) (t : TypeId) (s : S) (x i : Val) (kt : Kt ρ) : Option ρ :=
  match i with
  | .cell (.int _) i _ =>
    match res s x with
    | .ptr r off => match E.P.underlying t with
        | some (.array n e) => bif Nat.beq (sizeT E.P e) 1 then (bif inB n i then kt (.dptr r off i n) [] else none) else none
        | _ => none
    | .cell c y bw => bif okS E.P t c then slK c y i fun l => kt (.eptr l bw) [] else none
    | .own p => match s.pl p with
        | .live _ c => bif okS E.P t c.c then (match slLen c.c c.x with | some n => bif inB n i then kt (.optr p i 0) [] else none | none => none) else none
        | _ => none
    | _ => none
  | _ => none

def natOf : Option Val → Nat → Option Int
  | none, n => some n
  | some v, _ => match v with | .cell (.int _) i _ => some i | _ => none

def cutC (c : CT) (y : c.T) (lo hi : Option Val) (kt : c.T → Option ρ) : Option ρ :=
  match slLen c y with
  | some n => match natOf lo 0, natOf hi n with
    | some l, some h => bif decide (0 ≤ l) && decide (l ≤ h) && decide (h ≤ n) then (match slCut c y l.toNat h.toNat with | some z => kt z | none => none) else none
    | _, _ => none
  | none => none

def cutT (P : Program) (t : TypeId) (c : CT) : Bool :=
  match c with
  | .str => match P.underlying t with | some .string => true | _ => false
  | c => okS P t c

def cutK (P : Program) (t : TypeId) (s : S) (x : Val) (lo hi : Option Val) (kt : Kt ρ) : Option ρ :=
  match rd s x with
  | .cell c y bw => bif cutT P t c then cutC c y lo hi fun z => kt (.cell c z bw) [] else none
  | .own p => match s.pl p with
    | .live _ c => bif cutT P t c.c then cutC c.c c.x lo hi fun z => kt (.cell c.c z false) [.p p (.froz c)] else none
    | _ => none
  | _ => none

def rowHasRef : Row → Bool
  | .nil => false
  | .one c => refC c
  | .cons c r => refC c || rowHasRef r
def elRef : CT → Bool
  | .sl row => rowHasRef row
  | .pats => true
  | _ => false

/- a slice's data, wherever it lies; borrowed data that hold slices are refused -/
def dataOf (s : S) (v : Val) : Option Cell :=
  match rd s v with
  | .cell c y bw => bif bw && elRef c then none else some ⟨c, y⟩
  | .own p => match s.pl p with | .live _ c => some c | _ => none
  | _ => none

/- what is appended to: nil, or an owned slice, which goes -/
def baseOf (s : S) (e : TypeId) (v : Val) : Option (Cell × Wr) :=
  match res s v with
  | .nilS c => match nilC c with | some z => some (z, []) | none => none
  | .own p => match s.pl p with | .live e' c => bif Nat.beq e e' then some (c, [.p p .none]) else none | _ => none
  | _ => none

/- a slice type's elements are this type's cells, and zero is known -/
def okT (P : Program) (e : TypeId) (c : CT) : Bool :=
  match P.info? e with
  | some i => Nat.beq i.size (esize c) && Nat.blt 0 i.size && Nat.blt 0 i.bytes && (match i.zero with | some z => Nat.beq z.cells.size i.size | none => false)
  | none => false

def appendE (P : Program) (e : TypeId) (s : S) (d : Nat) (a x : Val) (kt : Kt ρ) : Option ρ :=
  match baseOf s e a, dataOf s x with
  | some (a, ws), some b => match castC b.c a.c b.x with
    | some y => match slLen a.c a.x, slLen a.c y with
      | some n, some m => bif room (n + m) (P.bytesOf e) && okT P e a.c then (match slApp a.c a.x y with | some z => kt (.own d) (ws ++ [.p d (.live e ⟨a.c, z⟩)]) | none => none) else none
      | _, _ => none
    | none => none
  | _, _ => none

def appendK (E : Bs) (t : TypeId) (s : S) (d : Nat) (a x : Val) (kt : Kt ρ) : Option ρ :=
  match E.P.underlying t with
  | some (.slice e) => appendE E.P e s d a x kt
  | _ => none

def makeI (E : Bs) (t e : TypeId) (d : Nat) (l c : Int) (kt : Kt ρ) : Option ρ :=
  bif decide (0 ≤ l) && decide (l ≤ c) && decide (c * E.P.bytesOf e < 70368744177664) then
    match ctsOf E.P E.pt 9 t, zeroT E.P E.pt e with
    | some [.sl row], some bs => bif okT E.P e (.sl row) then (match plainB bs with
      | some cs => match rowOf row cs with | some z => kt (.own d) [.p d (.live e ⟨.sl row, List.replicate (Int.toNat l) z⟩)] | none => none
      | none => none) else none
    | _, _ => none
  else none

def makeK (E : Bs) (t : TypeId) (d : Nat) (l c : Val) (kt : Kt ρ) : Option ρ :=
  match l, c, E.P.underlying t with
  | .cell (.int _) l _, .cell (.int _) c _, some (.slice e) => makeI E t e d l c kt
  | _, _, _ => none

/- what moves: boxes and places, the new number and the old one; places that are nil, and their elements' size -/
structure Mv where
  bs : List (Nat × Nat)
  ps : List (Nat × Nat)
  ns : List (Nat × Nat)

def Mv.none : Mv := ⟨[], [], []⟩
def Mv.app (a b : Mv) : Mv := ⟨a.bs ++ b.bs, a.ps ++ b.ps, a.ns ++ b.ns⟩

/- a box's cell by value: d: the number of its place where it is owned -/
def xb1 (s : S) (d : Nat) (m : Option TypeId) (b : BCell) : Option (XB × Mv) :=
  match b with
  | .pl c => match m with | none => some (.pl c, .none) | some _ => none
  | .nl t => match nilC t with
    | some z => match m with
      | none => some (.pl z, .none)
      | some e => bif Nat.blt 0 (esize t) then some (.ow e z, ⟨[], [], [(d, esize t)]⟩) else none
    | none => none
  | .rf p => match s.pl p with
    | .froz c => match m with | none => some (.pl c, .none) | some _ => none
    | .live e' c => match m with | some e => bif Nat.beq e e' then some (.ow e c, ⟨[], [(d, p)], []⟩) else none | none => none
    | .none => none

def boxX (s : S) : Nat → List (Option TypeId) → List BCell → Option (List XB × Mv)
  | _, [], l => match l with | [] => some ([], .none) | _ :: _ => none
  | d, m :: ms, l => match l with
    | b :: l => match xb1 s d m b, boxX s (d + 1) ms l with
      | some (x, q), some (xs, qs) => some (x :: xs, q.app qs)
      | _, _ => none
    | [] => none

/- an argument; i: the number of its place or box -/
def toX1 (s : S) (i : Nat) (m : PM) (g : List (Option TypeId)) (v : Val) : Option (X × Mv) :=
  match res s v with
  | .nilS c => match nilC c with
    | some z => match m with
      | .s => some (.cell z.c z.x false, Mv.none)
      | .b => some (.cell z.c z.x true, Mv.none)
      | .o e => bif Nat.blt 0 (esize c) then some (.own e z.c z.x, ⟨[], [], [(i, esize c)]⟩) else none
    | none => none
  | .cell c x bw => match m with
    | .s => bif bw && refC c then none else some (.cell c x false, Mv.none)
    | .b => some (.cell c x true, Mv.none)
    | .o _ => none
  | .own p => match s.pl p with
    | .live e' c => match m with
      | .s => none
      | .b => some (.cell c.c c.x true, Mv.none)
      | .o e => bif Nat.beq e e' then some (.own e c.c c.x, ⟨[], [(i, p)], []⟩) else none
    | _ => none
  | .agg l => match plainB l with | some m => some (.agg m, Mv.none) | none => none
  | .ptr r off => bif Nat.beq off 0 then (match boxX s (i + 1) g (s.bx r) with | some (xs, q) => some (.box xs, (⟨[(i, r)], [], []⟩ : Mv).app q) | none => none) else none
  | .nilp => some (.val .nilp, Mv.none)
  | .sk => some (.val .sk, Mv.none)
  | _ => none

def isPtr : Val → Bool
  | .ptr _ _ => true
  | _ => false

/- what stands in the next box, if the value is a pointer -/
def gNext (v : Val) (gs : List (List (CT × Option TypeId))) : List (Option TypeId) × List (List (CT × Option TypeId)) :=
  bif isPtr v then ((gs.headD []).map fun p => p.2, gs.tail) else ([], gs)

def toXc (s : S) : Nat → List (List (CT × Option TypeId)) → List Val → Option (List X × Mv × List (List (CT × Option TypeId)))
  | _, gs, [] => some ([], Mv.none, gs)
  | i, gs, v :: l => match toX1 s i .s (gNext v gs).1 v with
    | some (x, q) => match toXc s (i + 1 + (gNext v gs).1.length) (gNext v gs).2 l with | some (xs, qs, g) => some (x :: xs, q.app qs, g) | none => none
    | none => none

def toXs (s : S) : Nat → List PM → List (List (CT × Option TypeId)) → List Val → Option (List X × Mv)
  | _, _, _, [] => some ([], Mv.none)
  | i, ms, gs, v :: l =>
    match (match v with
      | .fn f caps => match toXc s (i * 64) gs caps with | some (xs, q, g) => some (X.fn f xs, q, g) | none => none
      | v => match toX1 s (i * 64) (ms.headD .s) (gNext v gs).1 v with | some (x, q) => some (x, q, (gNext v gs).2) | none => none) with
    | some (x, q, g) => match toXs s (i + 1) ms.tail g l with
      | some (xs, qs) => some (x :: xs, q.app qs)
      | none => none
    | none => none

def memN (n : Nat) : List Nat → Bool
  | [] => false
  | m :: l => Nat.beq n m || memN n l

def nodupN : List Nat → Bool
  | [] => true
  | m :: l => !memN m l && nodupN l

def Mv.ok (m : Mv) : Bool := nodupN (m.bs.map fun p => p.2) && nodupN (m.ps.map fun p => p.2) && nodupN (m.bs.map fun p => p.1) && nodupN ((m.ps ++ m.ns).map fun p => p.1) && (m.bs ++ (m.ps ++ m.ns)).all (fun p => Nat.blt p.1 100000)

/- what a call gives back: its results, and what is in the boxes now -/
def resVals (d : Nat) : Nat → List RS → List Cell → List Val × Wr × List Cell
  | _, [], l => ([], [], l)
  | i, .c _ own :: rs, l => match l with
    | x :: l => match resVals d (i + 1) rs l with
      | (vs, ws, r) => match own with | some e => (.own (d + i) :: vs, .p (d + i) (.live e x) :: ws, r) | none => (.cell x.c x.x false :: vs, ws, r)
    | [] => ([], [], [])
  | i, .a cs :: rs, l => match resVals d (i + 1) rs (l.drop cs.length) with
    | (vs, ws, r) => (.agg ((l.take cs.length).map .pl) :: vs, ws, r)

def boxIn (d : Nat) : List (CT × Option TypeId) → List Cell → List BCell × Wr
  | (_, m) :: g, c :: l => match boxIn (d + 1) g l with
    | (bs, ws) => match m with | some e => (.rf d :: bs, .p d (.live e c) :: ws) | none => (.pl c :: bs, ws)
  | _, _ => ([], [])

def boxBack (d : Nat) : List (List (CT × Option TypeId)) → List Nat → List Cell → Wr
  | b :: bs, r :: ps, l => match boxIn d b (l.take b.length) with
    | (m, ws) => ws ++ .b r m :: boxBack (d + b.length) bs ps (l.drop b.length)
  | _, _, _ => []

def oneVal : List Val → Val
  | [] => .tup []
  | v :: l => match l with | [] => v | _ :: _ => .tup (v :: l)

/- places that have gone -/
def kills (ps : List (Nat × Nat)) : Wr := ps.map fun p => .p p.2 .none

/- owned slices that are lent must not be handed over as well -/
def lent (s : S) : List PM → List Val → List Nat
  | ms, v :: l => (match ms.headD .s, res s v with | .b, .own p => [p] | _, _ => []) ++ lent s ms.tail l
  | _, [] => []

def lens {α : Type} : List (List α) → Nat
  | [] => 0
  | l :: r => l.length + lens r

def callK (E : Bs) (s : S) (d f : Nat) (vs : List Val) (kt : Kt ρ) : Option ρ :=
  match toXs s 0 (E.sig f).ps (E.sig f).bs vs with
  | some (xs, mv) =>
    bif mv.ok && (lent s (E.sig f).ps vs).all (fun p => !memN p (mv.ps.map fun q => q.2)) && Nat.ble ((E.sig f).rs.length + lens (E.sig f).bs) 64 then
      (E.call f xs).bind fun y =>
        match resVals d 0 (E.sig f).rs (rowCells (E.sig f).row y) with
        | (rs, ws', rest) => kt (oneVal rs) (kills mv.ps ++ ws' ++ boxBack (d + (E.sig f).rs.length) (E.sig f).bs (mv.bs.map fun p => p.2) rest)
    else none
  | none => none

def sameFns : List Val → List Nat → Bool
  | [], l => match l with | [] => true | _ :: _ => false
  | v :: vs, l => match l with
    | [] => false
    | g :: l => match v with
      | .fn f caps => match caps with | [] => Nat.beq f g && sameFns vs l | _ :: _ => false
      | _ => false

def inpK (s : S) (I : Inp) (vs : List Val) (kt : Kt ρ) : Option ρ :=
  match vs with
  | v :: rest => bif sameFns rest I.fns then (match res s v with
    | .own p => match s.pl p with
      | .live e c => bif Nat.beq e I.e then (match castC c.c I.c c.x with
        | some x => (I.h x).bind fun y => kt (.tup []) [.p p (.live e ⟨I.c, y⟩)]
        | none => none) else none
      | _ => none
    | _ => none) else none
  | [] => none

def callX (E : Bs) (s : S) (d f : Nat) (vs : List Val) (kt : Kt ρ) : Option ρ :=
  match E.inp f with
  | some I => inpK s I vs kt
  | none => callK E s d f vs kt

def isFn : Val → Bool
  | .fn _ _ => true
  | _ => false

def fnOf : Val → Option (Nat × List Val)
  | .fn f caps => bif caps.any isFn then none else some (f, caps)
  | _ => none

def foldK (op : Int → Int → Int) : List Val → Option Val
  | .cell (.int k) x _ :: l => go k x l
  | _ => none
  where go (k : IntKind) (x : Int) : List Val → Option Val
  | [] => some (int_ k x)
  | .cell (.int _) y _ :: l => go k (op x y) l
  | _ => none

def constT (P : Program) (t : TypeId) : Option IntKind := match P.underlying t with | some (.int k) => some k | _ => none

def partsOf (s : S) : List Val → Option (List (List BCell) × Wr)
  | [] => some ([], [])
  | v :: l => match toC s v with
    | some (c, ws) => match partsOf (s.ws ws) l with | some (r, ws') => some (c :: r, ws ++ ws') | none => none
    | none => none

def overB (l : List BCell) (off : Nat) (m : List BCell) : List BCell := l.take off ++ m ++ l.drop (off + m.length)

def fillB (cells : List BCell) : List (Nat × List BCell) → List BCell
  | [] => cells
  | (o, m) :: l => fillB (overB cells o m) l

def plainsB : List (List BCell) → Option (List (List Cell))
  | [] => some []
  | l :: r => match plainB l, plainsB r with | some a, some b => some (a :: b) | _, _ => none

/- the type and the place of a part -/
def partT (P : Program) (t : TypeId) (i : Nat) : Option (TypeId × Nat) :=
  match P.underlying t with
  | some (.struct fs) => (fs[i]?).map fun f => (f.type, f.offset)
  | some (.array _ e) => some (e, i * sizeT P e)
  | _ => none

/- the parts lie in the whole -/
def fitB (n : Nat) : List (Nat × List BCell) → Bool
  | [] => true
  | (o, m) :: l => Nat.ble (o + m.length) n && fitB n l

def partsT (P : Program) (t : TypeId) : List (Nat × Operand) → Option (List (TypeId × Nat))
  | [] => some []
  | p :: l => match partT P t p.1, partsT P t l with | some a, some r => some (a :: r) | _, _ => none

def evs (E : Bs) (s : S) : List TypeId → List (Nat × Operand) → List Val
  | t :: ts, p :: l => ev E s t p.2 :: evs E s ts l
  | _, _ => []

/- the parts' types are known -/
def infosB (P : Program) (t : TypeId) : Bool :=
  match P.underlying t with
  | some (.struct fs) => fs.toList.all fun f => (P.info? f.type).isSome
  | some (.array _ e) => (P.info? e).isSome
  | _ => false

def buildK (E : Bs) (s : S) (t : TypeId) (ps : List (Nat × Operand)) (kt : Kt ρ) : Option ρ :=
  match zeroT E.P E.pt t, partsT E.P t ps with
  | some z, some ts => match partsOf s (evs E s (ts.map fun q => q.1) ps) with
    | some (m, ws) => bif fitB z.length ((ts.map fun q => q.2).zip m) && sizesOk E.P (ts.map fun q => q.1) m && infosB E.P t then kt (.agg (fillB z ((ts.map fun q => q.2).zip m))) ws else none
    | none => none
  | _, _ => none
  where sizesOk (P : Program) : List TypeId → List (List BCell) → Bool
  | t :: ts, m :: l => Nat.beq (sizeT P t) m.length && sizesOk P ts l
  | _, _ => true

/- the parts of a slice are all there, in order -/
def inOrder : Nat → List (Nat × Operand) → Bool
  | _, [] => true
  | i, p :: l => Nat.beq i p.1 && inOrder (i + 1) l

def buildSliceK (E : Bs) (s : S) (d : Nat) (t : TypeId) (n : Nat) (ps : List (Nat × Operand)) (kt : Kt ρ) : Option ρ :=
  match ctsOf E.P E.pt 9 t, E.P.underlying t with
  | some [c], some (.slice e) => match partsOf s (ps.map fun p => ev E s e p.2) with
    | some (m, ws) => match plainsB m with
      | some m => bif okT E.P e c && inOrder 0 ps && Nat.beq n ps.length && Nat.ble (n * esize c) 16777216 then (match slMk c m with
        | some z => kt (.own d) (ws ++ [.p d (.live e ⟨c, z⟩)])
        | none => none) else none
      | none => none
    | _ => none
  | _, _ => none

def lenK (P : Program) (t : TypeId) (s : S) (v : Val) (kt : Kt ρ) : Option ρ :=
  match rd s v with
  | .cell c y _ => bif cutT P t c then (match slLen c y with | some n => kt (int_ .i64 n) [] | none => none) else none
  | .own p => match s.pl p with
    | .live _ c => bif cutT P t c.c then (match slLen c.c c.x with | some n => kt (int_ .i64 n) [] | none => none) else none
    | _ => none
  | .agg _ => match P.underlying t with | some (.array n _) => kt (int_ .i64 n) [] | _ => none
  | _ => none

def slCopy (c : CT) (x y : c.T) : Option c.T :=
  match c with
  | .sl row => some (List.append (List.take (List.length (α := row.T) x) y) (List.drop (List.length (α := row.T) y) x))
  | _ => none

def isOwn (p : Nat) : Val → Bool
  | .own q => Nat.beq q p
  | _ => false

/- copy into an owned slice, whose elements are one cell -/
def copyE (P : Program) (e : TypeId) (s : S) (a x : Val) (kt : Kt ρ) : Option ρ :=
  match res s a with
  | .own p => match s.pl p with
    | .live e' c => match dataOf s x with
      | some b => bif isOwn p (res s x) || !Nat.beq (esize c.c) 1 || !sizeIs P e 1 then none else (match castC b.c c.c b.x with
        | some y => match slLen c.c c.x, slLen c.c y, slCopy c.c c.x y with
          | some n, some m, some z => kt (int_ .i64 (Nat.min m n)) [.p p (.live e' ⟨c.c, z⟩)]
          | _, _, _ => none
        | none => none)
      | none => none
    | _ => none
  | _ => none

def copyK (E : Bs) (t : TypeId) (s : S) (a x : Val) (kt : Kt ρ) : Option ρ :=
  match E.P.underlying t with
  | some (.slice e) => copyE E.P e s a x kt
  | _ => none

def builtinK (E : Bs) (s : S) (d : Nat) (b : Builtin) (t : TypeId) (ts : List TypeId) (as_ : List Val) (kt : Kt ρ) : Option ρ :=
  match b with
  | .len => match as_ with | [x] => lenK E.P t s x kt | _ => none
  | .append => match as_, ts with | [a, b], [u] => bif Nat.beq t u then appendK E t s d a b kt else none | _, _ => none
  | .copy => match as_, ts with | [a, b], [_] => copyK E t s a b kt | _, _ => none
  | .max => match foldK maxI as_ with | some v => kt v [] | none => none
  | .min => match foldK minI as_ with | some v => kt v [] | none => none
  | _ => none

def fieldAddrK (E : Bs) (t : TypeId) (x : Val) (f : Nat) (kt : Kt ρ) : Option ρ :=
  match fieldOff E.P t f with
  | some (p, _) => match x with
    | .ptr r off => kt (.ptr r (off + p)) []
    | .eptr l bw => kt (.eptr (l.drop p) bw) []
    | .optr q i off => kt (.optr q i (off + p)) []
    | _ => none
  | none => none

def fieldK (E : Bs) (t : TypeId) (x : Val) (f : Nat) (kt : Kt ρ) : Option ρ :=
  match fieldOff E.P t f, x with
  | some (p, u), .agg l => match pickB E.P u (l.drop p) with | some v => kt v [] | none => none
  | _, _ => none

def indexVK (P : Program) (t : TypeId) (x i : Val) (kt : Kt ρ) : Option ρ :=
  match i with
  | .cell (.int _) i _ => match x with
    | .agg l => match P.underlying t with
      | some (.array n e) => bif Nat.beq n l.length && Nat.beq (sizeT P e) 1 then (match aggT P e with
        | some false => match plainB l with | some l => arrK l i fun c => bif refC c.c then none else kt (.cell c.c c.x false) [] | none => none
        | _ => none) else none
      | _ => none
    | .cell .str y _ => match P.underlying t with
      | some .string => (idx (α := UInt8) y i).bind fun b => kt (int_ .u8 b.toNat) []
      | _ => none
    | _ => none
  | _ => none

def convK (E : Bs) (a b : TypeId) (x : Val) (kt : Kt ρ) : Option ρ :=
  match x, constT E.P b, E.P.underlying a with
  | .cell (.int _) n _, some k, some _ => kt (int_ k (IntKind.wrap k n)) []
  | _, _, _ => none

def pickK (E : Bs) (s : S) (t : TypeId) (c a b : Operand) (kt : Kt ρ) : Option ρ :=
  match ev E s 0 c with
  | .cell .bool q _ => bif q then kt (ev E s t a) [] else kt (ev E s t b) []
  | _ => none

def allocK (E : Bs) (d : Nat) (t : TypeId) (kt : Kt ρ) : Option ρ :=
  match zeroT E.P E.pt t with
  | some l => kt (.ptr d 0) [.b d l]
  | none => none

def boxK (s : S) (d : Nat) (v : Val) (kt : Kt ρ) : Option ρ :=
  match toB s v with
  | some m => kt (.ptr d 0) [.b d m]
  | none => none

def nilK (v : Val) (kt : Kt ρ) : Option ρ :=
  match v with
  | .ptr r off => kt (.ptr r off) []
  | .eptr l bw => kt (.eptr l bw) []
  | .optr p i off => kt (.optr p i off) []
  | .fn f caps => kt (.fn f caps) []
  | _ => none

def extractK (v : Val) (i : Nat) (kt : Kt ρ) : Option ρ :=
  match v with
  | .tup l => match l[i]? with | some v => kt v [] | none => none
  | _ => none

def funcK (E : Bs) (s : S) (fn : Fn) (first caps : List Operand) (kt : Kt ρ) : Option ρ :=
  match fn, first with
  | .func f, [] => kt (.fn f (caps.map (ev E s 0))) []
  | _, _ => none

def argsV (E : Bs) (s : S) : List Operand → List TypeId → List Val
  | x :: l, t :: ts => ev E s t x :: argsV E s l ts
  | x :: l, [] => ev E s 0 x :: argsV E s l []
  | [], _ => []

def anyCallK (E : Bs) (s : S) (d : Nat) (c : Call) (kt : Kt ρ) : Option ρ :=
  match c.callee with
  | .builtin b => match c.argTypes.toList with
    | t :: ts => builtinK E s d b t ts (argsV E s c.args.toList c.argTypes.toList) kt
    | [] => none
  | .value g => match fnOf (ev E s 0 g) with
    | some (f, caps) => callX E s d f (argsV E s c.args.toList c.argTypes.toList ++ caps) kt
    | none => none
  | _ => none

def slcK (E : Bs) (s : S) (t : TypeId) (x : Operand) (lo hi mx : Option Operand) (kt : Kt ρ) : Option ρ :=
  match mx with
  | none => cutK E.P t s (ev E s t x) (lo.map (ev E s 3)) (hi.map (ev E s 3)) kt
  | some _ => none

/- d: where new places of this operation are numbered from -/
def opK (E : Bs) (d : Nat) (o : Oper) (s : S) (kt : Kt ρ) : Option ρ :=
  match o.op with
  | .move x => kt (ev E s o.type x) []
  | .assign x => kt (ev E s o.type x) []
  | .pick c a b => pickK E s o.type c a b kt
  | .alloc t => allocK E d t kt
  | .box t x => boxK s d (ev E s t x) kt
  | .build t ps => buildK E s t ps.toList kt
  | .buildSlice t n ps => buildSliceK E s d t n ps.toList kt
  | .load t a => loadK E t s (ev E s 0 a) kt
  | .store t a v => storeK E.P t s (ev E s 0 a) (ev E s t v) kt
  | .nilCheck x => nilK (ev E s 0 x) kt
  | .binOp op t x y u => binK E.P t op (ev E s t x) (ev E s u y) kt
  | .unOp op t x => unK op (ev E s t x) kt
  | .convert a b x => convK E a b (ev E s a x) kt
  | .slice t x lo hi mx => slcK E s t x lo hi mx kt
  | .fieldAddr t x f => fieldAddrK E t (ev E s 0 x) f kt
  | .field t x f => fieldK E t (ev E s t x) f kt
  | .indexAddr t x i => indexK E t s (ev E s t x) (ev E s 3 i) kt
  | .index t x i => indexVK E.P t (ev E s t x) (ev E s 3 i) kt
  | .extract x i => extractK (ev E s 0 x) i kt
  | .makeSlice t l c => makeK E t d (ev E s 3 l) (ev E s 3 c) kt
  | .makeFunc fn first caps => funcK E s fn first.toList caps.toList kt
  | .call c => anyCallK E s d c kt
  | _ => none

def S.put (s : S) (dst : Option Tmp) (v : Val) (ws : Wr) : S :=
  match dst with
  | some d => { s.ws ws with tm := upd s.tm d v }
  | none => s.ws ws

def okDst (nt : Nat) : Option Tmp → Bool
  | some d => Nat.blt d nt
  | none => true

def S.base (s : S) (i : Nat) : Nat := s.nx * 100000 + i * 64

/- an operation under its guard -/
def guardK (ops : List Oper) (o : Oper) (s : S) (yes no : Option ρ) : Option ρ :=
  match o.guard with
  | none => yes
  | some (j, want) =>
    match (ops[j]?).bind fun q => q.dst with
    | none => none
    | some t => match s.tm t with
      | .cell .bool b _ => bif want then (bif b then yes else no) else (bif b then no else yes)
      | .sk => no
      | _ => none

/- what a test has told -/
def S.know (s : S) (t : Nat) (b bw : Bool) : S := { s with tm := upd s.tm t (.cell .bool b bw) }
def S.knowO (s : S) (x : Operand) (b bw : Bool) : S := match x with | .tmp t => s.know t b bw | _ => s

/- the same; what the guard tells is known behind it -/
def guardS (ops : List Oper) (o : Oper) (s : S) (yes no : S → Option ρ) : Option ρ :=
  match o.guard with
  | none => yes s
  | some (j, want) =>
    match (ops[j]?).bind fun q => q.dst with
    | none => none
    | some t => match s.tm t with
      | .cell .bool b bw => bif want then (bif b then yes (s.know t true bw) else no (s.know t false bw)) else (bif b then no (s.know t true bw) else yes (s.know t false bw))
      | .sk => no s
      | _ => none

/- is a slice nil? its datum says so only where it is not empty -/
def emptyV : Val → Option Bool
  | .cell (.sl _) y _ => some (List.isEmpty y)
  | .cell .pats y _ => some (List.isEmpty y)
  | _ => none

def nilT (E : Bs) (o : Oper) (s : S) : Option Bool :=
  match o.op with
  | .binOp .eql t x (.const (.slice none 0 0)) _ => match E.P.underlying t with
    | some (.slice _) => emptyV (ev E s t x)
    | _ => none
  | _ => none

/- either way -/
def mergeO (same : ρ → ρ → Bool) (a b : Option ρ) : Option ρ := a.bind fun x => b.bind fun y => bif same x y then some x else none

/- one operation of a region in the text's order -/
def stepO (E : Bs) (same : ρ → ρ → Bool) (d : Nat) (o : Oper) (s : S) (kt : Kt ρ) : Option ρ :=
  match nilT E o s with
  | some e => bif e then mergeO same (kt (bool_ true) []) (kt (bool_ false) []) else kt (bool_ false) []
  | none => opK E d o s kt

def runOps (E : Bs) (same : ρ → ρ → Bool) (ops : List Oper) : Nat → List Oper → S → (S → Option ρ) → Option ρ
  | _, [], s, kt => kt s
  | i, o :: l, s, kt => bif !okDst E.nt o.dst then none else guardS ops o s (fun s => stepO E same (s.base i) o s fun v ws => runOps E same ops (i + 1) l (s.put o.dst v ws) kt) (fun s => runOps E same ops (i + 1) l (s.put o.dst .sk []) kt)

/- a region that draws its order: what each operation reads and writes is noted, and asked at the end -/
def tmpsOf (ops : List Oper) (o : Oper) : List Nat :=
  (o.op.operands.toList.filterMap fun | .tmp t => some t | _ => none) ++
  (match o.guard with
   | some (g, _) => ((ops[g]?).bind fun q => q.dst).toList
   | none => [])

/- boxes are named by even numbers, places of owned slices by odd ones -/
def rfsB : List BCell → List Nat
  | [] => []
  | .rf p :: l => (2 * p + 1) :: rfsB l
  | _ :: l => rfsB l
def roots1 (s : S) : Val → List Nat
  | .ptr r _ => (2 * r) :: rfsB (s.bx r)
  | .dptr r _ _ _ => (2 * r) :: rfsB (s.bx r)
  | .own p => [2 * p + 1]
  | .optr p _ _ => [2 * p + 1]
  | _ => []
def rootsV (s : S) : Val → List Nat
  | .fn _ caps => (caps.map (roots1 s)).flatten
  | v => roots1 s v

def W1.key : W1 → Nat
  | .b r _ => 2 * r
  | .p i _ => 2 * i + 1

structure Note where
  ts : List Nat
  rs : List Nat
  d : Option Nat
  ws : List Nat
  anc : List Nat

def interN : List Nat → List Nat → Bool
  | [], _ => false
  | a :: l, m => memN a m || interN l m

def optL : Option Nat → List Nat
  | some d => [d]
  | none => []

/- may the two come in either order? -/
def Note.apart (x y : Note) : Bool :=
  !interN (optL x.d) (optL y.d ++ y.ts) && !interN x.ts (optL y.d) && !interN x.ws (y.ws ++ y.rs) && !interN x.rs y.ws

def apartAll (x : Note) (i : Nat) : List Note → Bool
  | [] => true
  | y :: l => (memN i y.anc || x.apart y) && apartAll x i l

def okNotes : Nat → List Note → Bool
  | _, [] => true
  | i, x :: l => apartAll x i l && okNotes (i + 1) l

def ancOf (acc : List (List Nat)) (o : Oper) : List Nat :=
  ((o.after.toList.filter fun e => Region.binds .any e).map fun e => e.on :: (acc[e.on]?.getD [])).flatten

def edgesOk (i : Nat) (o : Oper) : Bool := o.after.toList.all fun e => !Region.binds .any e || Nat.blt e.on i

def noteOf (ops : List Oper) (s : S) (o : Oper) (rs : List Nat) (ws : Wr) (an : List (List Nat)) : Note := ⟨tmpsOf ops o, rs, o.dst, ws.map W1.key, ancOf an o⟩

/- what reads no memory -/
def quietOp : Op → Bool
  | .move _ => true
  | .assign _ => true
  | .pick _ _ _ => true
  | .nilCheck _ => true
  | .binOp _ _ _ _ _ => true
  | .unOp _ _ _ => true
  | .convert _ _ _ => true
  | .fieldAddr _ _ _ => true
  | .field _ _ _ => true
  | .index _ _ _ => true
  | .extract _ _ => true
  | .makeFunc _ _ _ => true
  | _ => false

def rootsOf1 (ops : List Oper) (s : S) (o : Oper) : List Nat := bif quietOp o.op then [] else ((tmpsOf ops o).map fun t => rootsV s (s.tm t)).flatten

def runDraw (E : Bs) (ops : List Oper) : List Oper → S → List Note → List (List Nat) → (S → Option ρ) → Option ρ
  | [], s, ns, _, kt => bif okNotes 0 ns then kt s else none
  | o :: l, s, ns, an, kt =>
    bif edgesOk an.length o && okDst E.nt o.dst then
      guardS ops o s
        (fun s => opK E (s.base an.length) o s fun v ws => runDraw E ops l (s.put o.dst v ws) (ns ++ [noteOf ops s o (rootsOf1 ops s o) ws an]) (an ++ [ancOf an o]) kt)
        (fun s => runDraw E ops l (s.put o.dst .sk []) (ns ++ [noteOf ops s o [] [] an]) (an ++ [ancOf an o]) kt)
    else none

/- the new names of places at a cut -/
def namesOf (s : S) : List K → List (Nat × Nat)
  | [] => []
  | .t _ :: l => namesOf s l
  | .o _ _ :: l => namesOf s l
  | .p i _ :: l => match s.tm i with | .ptr r _ => (r, i * 64) :: namesOf s l | _ => namesOf s l
  | .f i j n _ :: l => match capR (s.tm i) j with | some r => (r, n) :: namesOf s l | none => namesOf s l

def nameN (r : Nat) : List (Nat × Nat) → Option Nat
  | [] => none
  | (a, b) :: l => bif Nat.beq r a then some b else nameN r l

def rename1 (nm : List (Nat × Nat)) : Val → Option Val
  | .ptr r off => match nameN r nm with | some q => some (.ptr q off) | none => none
  | .sk => some .sk
  | .un => some .un
  | .nilp => some .nilp
  | .nilS c => match nilC c with | some z => some (.cell z.c z.x false) | none => none
  | .cell c x bw => some (.cell c x bw)
  | .agg l => match plainB l with | some m => some (.agg (m.map .pl)) | none => none
  | .eptr l bw => some (.eptr l bw)
  | _ => none

def renames (nm : List (Nat × Nat)) : List Val → Option (List Val)
  | [] => some []
  | v :: l => match rename1 nm v, renames nm l with | some a, some b => some (a :: b) | _, _ => none

def renameV (nm : List (Nat × Nat)) : Val → Option Val
  | .fn f caps => match renames nm caps with | some l => some (.fn f l) | none => none
  | v => rename1 nm v

/- owned slices and boxes move, so that none is kept twice -/
def keepX (nm : List (Nat × Nat)) (s : S) (k : K) : Option (X × Mv) :=
  match k with
  | .t i => match renameV nm (res s (s.tm i)) with | some v => some (.val v, Mv.none) | none => none
  | .o i e => match res s (s.tm i) with
    | .own p => match s.pl p with | .live e' c => bif Nat.beq e e' then some (.own e c.c c.x, ⟨[], [(i * 64, p)], []⟩) else none | _ => none
    | .nilS t => match nilC t with | some z => bif Nat.blt 0 (esize t) then some (.own e z.c z.x, ⟨[], [], [(i * 64, esize t)]⟩) else none | none => none
    | _ => none
  | .p i ms => match s.tm i with
    | .ptr r off => bif Nat.beq off 0 then (match boxX s (i * 64 + 1) ms (s.bx r) with | some (xs, q) => some (.box xs, (⟨[(i * 64, r)], [], []⟩ : Mv).app q) | none => none) else none
    | _ => none
  | .f i j n ms => match capR (s.tm i) j with
    | some r => match boxX s (n + 1) ms (s.bx r) with | some (xs, q) => some (.box xs, (⟨[(n, r)], [], []⟩ : Mv).app q) | none => none
    | none => none

def keepXs (nm : List (Nat × Nat)) (s : S) : List K → Option (List X × Mv)
  | [] => some ([], Mv.none)
  | k :: l => match keepX nm s k, keepXs nm s l with | some (x, q), some (xs, qs) => some (x :: xs, q.app qs) | _, _ => none

/- a box that came in keeps its number -/
def rootsKept (roots : List Nat) (bs : List (Nat × Nat)) : Bool := roots.all (fun r => memN r (bs.map fun p => p.1)) && bs.all fun p => Nat.beq p.1 p.2 || !memN p.1 roots

def K.ix : K → Nat
  | .t j => j
  | .o j _ => j
  | .p j _ => j
  | .f j _ _ _ => j

def keysIn (nt : Nat) (ks : List K) : Bool := ks.all fun k => Nat.blt k.ix nt

def S.zero : S := ⟨fun _ => .un, fun _ => [], fun _ => .none, 1⟩

/- a box's cells laid: the owned ones at places numbered from d on -/
def layB (d : Nat) : List XB → S → List BCell × S
  | [], s => ([], s)
  | .pl c :: l, s => match layB (d + 1) l s with | (m, s') => (.pl c :: m, s')
  | .ow e c :: l, s => match layB (d + 1) l (s.w1 (.p d (.live e c))) with | (m, s') => (.rf d :: m, s')

def layBox (s : S) (i : Nat) (l : List XB) : S :=
  match layB (i + 1) l s with
  | (m, s') => s'.w1 (.b i m)

def putXs : List K → List X → S → S
  | .t i :: ks, .val v :: xs, s => putXs ks xs { s with tm := upd s.tm i v }
  | .o i _ :: ks, .own e c x :: xs, s => putXs ks xs { (s.w1 (.p (i * 64) (.live e ⟨c, x⟩))) with tm := upd s.tm i (.own (i * 64)) }
  | .p i _ :: ks, .box l :: xs, s => putXs ks xs { layBox s (i * 64) l with tm := upd s.tm i (.ptr (i * 64) 0) }
  | .f _ _ n _ :: ks, .box l :: xs, s => putXs ks xs (layBox s n l)
  | _, _, s => s

def den (E : Env ρ) : Nat → Bool → List Item → S → Option ρ
  | 0, _, _, _ => none
  | n + 1, st, todo, s =>
    match todo with
    | [] => E.ret s
    | .code c :: k => match c with
      | .ret => E.ret s
      | .skip => den E n st k s
      | .label _ => den E n st k s
      | .seq a b => den E n st (.code a :: .code b :: k) s
      | .cond c a b => match evS s c with | .cell .bool t bw => bif t then den E n st (.code a :: k) (s.knowO c true bw) else den E n st (.code b :: k) (s.knowO c false bw) | _ => none
      | .block id b => den E n st (.code b :: .inBlock id :: k) s
      | .loop b => den E n st (.code b :: .inLoop b :: k) s
      | .scope b => den E n st (.code b :: .inScope b :: k) s
      | .exit id => match exitTo id k with | some k' => den E n st k' s | none => none
      | .goto l => match gotoIn l k with | some k' => den E n st k' s | none => none
      | .region id ops dr => match (bif st then none else E.cut id) with
          | some ks => match keepXs (namesOf s ks) s ks with
            | some (xs, mv) => bif mv.ok && rootsKept E.roots mv.bs && keysIn E.nt ks then E.rec_ (.code (.region id ops dr) :: k) xs else none
            | none => none
          | none => bif !Nat.ble (ops.toList.length * 64) 100000 then none else bif dr then runDraw E.toBs ops.toList ops.toList s [] [] fun s' => den E n false k { s' with nx := s'.nx + 1 }
              else runOps E.toBs E.same ops.toList 0 ops.toList s fun s' => den E n false k { s' with nx := s'.nx + 1 }
      | _ => none
    | .inBlock _ :: k => den E n st k s
    | .inScope _ :: k => den E n st k s
    | .inLoop b :: k => den E n st (.code b :: .inLoop b :: k) s
    | _ => none

end

/- the todo at a region -/
def stackAt (r : Nat) : Code → List Item → Option (List Item)
  | .region id ops dr, k => bif Nat.beq id r then some (.code (.region id ops dr) :: k) else none
  | .seq a b, k => match stackAt r a (.code b :: k) with | some l => some l | none => stackAt r b k
  | .cond _ a b, k => match stackAt r a k with | some l => some l | none => stackAt r b k
  | .block id b, k => stackAt r b (.inBlock id :: k)
  | .loop b, k => stackAt r b (.inLoop b :: k)
  | .scope b, k => stackAt r b (.inScope b :: k)
  | _, _ => none

end Go.Proofs.Ytoifbdaaiejbnaa.D
/- Functions: what a call comes to, by rounds. -/
namespace Go.Proofs.Ytoifbdaaiejbnaa.D
open Go

theorem know_id {s : S} {t : Nat} {b bw : Bool} (h : s.tm t = .cell .bool b bw) : s.know t b bw = s := by
  have : upd s.tm t (.cell .bool b bw) = s.tm := funext fun i => by
    by_cases e : i = t
    · subst e; rw [upd_same, h]
    · rw [upd_other _ _ _ _ e]
  show { s with tm := upd s.tm t (.cell .bool b bw) } = s
  rw [this]

theorem knowO_id {s : S} {x : Operand} {b bw : Bool} (h : evS s x = .cell .bool b bw) : s.knowO x b bw = s := by
  cases x with
  | tmp t => exact know_id h
  | _ => rfl

theorem guardS_eq {ρ : Type} (ops : List Oper) (o : Oper) (s : S) (yes no : S → Option ρ) : guardS ops o s yes no = guardK ops o s (yes s) (no s) := by
  unfold guardS guardK
  cases o.guard with
  | none => rfl
  | some g =>
    obtain ⟨j, want⟩ := g
    simp only
    cases (ops[j]?).bind fun q => q.dst with
    | none => rfl
    | some t =>
      simp only
      split
      · rename_i b bw h
        change Bool at b
        cases want <;> cases b <;> simp only [cond_true, cond_false, know_id h]
      · rfl
      · rfl

/- one result's cells; an owned result moves out -/
def retV (s : S) (g : RS) (v : Val) : Option (List Cell × S) :=
  match g with
  | .c _ (some e) => match res s v with
    | .own p => match s.pl p with | .live e' c => bif Nat.beq e e' then some ([c], s.w1 (.p p .none)) else none | _ => none
    | .nilS t => match nilC t with | some z => bif Nat.blt 0 (esize t) then some ([z], s) else none | none => none
    | _ => none
  | .c _ none => match rd s v with
    | .cell c x bw => bif bw && refC c then none else some ([⟨c, x⟩], s)
    | .own p => match s.pl p with | .live _ c => some ([c], s.w1 (.p p (.froz c))) | _ => none
    | _ => none
  | .a cs => match v with
    | .agg l => match plainB l with | some m => bif Nat.beq m.length cs.length then some (m, s) else none | none => none
    | _ => none

/- one that stands in a box -/
def retB (P : Program) (t : TypeId) (s : S) (g : RS) (v : Val) : Option (List Cell × S) :=
  match v with
  | .ptr r off => match g with
    | .c _ o => match aggT P t with
      | some false => match (s.bx r)[off]? with
        | some (.rf p) => match s.pl p with
          | .live e' c => match o with | some e => bif Nat.beq e e' then some ([c], s.w1 (.p p .none)) else none | none => some ([c], s.w1 (.p p (.froz c)))
          | .froz c => match o with | some _ => none | none => some ([c], s)
          | .none => none
        | some (.nl t) => match nilC t with | some z => (match o with | some _ => bif Nat.blt 0 (esize t) then some ([z], s) else none | none => some ([z], s)) | none => none
        | some (.pl c) => match o with | some _ => none | none => some ([c], s)
        | none => none
      | _ => none
    | .a cs => match aggT P t with
      | some true => bif Nat.beq (sizeT P t) cs.length && Nat.ble (off + cs.length) (s.bx r).length && !Nat.beq cs.length 0 then (match froz s (((s.bx r).drop off).take cs.length) with
        | some (y, ws) => match plainB y with | some m => some (m, s.ws ws) | none => none
        | none => none) else none
      | _ => none
  | _ => none

def retCells (P : Program) (tm : Nat → Val) : List ResultVar → List RS → S → Option (List Cell × S)
  | [], gs, s => match gs with | [] => some ([], s) | _ :: _ => none
  | q :: l, gs, s => match gs with
    | g :: gs => match (match q with | .tmp t => retV s g (tm t) | .cell a t => retB P t s g (tm a)) with
      | some (m, s') => match retCells P tm l gs s' with | some (m', b) => some (m ++ m', b) | none => none
      | none => none
    | [] => none

def xbCell : XB → Cell
  | .pl c => c
  | .ow _ c => c

def boxesCells (s : S) : List (List (CT × Option TypeId)) → List Nat → Option (List Cell)
  | [], rs => match rs with | [] => some [] | _ :: _ => none
  | g :: gs, rs => match rs with
    | r :: rs => match boxX s 0 (g.map fun p => p.2) (s.bx r) with
      | some (a, q) => match boxesCells (s.ws (kills q.ps)) gs rs with
        | some b => bif nodupN (q.ps.map fun p => p.2) then some (a.map xbCell ++ b) else none
        | none => none
      | none => none
    | [] => none

def retK (P : Program) (fn : Func) (g : Sig) (roots : List Nat) (s : S) : Option g.row.T :=
  match retCells P s.tm fn.results.toList g.rs s with
  | some (l, s') => match boxesCells s' g.bs roots with
    | some m => rowOf g.row (l ++ m)
    | none => none
  | none => none

/- the state at a function's begin -/
def capIn : Nat → List X → S → List Val × S × List Nat
  | _, [], s => ([], s, [])
  | r, x :: l, s => match x with
    | .box b => match capIn (r + 1 + b.length) l (layBox s r b) with | (vs, s', rs) => (.ptr r 0 :: vs, s', r :: rs)
    | .cell c y bw => match capIn (r + 1) l s with | (vs, s', rs) => (.cell c y bw :: vs, s', rs)
    | .agg m => match capIn (r + 1) l s with | (vs, s', rs) => (.agg (m.map .pl) :: vs, s', rs)
    | .val v => match capIn (r + 1) l s with | (vs, s', rs) => (v :: vs, s', rs)
    | _ => match capIn (r + 1) l s with | (vs, s', rs) => (.un :: vs, s', rs)

def entryS : Nat → List X → S → S × List Nat
  | _, [], s => (s, [])
  | i, x :: l, s => match x with
    | .cell c y bw => entryS (i + 1) l { s with tm := upd s.tm i (.cell c y bw) }
    | .own e c y => entryS (i + 1) l { (s.w1 (.p (i * 64) (.live e ⟨c, y⟩))) with tm := upd s.tm i (.own (i * 64)) }
    | .agg m => entryS (i + 1) l { s with tm := upd s.tm i (.agg (m.map .pl)) }
    | .box b => match entryS (i + 1) l { layBox s (i * 64) b with tm := upd s.tm i (.ptr (i * 64) 0) } with | (s', r) => (s', i * 64 :: r)
    | .fn f caps => match capIn (i * 64) caps s with
      | (vs, s1, rs) => match entryS (i + 1) l { s1 with tm := upd s1.tm i (.fn f vs) } with | (s', r) => (s', rs ++ r)
    | .val v => entryS (i + 1) l { s with tm := upd s.tm i v }

/- data, compared -/
mutual
def Pat.same : Pat → Pat → Bool
  | .mk k s l, .mk k' s' l' => (k == k') && (s == s') && Pat.sames l l'
def Pat.sames : List Pat → List Pat → Bool
  | [], m => match m with | [] => true | _ :: _ => false
  | p :: l, m => match m with | [] => false | q :: m => Pat.same p q && Pat.sames l m
end
def sameL {α : Type} (f : α → α → Bool) : List α → List α → Bool
  | [], m => match m with | [] => true | _ :: _ => false
  | x :: l, m => match m with | [] => false | y :: m => f x y && sameL f l m
mutual
def CT.same : (c : CT) → c.T → c.T → Bool
  | .int _ => fun x y => eqI x y
  | .bool => fun x y => eqB x y
  | .str => fun x y => eqS x y
  | .sl row => fun x y => sameL (Row.same row) x y
  | .pats => fun x y => Pat.sames x y
def Row.same : (r : Row) → r.T → r.T → Bool
  | .nil => fun _ _ => true
  | .one c => fun x y => CT.same c x y
  | .cons c r => fun x y => CT.same c x.1 y.1 && Row.same r x.2 y.2
end

theorem eqI_eq {x y : Int} (h : eqI x y = true) : x = y := beq_iff_eq.mp h
theorem eqB_eq {x y : Bool} (h : eqB x y = true) : x = y := beq_iff_eq.mp h
theorem eqS_eq {x y : List UInt8} (h : eqS x y = true) : x = y := beq_iff_eq.mp h

theorem sameL_eq {α : Type} {f : α → α → Bool} (hf : ∀ x y, f x y = true → x = y) : ∀ (l m : List α), sameL f l m = true → l = m
  | [], [], _ => rfl
  | [], _ :: _, h => by cases h
  | _ :: _, [], h => by cases h
  | x :: l, y :: m, h => by
    have h : (f x y && sameL f l m) = true := h
    rw [Bool.and_eq_true] at h
    rw [hf x y h.1, sameL_eq hf l m h.2]

mutual
theorem Pat.same_eq : ∀ (p q : Pat), Pat.same p q = true → p = q
  | .mk k s l, .mk k' s' l', h => by
    have h : ((k == k') && (s == s') && Pat.sames l l') = true := by rw [Pat.same] at h; exact h
    simp only [Bool.and_eq_true, beq_iff_eq] at h
    rw [h.1.1, h.1.2, Pat.sames_eq l l' h.2]
theorem Pat.sames_eq : ∀ (l m : List Pat), Pat.sames l m = true → l = m
  | [], [], _ => rfl
  | [], _ :: _, h => by rw [Pat.sames] at h; cases h
  | _ :: _, [], h => by rw [Pat.sames] at h; cases h
  | p :: l, q :: m, h => by
    have h : (Pat.same p q && Pat.sames l m) = true := by rw [Pat.sames] at h; exact h
    rw [Bool.and_eq_true] at h
    rw [Pat.same_eq p q h.1, Pat.sames_eq l m h.2]
end

mutual
theorem CT.same_eq : ∀ (c : CT) (x y : c.T), CT.same c x y = true → x = y
  | .int _, x, y, h => by
    have h : eqI x y = true := by rw [CT.same] at h; exact h
    exact eqI_eq h
  | .bool, x, y, h => by
    have h : eqB x y = true := by rw [CT.same] at h; exact h
    exact eqB_eq h
  | .str, x, y, h => by
    have h : eqS x y = true := by rw [CT.same] at h; exact h
    exact eqS_eq h
  | .sl row, x, y, h => by
    have h : sameL (Row.same row) x y = true := by rw [CT.same] at h; exact h
    exact sameL_eq (Row.same_eq row) x y h
  | .pats, x, y, h => by
    have h : Pat.sames x y = true := by rw [CT.same] at h; exact h
    exact Pat.sames_eq x y h
theorem Row.same_eq : ∀ (r : Row) (x y : r.T), Row.same r x y = true → x = y
  | .nil, _, _, _ => rfl
  | .one c, x, y, h => CT.same_eq c x y (by rw [Row.same] at h; exact h)
  | .cons c r, x, y, h => by
    have h : (CT.same c x.1 y.1 && Row.same r x.2 y.2) = true := by rw [Row.same] at h; exact h
    rw [Bool.and_eq_true] at h
    exact Prod.ext (CT.same_eq c _ _ h.1) (Row.same_eq r _ _ h.2)
end

structure Book where
  P : Program
  pt : TypeId
  sig : Nat → Sig
  cut : Nat → Nat → Option (List K)
  ext : (f : Nat) → Option (List X → Option (sig f).row.T)
  inp : Nat → Option Inp

def rootsOf (xs : List X) : List Nat := (entryS 0 xs S.zero).2

abbrev Book.Call (B : Book) := (f : Nat) → List X → Option (B.sig f).row.T
abbrev Book.Rec (B : Book) (f : Nat) := List Item → List X → Option (B.sig f).row.T

def Book.env (B : Book) (call : B.Call) (f : Nat) (fn : Func) (roots : List Nat) (rec_ : B.Rec f) : Env (B.sig f).row.T :=
  { P := B.P, pt := B.pt, sig := B.sig, nt := fn.ntmps, roots, call, inp := B.inp, cut := B.cut f, rec_, ret := retK B.P fn (B.sig f) roots, same := Row.same (B.sig f).row }

/- from a cut on -/
def Book.goOn (B : Book) (call : B.Call) (f : Nat) (fn : Func) (roots : List Nat) : Nat → B.Rec f
  | 0, _, _ => none
  | j + 1, todo, xs => match todo with
    | .code (.region id _ _) :: _ => match B.cut f id with
      | some ks => den (B.env call f fn roots (B.goOn call f fn roots j)) 100000 true todo (putXs ks xs S.zero)
      | none => none
    | _ => none

def Book.call (B : Book) : Nat → B.Call
  | 0, _, _ => none
  | k + 1, f, xs => match B.ext f with
    | some g => g xs
    | none => match B.P.funcs[f]? with
      | some fn => match fn.body with
        | some c => den (B.env (B.call k) f fn (rootsOf xs) (B.goOn (B.call k) f fn (rootsOf xs) k)) 100000 false [.code c] (entryS 0 xs S.zero).1
        | none => none
      | none => none

end Go.Proofs.Ytoifbdaaiejbnaa.D
/- Words for plain proofs about what functions come to. -/
namespace Go.Proofs.Ytoifbdaaiejbnaa.D
open Go

theorem wrap64 {x : Int} (h1 : -9223372036854775808 ≤ x) (h2 : x ≤ 9223372036854775807) : IntKind.wrap .i64 x = x := by
  rw [IntKind.wrap_i64]; omega

theorem wrapS (i : Nat) (h : i < 9223372036854775807) : IntKind.wrap .i64 ((i : Int) + 1) = ((i + 1 : Nat) : Int) := by
  rw [wrap64 (by omega) (by omega)]; omega

theorem idx_nat {α : Type} (l : List α) (i : Nat) : idx l (i : Int) = l[i]? := by
  unfold idx; rw [if_pos (by omega)]; rfl

theorem idx_zero {α : Type} (l : List α) : idx l 0 = l[0]? := idx_nat l 0

theorem room_ok {n b : Nat} (h : n * b < 70368744177664) : room n b = true := by
  unfold room; exact decide_eq_true h

theorem inB_ok {n : Nat} {i : Int} (h1 : 0 ≤ i) (h2 : i < n) : inB n i = true := by
  unfold inB; rw [decide_eq_true h1, decide_eq_true h2]; rfl

theorem drop_cons' {α : Type} {l r : List α} {i : Nat} {x : α} (h : l.drop i = x :: r) : i < l.length ∧ l[i]? = some x ∧ l.drop (i + 1) = r := by
  have h1 : i < l.length := by
    rcases Nat.lt_or_ge i l.length with h1 | h1
    · exact h1
    · rw [List.drop_eq_nil_of_le h1] at h; cases h
  rw [List.drop_eq_getElem_cons h1] at h
  injection h with h2 h3
  exact ⟨h1, by rw [List.getElem?_eq_getElem h1, h2], h3⟩

theorem drop_nil' {α : Type} {l : List α} {i : Nat} (h : l.drop i = []) : l.length ≤ i := List.drop_eq_nil_iff.mp h

theorem dec_lt {a b : Nat} (h : a < b) : decide ((a : Int) < (b : Int)) = true := decide_eq_true (by omega)
theorem dec_ge {a b : Nat} (h : b ≤ a) : decide ((a : Int) < (b : Int)) = false := decide_eq_false (by omega)

theorem maxI_nat (a b : Nat) : maxI (a : Int) (b : Int) = ((max a b : Nat) : Int) := by
  unfold maxI; split <;> omega

theorem succ_of {j n : Nat} (h : n < j) : ∃ m, j = m + 1 ∧ n ≤ m := ⟨j - 1, by omega, by omega⟩

/- how much a pattern is -/
mutual
def Pat.parts : Pat → Nat
  | .mk _ _ l => Pat.partsL l + 1
def Pat.partsL : List Pat → Nat
  | [] => 0
  | p :: l => p.parts + Pat.partsL l
end
mutual
def Pat.deep : Pat → Nat
  | .mk _ _ l => Pat.deepL l + 1
def Pat.deepL : List Pat → Nat
  | [] => 0
  | p :: l => max p.deep (Pat.deepL l)
end
mutual
def Pat.sz : Pat → Nat
  | .mk _ s l => s.length + Pat.szL l + 1
def Pat.szL : List Pat → Nat
  | [] => 0
  | p :: l => p.sz + Pat.szL l + 1
end

theorem Pat.parts_eq (p : Pat) : p.parts = Pat.partsL p.subs + 1 := by cases p; rw [Pat.parts]; rfl
theorem Pat.deep_eq (p : Pat) : p.deep = Pat.deepL p.subs + 1 := by cases p; rw [Pat.deep]; rfl
theorem Pat.sz_eq (p : Pat) : p.sz = p.set.length + Pat.szL p.subs + 1 := by cases p; rw [Pat.sz]; rfl

theorem Pat.szL_len : ∀ l : List Pat, l.length ≤ Pat.szL l
  | [] => Nat.le_refl 0
  | p :: l => by rw [Pat.szL, List.length_cons]; have := Pat.szL_len l; omega

theorem Pat.szL_mem : ∀ {l : List Pat} {p : Pat}, p ∈ l → p.sz + 1 ≤ Pat.szL l
  | q :: l, p, h => by
    rw [Pat.szL]
    rcases List.mem_cons.mp h with rfl | h
    · omega
    · have := Pat.szL_mem h; omega

theorem Pat.sz_sub {p q : Pat} (h : q ∈ p.subs) : q.sz < p.sz := by
  rw [p.sz_eq]; have := Pat.szL_mem h; omega

/- what holds of a pattern when it holds of all that are smaller -/
theorem Pat.induct {motive : Pat → Prop} (h : ∀ p, (∀ q ∈ p.subs, motive q) → motive p) : ∀ p, motive p := by
  have : ∀ n p, Pat.sz p ≤ n → motive p := by
    intro n
    induction n with
    | zero => intro p hp; rw [p.sz_eq] at hp; omega
    | succ n ih => intro p hp; exact h p fun q hq => ih q (by have := Pat.sz_sub hq; omega)
  exact fun p => this p.sz p (Nat.le_refl _)

theorem Pat.partsL_le_of : ∀ {l : List Pat}, (∀ p ∈ l, p.parts ≤ p.sz) → Pat.partsL l ≤ Pat.szL l
  | [], _ => Nat.le_refl 0
  | p :: l, h => by
    rw [Pat.partsL, Pat.szL]
    have := h p List.mem_cons_self
    have := Pat.partsL_le_of (l := l) fun q hq => h q (List.mem_cons_of_mem _ hq)
    omega
theorem Pat.parts_le (p : Pat) : p.parts ≤ p.sz := by
  refine Pat.induct (motive := fun p => p.parts ≤ p.sz) (fun p ih => ?_) p
  rw [p.parts_eq, p.sz_eq]
  have := Pat.partsL_le_of ih
  omega
theorem Pat.partsL_le (l : List Pat) : Pat.partsL l ≤ Pat.szL l := Pat.partsL_le_of fun p _ => p.parts_le

theorem Pat.deepL_le_of : ∀ {l : List Pat}, (∀ p ∈ l, p.deep ≤ p.parts) → Pat.deepL l ≤ Pat.partsL l
  | [], _ => Nat.le_refl 0
  | p :: l, h => by
    rw [Pat.partsL, Pat.deepL]
    have := h p List.mem_cons_self
    have := Pat.deepL_le_of (l := l) fun q hq => h q (List.mem_cons_of_mem _ hq)
    omega
theorem Pat.deep_le (p : Pat) : p.deep ≤ p.parts := by
  refine Pat.induct (motive := fun p => p.deep ≤ p.parts) (fun p ih => ?_) p
  rw [p.parts_eq, p.deep_eq]
  have := Pat.deepL_le_of ih
  omega
theorem Pat.deepL_le (l : List Pat) : Pat.deepL l ≤ Pat.partsL l := Pat.deepL_le_of fun p _ => p.deep_le

/- may a pattern's parts be, each alone? -/
mutual
def Pat.fits : Pat → Bool
  | .mk k s l => if k = 1 then l.length == 0 && decide (s.length ≤ 256) else if k = 2 ∨ k = 3 ∨ k = 4 then s.length == 0 && (k != 4 || l.length == 1) && Pat.fitsL l else false
def Pat.fitsL : List Pat → Bool
  | [] => true
  | p :: l => p.fits && Pat.fitsL l
end
theorem Pat.fits_eq (p : Pat) : p.fits = if p.kind = 1 then p.subs.length == 0 && decide (p.set.length ≤ 256) else if p.kind = 2 ∨ p.kind = 3 ∨ p.kind = 4 then p.set.length == 0 && (p.kind != 4 || p.subs.length == 1) && Pat.fitsL p.subs else false := by
  cases p; rw [Pat.fits]; rfl
def Pat.right (p : Pat) : Bool := decide (p.parts ≤ 200) && decide (p.deep ≤ 40) && p.fits
theorem Pat.fitsL_all : ∀ l : List Pat, Pat.fitsL l = l.all Pat.fits
  | [] => by rw [Pat.fitsL]; rfl
  | p :: l => by rw [Pat.fitsL, Pat.fitsL_all l]; rfl

end Go.Proofs.Ytoifbdaaiejbnaa.D
/- What an operation comes to does not hang on what follows. -/
namespace Go.Proofs.Ytoifbdaaiejbnaa.D
open Go

def pr : Kt (Val × Wr) := fun v ws => some (v, ws)

section
variable {ρ σ : Type}

theorem cond_bind {α β : Type} (b : Bool) (x y : Option α) (f : α → Option β) : (bif b then x else y).bind f = bif b then x.bind f else y.bind f := by cases b <;> rfl

theorem slK_bind {c : CT} {x : c.T} {i : Int} {f : List Cell → Option ρ} {g : ρ → Option σ} : (slK c x i f).bind g = slK c x i (fun l => (f l).bind g) := by
  unfold slK; cases c <;> simp only [Option.bind_assoc, Option.bind_none]

theorem slSet_bind {c : CT} {x : c.T} {i : Int} {off : Nat} {m : List Cell} {f : c.T → Option ρ} {g : ρ → Option σ} : (slSet c x i off m f).bind g = slSet c x i off m (fun l => (f l).bind g) := by
  unfold slSet
  cases c with
  | sl row =>
    simp only [Option.bind_assoc]
    congr 1; funext a; split <;> rfl
  | pats =>
    simp only [Option.bind_assoc]
    congr 1; funext a; split <;> rfl
  | _ => rfl

theorem arrK_bind {l : List Cell} {i : Int} {f : Cell → Option ρ} {g : ρ → Option σ} : (arrK l i f).bind g = arrK l i (fun c => (f c).bind g) := by
  unfold arrK
  cases l with
  | nil => rfl
  | cons x l =>
    simp only
    cases likes x.c (x :: l) with
    | none => rfl
    | some ys => exact Option.bind_assoc _ _ _

theorem cutC_bind {c : CT} {y : c.T} {lo hi : Option Val} {f : c.T → Option ρ} {g : ρ → Option σ} : (cutC c y lo hi f).bind g = cutC c y lo hi (fun l => (f l).bind g) := by
  unfold cutC
  cases slLen c y with
  | none => rfl
  | some n =>
    simp only
    cases natOf lo 0 with
    | none => rfl
    | some l =>
      cases natOf hi n with
      | none => rfl
      | some h =>
        simp only [cond_bind]
        cases slCut c y l.toNat h.toNat <;> rfl

/- the law -/
def Fac (F : ∀ {ρ : Type}, Kt ρ → Option ρ) : Prop := ∀ (ρ : Type) (kt : Kt ρ), F kt = (F pr).bind fun p => kt p.1 p.2

variable {E : Bs} {s : S}

theorem fac_loadK {t : TypeId} {a : Val} : Fac (fun kt => loadK E t s a kt) := by
  intro ρ kt
  unfold loadK
  cases a with
  | ptr r off =>
    simp only
    cases aggT E.P t with
    | none => rfl
    | some b =>
      cases b with
      | true =>
        simp only
        cases froz s (((s.bx r).drop off).take (sizeT E.P t)) with
        | none => rfl
        | some q =>
          simp only
          cases pickB E.P t q.1 <;> rfl
      | false =>
        simp only
        cases pickB E.P t ((s.bx r).drop off) <;> rfl
  | dptr r off i n =>
    simp only
    cases aggT E.P t with
    | none => rfl
    | some b =>
      cases b with
      | true => rfl
      | false =>
        simp only
        cases plainB (((s.bx r).drop off).take n) with
        | none => rfl
        | some l => simp only [arrK_bind, cond_bind, Option.bind_none]; rfl
  | eptr l bw =>
    simp only
    cases pickC E.P t l bw <;> rfl
  | optr p i off =>
    simp only
    cases s.pl p with
    | live e c =>
      simp only [slK_bind]
      congr 1; funext l
      cases pickC E.P t (l.drop off) false <;> rfl
    | _ => rfl
  | _ => rfl

theorem fac_storeK {P : Program} {t : TypeId} {a v : Val} : Fac (fun kt => storeK P t s a v kt) := by
  intro ρ kt
  unfold storeK
  cases a with
  | ptr r off =>
    simp only
    cases toB s v with
    | none => rfl
    | some m => simp only [cond_bind]; rfl
  | dptr r off i n =>
    cases v with
    | cell c x bw =>
      simp only [cond_bind]
      congr 1
      cases plainB (((s.bx r).drop off).take n) with
      | none => rfl
      | some l =>
        simp only
        cases arrSet l 0 i ⟨c, x⟩ <;> rfl
    | _ => rfl
  | optr p i off =>
    simp only
    cases toC s v with
    | none => rfl
    | some q =>
      obtain ⟨m, ws⟩ := q
      simp only
      cases plainB m with
      | none => rfl
      | some m =>
        cases (s.ws ws).pl p with
        | live e c => simp only [cond_bind, slSet_bind]; rfl
        | _ => rfl
  | _ => rfl

theorem fac_indexK {t : TypeId} {x i : Val} : Fac (fun kt => indexK E t s x i kt) := by
  intro ρ kt
  unfold indexK
  cases i with
  | cell ci i bwi =>
    cases ci with
    | int k =>
      change Int at i
      simp only
      cases res s x with
      | ptr r off =>
        simp only
        split
        · simp only [cond_bind]; rfl
        · rfl
      | cell c y bw => simp only [cond_bind, slK_bind]; rfl
      | own p =>
        simp only
        cases s.pl p with
        | live e c =>
          simp only [cond_bind]
          congr 1
          cases slLen c.c c.x with
          | none => rfl
          | some n => simp only [cond_bind]; rfl
        | _ => rfl
      | _ => rfl
    | _ => rfl
  | _ => rfl

theorem fac_cutK {P : Program} {t : TypeId} {x : Val} {lo hi : Option Val} : Fac (fun kt => cutK P t s x lo hi kt) := by
  intro ρ kt
  unfold cutK
  cases rd s x with
  | cell c y bw => simp only [cond_bind, cutC_bind]; rfl
  | own p =>
    simp only
    cases s.pl p with
    | live e c => simp only [cond_bind, cutC_bind]; rfl
    | _ => rfl
  | _ => rfl

theorem fac_appendK {t : TypeId} {d : Nat} {a x : Val} : Fac (fun kt => appendK E t s d a x kt) := by
  intro ρ kt
  unfold appendK
  split
  · rename_i e _
    unfold appendE
    cases baseOf s e a with
    | none => rfl
    | some q =>
      obtain ⟨a, ws⟩ := q
      cases dataOf s x with
      | none => rfl
      | some b =>
        simp only
        cases castC b.c a.c b.x with
        | none => rfl
        | some y =>
          simp only
          cases slLen a.c a.x with
          | none => rfl
          | some n =>
            cases slLen a.c y with
            | none => rfl
            | some m =>
              simp only [cond_bind]
              congr 1
              cases slApp a.c a.x y <;> rfl
  · rfl

theorem fac_makeK {t : TypeId} {d : Nat} {l c : Val} : Fac (fun kt => makeK E t d l c kt) := by
  intro ρ kt
  unfold makeK
  split
  · unfold makeI
    simp only [cond_bind]
    congr 1
    split
    · simp only [cond_bind]
      congr 1
      rename_i row bs _ _
      cases plainB bs with
      | none => rfl
      | some cs =>
        simp only
        cases rowOf row cs <;> rfl
    · rfl
  · rfl

theorem fac_callK {d f : Nat} {vs : List Val} : Fac (fun kt => callK E s d f vs kt) := by
  intro ρ kt
  unfold callK
  cases toXs s 0 (E.sig f).ps (E.sig f).bs vs with
  | none => rfl
  | some q =>
    obtain ⟨xs, mv⟩ := q
    simp only [cond_bind, Option.bind_assoc]
    rfl

theorem fac_buildK {t : TypeId} {ps : List (Nat × Operand)} : Fac (fun kt => buildK E s t ps kt) := by
  intro ρ kt
  unfold buildK
  cases zeroT E.P E.pt t with
  | none => rfl
  | some z =>
    cases partsT E.P t ps with
    | none => rfl
    | some ts =>
      simp only
      cases partsOf s (evs E s (ts.map fun q => q.1) ps) with
      | none => rfl
      | some q => simp only [cond_bind]; rfl

theorem fac_buildSliceK {d : Nat} {t : TypeId} {n : Nat} {ps : List (Nat × Operand)} : Fac (fun kt => buildSliceK E s d t n ps kt) := by
  intro ρ kt
  unfold buildSliceK
  split
  · rename_i c e _ _
    cases partsOf s (ps.map fun p => ev E s e p.2) with
    | none => rfl
    | some q =>
      simp only
      cases plainsB q.1 with
      | none => rfl
      | some m =>
        simp only [cond_bind]
        congr 1
        cases slMk c m <;> rfl
  · rfl

theorem fac_lenK {P : Program} {t : TypeId} {v : Val} : Fac (fun kt => lenK P t s v kt) := by
  intro ρ kt
  unfold lenK
  cases rd s v with
  | cell c y bw =>
    simp only [cond_bind]
    congr 1
    cases slLen c y <;> rfl
  | own p =>
    simp only
    cases s.pl p with
    | live e c =>
      simp only [cond_bind]
      congr 1
      cases slLen c.c c.x <;> rfl
    | _ => rfl
  | agg l => simp only; split <;> rfl
  | _ => rfl

theorem fac_copyK {t : TypeId} {a x : Val} : Fac (fun kt => copyK E t s a x kt) := by
  intro ρ kt
  unfold copyK copyE
  split
  · split
    · split
      · split
        · simp only [cond_bind]
          congr 1
          split
          · split <;> rfl
          · rfl
        · rfl
      · rfl
    · rfl
  · rfl

theorem fac_builtinK {d : Nat} {b : Builtin} {t : TypeId} {ts : List TypeId} {as_ : List Val} : Fac (fun kt => builtinK E s d b t ts as_ kt) := by
  intro ρ kt
  cases b with
  | len =>
    unfold builtinK
    simp only
    split
    · exact fac_lenK ρ kt
    · rfl
  | append =>
    unfold builtinK
    simp only
    split
    · simp only [cond_bind]
      congr 1
      exact fac_appendK ρ kt
    · rfl
  | copy =>
    unfold builtinK
    simp only
    split
    · exact fac_copyK ρ kt
    · rfl
  | max =>
    unfold builtinK
    simp only
    cases foldK maxI as_ <;> rfl
  | min =>
    unfold builtinK
    simp only
    cases foldK minI as_ <;> rfl
  | _ => rfl

theorem fac_indexVK {P : Program} {t : TypeId} {x i : Val} : Fac (fun kt => indexVK P t x i kt) := by
  intro ρ kt
  unfold indexVK
  split
  · split
    · split
      · simp only [cond_bind]
        congr 1
        split
        · rename_i l _ _ _ _ _ _
          cases plainB l with
          | none => rfl
          | some l => exact Eq.trans (congrArg (arrK l _) (funext fun c => by cases refC c.c <;> rfl)) (arrK_bind (f := fun c => bif refC c.c then none else pr (Val.cell c.c c.x false) [])).symm
        · rfl
      · rfl
    · split
      · simp only [Option.bind_assoc]; rfl
      · rfl
    · rfl
  · rfl

theorem fac_intOp {op : BinOp} {k : IntKind} {x y : Int} : Fac (fun kt => intOp op k x y kt) := by
  intro ρ kt
  cases op <;> first | rfl | (unfold intOp; simp only [cond_bind]; rfl)

theorem fac_aggEqK {P : Program} {t : TypeId} {op : BinOp} {l m : List BCell} : Fac (fun kt => aggEqK P t op l m kt) := by
  intro ρ kt
  unfold aggEqK
  split
  · simp only [cond_bind]
    congr 1
    split
    · cases op <;> rfl
    · rfl
  · rfl

theorem fac_binK {P : Program} {t : TypeId} {op : BinOp} {a b : Val} : Fac (fun kt => binK P t op a b kt) := by
  intro ρ kt
  unfold binK
  split
  · split
    · unfold binI
      split
      · simp only [cond_bind]; rfl
      · simp only [cond_bind]; rfl
      · simp only [cond_bind]
        congr 1
        exact fac_intOp ρ kt
    · rfl
  · split
    · split
      · unfold binB; split <;> rfl
      · rfl
    · rfl
  · split
    · unfold binS
      split <;> first | rfl | (simp only [cond_bind]; rfl)
    · rfl
  · split
    · split
      · exact fac_aggEqK ρ kt
      · exact fac_aggEqK ρ kt
      · rfl
    · rfl
  · rfl

theorem fac_callX {d f : Nat} {vs : List Val} : Fac (fun kt => callX E s d f vs kt) := by
  intro ρ kt
  unfold callX
  split
  · unfold inpK
    split
    · simp only [cond_bind]
      congr 1
      split
      · split
        · simp only [cond_bind]
          congr 1
          split
          · simp only [Option.bind_assoc]; rfl
          · rfl
        · rfl
      · rfl
    · rfl
  · exact fac_callK ρ kt

theorem fac_opK {d : Nat} {o : Oper} : Fac (fun kt => opK E d o s kt) := by
  intro ρ kt
  unfold opK
  split
  · rfl
  · rfl
  · unfold pickK
    split
    · rename_i y bw _
      change Bool at y
      cases y <;> rfl
    · rfl
  · unfold allocK; split <;> rfl
  · unfold boxK; split <;> rfl
  · exact fac_buildK ρ kt
  · exact fac_buildSliceK ρ kt
  · exact fac_loadK ρ kt
  · exact fac_storeK ρ kt
  · unfold nilK; split <;> rfl
  · exact fac_binK ρ kt
  · unfold unK
    split
    · unfold unI; split <;> rfl
    · unfold unB; split <;> rfl
    · rfl
  · unfold convK; split <;> rfl
  · unfold slcK
    split
    · exact fac_cutK ρ kt
    · rfl
  · unfold fieldAddrK; split <;> first | rfl | (split <;> rfl)
  · unfold fieldK; split <;> first | rfl | (split <;> rfl)
  · exact fac_indexK ρ kt
  · exact fac_indexVK ρ kt
  · unfold extractK; split <;> first | rfl | (split <;> rfl)
  · exact fac_makeK ρ kt
  · unfold funcK; split <;> rfl
  · unfold anyCallK
    split
    · split
      · exact fac_builtinK ρ kt
      · rfl
    · split
      · exact fac_callX ρ kt
      · rfl
    · rfl
  · rfl

end

end Go.Proofs.Ytoifbdaaiejbnaa.D
/- What an operation reads. -/
namespace Go.Proofs.Ytoifbdaaiejbnaa.D
open Go

/- two states are alike at what a value leads to -/
def Agr (s1 s2 : S) : Val → Prop
  | .ptr r _ => s1.bx r = s2.bx r ∧ ∀ p, .rf p ∈ s1.bx r → s1.pl p = s2.pl p
  | .dptr r _ _ _ => s1.bx r = s2.bx r ∧ ∀ p, .rf p ∈ s1.bx r → s1.pl p = s2.pl p
  | .own p => s1.pl p = s2.pl p
  | .optr p _ _ => s1.pl p = s2.pl p
  | _ => True

def AgrV (s1 s2 : S) : Val → Prop
  | .fn _ caps => ∀ c ∈ caps, Agr s1 s2 c
  | v => Agr s1 s2 v

theorem rfsB_mem {p : Nat} : ∀ {l : List BCell}, .rf p ∈ l → 2 * p + 1 ∈ rfsB l := by
  intro l
  induction l with
  | nil => intro h; cases h
  | cons b l ih =>
    intro h
    rcases List.mem_cons.mp h with e | h'
    · subst e; exact List.mem_cons_self
    · cases b with
      | rf q => exact List.mem_cons_of_mem _ (ih h')
      | _ => exact ih h'

structure At_ (s1 s2 : S) (k : Nat) : Prop where
  b : ∀ r, k = 2 * r → s1.bx r = s2.bx r
  p : ∀ p, k = 2 * p + 1 → s1.pl p = s2.pl p

theorem agr_of {s1 s2 : S} {v : Val} (h : ∀ k ∈ roots1 s1 v, At_ s1 s2 k) : Agr s1 s2 v := by
  cases v with
  | ptr r off => exact ⟨(h _ List.mem_cons_self).b r rfl, fun p hp => (h _ (List.mem_cons_of_mem _ (rfsB_mem hp))).p p rfl⟩
  | dptr r off i n => exact ⟨(h _ List.mem_cons_self).b r rfl, fun p hp => (h _ (List.mem_cons_of_mem _ (rfsB_mem hp))).p p rfl⟩
  | own p => exact (h _ List.mem_cons_self).p p rfl
  | optr p i off => exact (h _ List.mem_cons_self).p p rfl
  | _ => trivial

theorem agrV_of {s1 s2 : S} {v : Val} (h : ∀ k ∈ rootsV s1 v, At_ s1 s2 k) : AgrV s1 s2 v := by
  cases v with
  | fn f caps => exact fun c hc => agr_of fun k hk => h k (List.mem_flatten.mpr ⟨_, List.mem_map.mpr ⟨c, hc, rfl⟩, hk⟩)
  | ptr r off => exact agr_of (v := .ptr r off) h
  | dptr r off i n => exact agr_of (v := .dptr r off i n) h
  | own p => exact agr_of (v := .own p) h
  | optr p i off => exact agr_of (v := .optr p i off) h
  | _ => trivial

section
variable {s1 s2 : S} {ρ : Type}

theorem AgrV.agr {v : Val} (h : AgrV s1 s2 v) : Agr s1 s2 v := by cases v <;> first | exact h | trivial

theorem res_congr {v : Val} (h : Agr s1 s2 v) : res s1 v = res s2 v := by
  cases v with
  | own p => have h : s1.pl p = s2.pl p := h; unfold res; simp only [h]
  | _ => rfl

theorem rd_congr {v : Val} (h : Agr s1 s2 v) : rd s1 v = rd s2 v := by unfold rd; rw [res_congr h]

theorem res_agr {s : S} {v : Val} (h : Agr s1 s2 v) : Agr s1 s2 (res s v) := by
  unfold res
  split
  · split
    · trivial
    · exact h
  · exact h

theorem toB_congr {v : Val} (h : Agr s1 s2 v) : toB s1 v = toB s2 v := by
  have h2 := res_agr (s := s2) h
  unfold toB
  rw [res_congr h]
  generalize res s2 v = x at h2
  cases x with
  | own p => have h2 : s1.pl p = s2.pl p := h2; simp only [h2]
  | _ => rfl

theorem toC_congr {v : Val} (h : Agr s1 s2 v) : toC s1 v = toC s2 v := by
  have h2 := res_agr (s := s2) h
  unfold toC
  rw [res_congr h]
  generalize res s2 v = x at h2
  cases x with
  | own p => have h2 : s1.pl p = s2.pl p := h2; simp only [h2]
  | _ => rfl

theorem rd_agr {s : S} {v : Val} (h : Agr s1 s2 v) : Agr s1 s2 (rd s v) := by
  have h2 := res_agr (s := s) h
  unfold rd
  split
  · split <;> trivial
  · exact h2

theorem dataOf_congr {v : Val} (h : Agr s1 s2 v) : dataOf s1 v = dataOf s2 v := by
  have h2 := rd_agr (s := s2) h
  unfold dataOf
  rw [rd_congr h]
  generalize rd s2 v = x at h2
  cases x with
  | own p => have h2 : s1.pl p = s2.pl p := h2; simp only [h2]
  | _ => rfl

theorem baseOf_congr {e : TypeId} {v : Val} (h : Agr s1 s2 v) : baseOf s1 e v = baseOf s2 e v := by
  have h2 := res_agr (s := s2) h
  unfold baseOf
  rw [res_congr h]
  generalize res s2 v = x at h2
  cases x with
  | own p => have h2 : s1.pl p = s2.pl p := h2; simp only [h2]
  | _ => rfl

theorem w1_pl {i p : Nat} {q : Pl} (h : s1.pl p = s2.pl p) : (s1.w1 (.p i q)).pl p = (s2.w1 (.p i q)).pl p := by
  show upd s1.pl i q p = upd s2.pl i q p
  by_cases e : p = i
  · subst e; rw [upd_same, upd_same]
  · rw [upd_other _ _ _ _ e, upd_other _ _ _ _ e]; exact h

theorem agr_w1 {i : Nat} {q : Pl} {v : Val} (h : Agr s1 s2 v) : Agr (s1.w1 (.p i q)) (s2.w1 (.p i q)) v := by
  cases v with
  | ptr r off => exact ⟨h.1, fun p hp => w1_pl (h.2 p hp)⟩
  | dptr r off i n => exact ⟨h.1, fun p hp => w1_pl (h.2 p hp)⟩
  | own p => exact w1_pl h
  | optr p i off => exact w1_pl h
  | _ => trivial

theorem froz_congr : ∀ (l : List BCell) (s1 s2 : S), (∀ p, .rf p ∈ l → s1.pl p = s2.pl p) → froz s1 l = froz s2 l := by
  intro l
  induction l with
  | nil => intro s1 s2 _; rfl
  | cons b l ih =>
    intro s1 s2 h
    have ht : ∀ p, .rf p ∈ l → s1.pl p = s2.pl p := fun p hp => h p (List.mem_cons_of_mem _ hp)
    cases b with
    | rf p =>
      have hp := h p List.mem_cons_self
      unfold froz
      simp only [← hp]
      cases s1.pl p with
      | none => rfl
      | froz c => simp only [ih s1 s2 ht]
      | live e c => simp only [ih (s1.w1 (.p p (.froz c))) (s2.w1 (.p p (.froz c))) fun q hq => w1_pl (ht q hq)]
    | pl c => unfold froz; simp only [ih s1 s2 ht]
    | nl c => unfold froz; simp only [ih s1 s2 ht]

theorem take_drop_mem {α : Type} {x : α} {l : List α} {n m : Nat} (h : x ∈ (l.drop n).take m) : x ∈ l := List.mem_of_mem_drop (List.mem_of_mem_take h)

variable {E : Bs} {kt : Kt ρ}

theorem loadK_congr {t : TypeId} {a : Val} (h : Agr s1 s2 a) : loadK E t s1 a kt = loadK E t s2 a kt := by
  cases a with
  | ptr r off =>
    have e := froz_congr (((s2.bx r).drop off).take (sizeT E.P t)) s1 s2 fun p hp => h.2 p (h.1 ▸ take_drop_mem hp)
    unfold loadK
    simp only [h.1, e]
  | dptr r off i n => unfold loadK; simp only [h.1]
  | optr p i off => have h : s1.pl p = s2.pl p := h; unfold loadK; simp only [h]
  | _ => rfl

theorem storeK_congr {P : Program} {t : TypeId} {a v : Val} (h : Agr s1 s2 a) (hv : Agr s1 s2 v) : storeK P t s1 a v kt = storeK P t s2 a v kt := by
  cases a with
  | ptr r off => unfold storeK; simp only [h.1, toB_congr hv]
  | dptr r off i n => unfold storeK; simp only [h.1]
  | optr p i off =>
    have h : s1.pl p = s2.pl p := h
    unfold storeK
    simp only [toC_congr hv]
    cases hc : toC s2 v with
    | none => rfl
    | some q =>
      obtain ⟨m, ws⟩ := q
      have e : (s1.ws ws).pl p = (s2.ws ws).pl p := by
        have : ∀ (ws : Wr) (s1 s2 : S), s1.pl p = s2.pl p → (s1.ws ws).pl p = (s2.ws ws).pl p := by
          intro ws
          induction ws with
          | nil => intro s1 s2 h; exact h
          | cons y ws ih =>
            intro s1 s2 h
            refine ih (s1.w1 y) (s2.w1 y) ?_
            cases y with
            | b r l => exact h
            | p i q => exact w1_pl h
        exact this ws s1 s2 h
      simp only [e]
  | _ => rfl

theorem indexK_congr {t : TypeId} {x i : Val} (h : Agr s1 s2 x) : indexK E t s1 x i kt = indexK E t s2 x i kt := by
  have h2 := res_agr (s := s2) h
  unfold indexK
  rw [res_congr h]
  generalize res s2 x = y at h2
  cases y with
  | own p => have h2 : s1.pl p = s2.pl p := h2; simp only [h2]
  | _ => rfl

theorem cutK_congr {P : Program} {t : TypeId} {x : Val} {lo hi : Option Val} (h : Agr s1 s2 x) : cutK P t s1 x lo hi kt = cutK P t s2 x lo hi kt := by
  have h2 := rd_agr (s := s2) h
  unfold cutK
  rw [rd_congr h]
  generalize rd s2 x = y at h2
  cases y with
  | own p => have h2 : s1.pl p = s2.pl p := h2; simp only [h2]
  | _ => rfl

theorem appendK_congr {t : TypeId} {d : Nat} {a x : Val} (h : Agr s1 s2 a) (hx : Agr s1 s2 x) : appendK E t s1 d a x kt = appendK E t s2 d a x kt := by
  unfold appendK appendE
  simp only [dataOf_congr hx, baseOf_congr h]

theorem lenK_congr {P : Program} {t : TypeId} {v : Val} (h : Agr s1 s2 v) : lenK P t s1 v kt = lenK P t s2 v kt := by
  have h2 := rd_agr (s := s2) h
  unfold lenK
  rw [rd_congr h]
  generalize rd s2 v = y at h2
  cases y with
  | own p => have h2 : s1.pl p = s2.pl p := h2; simp only [h2]
  | _ => rfl

theorem boxK_congr {d : Nat} {v : Val} (h : Agr s1 s2 v) : boxK s1 d v kt = boxK s2 d v kt := by unfold boxK; rw [toB_congr h]

theorem boxX_congr {ms : List (Option TypeId)} : ∀ {l : List BCell} {d : Nat}, (∀ p, .rf p ∈ l → s1.pl p = s2.pl p) → boxX s1 d ms l = boxX s2 d ms l := by
  induction ms with
  | nil => intro l d _; rfl
  | cons m ms ih =>
    intro l d h
    cases l with
    | nil => rfl
    | cons b l =>
      have e1 : xb1 s1 d m b = xb1 s2 d m b := by
        cases b with
        | rf p => unfold xb1; simp only [h p List.mem_cons_self]
        | _ => rfl
      have e2 := ih (l := l) (d := d + 1) fun p hp => h p (List.mem_cons_of_mem _ hp)
      show (match xb1 s1 d m b, boxX s1 (d + 1) ms l with | some (x, q), some (xs, qs) => some (x :: xs, q.app qs) | _, _ => none) = _
      rw [e1, e2]; rfl

theorem toX1_congr {i : Nat} {m : PM} {g : List (Option TypeId)} {v : Val} (h : Agr s1 s2 v) : toX1 s1 i m g v = toX1 s2 i m g v := by
  have h2 := res_agr (s := s2) h
  unfold toX1
  rw [res_congr h]
  generalize res s2 v = y at h2
  cases y with
  | own p => have h2 : s1.pl p = s2.pl p := h2; simp only [h2]
  | ptr r off =>
    have e := boxX_congr (ms := g) (d := i + 1) h2.2
    rw [h2.1] at e
    simp only [h2.1, e]
  | _ => rfl

theorem toXc_congr : ∀ (vs : List Val) (i : Nat) (gs : List (List (CT × Option TypeId))), (∀ v ∈ vs, Agr s1 s2 v) → toXc s1 i gs vs = toXc s2 i gs vs := by
  intro vs
  induction vs with
  | nil => intro i gs _; rfl
  | cons v vs ih =>
    intro i gs h
    unfold toXc
    rw [toX1_congr (h v List.mem_cons_self)]
    simp only [ih _ _ fun v hv => h v (List.mem_cons_of_mem _ hv)]

theorem toXs_congr : ∀ (vs : List Val) (i : Nat) (ms : List PM) (gs : List (List (CT × Option TypeId))), (∀ v ∈ vs, AgrV s1 s2 v) → toXs s1 i ms gs vs = toXs s2 i ms gs vs := by
  intro vs
  induction vs with
  | nil => intro i ms gs _; rfl
  | cons v vs ih =>
    intro i ms gs h
    have ht := fun i ms gs => ih i ms gs fun v hv => h v (List.mem_cons_of_mem _ hv)
    have hv := h v List.mem_cons_self
    unfold toXs
    simp only [ht]
    cases v with
    | fn f caps => simp only [toXc_congr caps _ _ hv]
    | _ => simp only [toX1_congr hv.agr]

theorem lent_congr : ∀ (vs : List Val) (ms : List PM), (∀ v ∈ vs, AgrV s1 s2 v) → lent s1 ms vs = lent s2 ms vs := by
  intro vs
  induction vs with
  | nil => intro ms _; unfold lent; rfl
  | cons v vs ih =>
    intro ms h
    unfold lent
    rw [res_congr (h v List.mem_cons_self).agr, ih _ fun v hv => h v (List.mem_cons_of_mem _ hv)]

theorem callK_congr {d f : Nat} {vs : List Val} (h : ∀ v ∈ vs, AgrV s1 s2 v) : callK E s1 d f vs kt = callK E s2 d f vs kt := by
  unfold callK
  rw [toXs_congr vs _ _ _ h]
  simp only [lent_congr vs _ h]

theorem callX_congr {d f : Nat} {vs : List Val} (h : ∀ v ∈ vs, AgrV s1 s2 v) : callX E s1 d f vs kt = callX E s2 d f vs kt := by
  unfold callX
  split
  · rename_i I _
    unfold inpK
    cases vs with
    | nil => rfl
    | cons v rest =>
      have hv := (h v List.mem_cons_self).agr
      have h2 := res_agr (s := s2) hv
      simp only
      rw [res_congr hv]
      generalize res s2 v = u at h2
      cases u with
      | own p => have h2 : s1.pl p = s2.pl p := h2; simp only [h2]
      | _ => rfl
  · exact callK_congr h

theorem partsOf_congr : ∀ (vs : List Val) (s1 s2 : S), (∀ v ∈ vs, Agr s1 s2 v) → partsOf s1 vs = partsOf s2 vs := by
  intro vs
  induction vs with
  | nil => intro s1 s2 _; rfl
  | cons v vs ih =>
    intro s1 s2 h
    have ht : ∀ v ∈ vs, Agr s1 s2 v := fun v hv => h v (List.mem_cons_of_mem _ hv)
    have hws : ∀ {m ws}, toC s2 v = some (m, ws) → partsOf (s1.ws ws) vs = partsOf (s2.ws ws) vs := by
      intro m ws hc
      have key : ws = [] ∨ ∃ p c, ws = [.p p (.froz c)] := by
        unfold toC at hc
        split at hc
        · cases hc; exact .inl rfl
        · rename_i c x bw _
          revert hc
          generalize (bw && refC c) = b
          cases b
          · intro hc; cases hc; exact .inl rfl
          · intro hc; cases hc
        · cases hc; exact .inl rfl
        · split at hc
          · cases hc; exact .inr ⟨_, _, rfl⟩
          · cases hc
        · cases hc
      rcases key with rfl | ⟨p, c, rfl⟩
      · exact ih s1 s2 ht
      · exact ih _ _ fun v hv => agr_w1 (ht v hv)
    unfold partsOf
    rw [toC_congr (h v List.mem_cons_self)]
    cases hc : toC s2 v with
    | none => rfl
    | some q => simp only [hws hc]

/- operands -/
def Reads (s1 s2 : S) (x : Operand) : Prop := ∀ t, x = .tmp t → s1.tm t = s2.tm t ∧ AgrV s1 s2 (s1.tm t)

theorem ev_congr {ty : TypeId} {x : Operand} (h : Reads s1 s2 x) : ev E s1 ty x = ev E s2 ty x := by
  cases x with
  | tmp t => exact (h t rfl).1
  | _ => rfl

theorem const_agr {ty : TypeId} (v : Value) : AgrV s1 s2 (constV E ty v) := by
  unfold constV
  split <;> first | trivial | skip
  · split
    · split <;> trivial
    · trivial
  · split
    · split <;> trivial
    · trivial
  · exact fun c hc => by cases hc

theorem ev_agr {ty : TypeId} {x : Operand} (h : Reads s1 s2 x) : AgrV s1 s2 (ev E s1 ty x) := by
  cases x with
  | tmp t => exact (h t rfl).2
  | const v => exact const_agr v
  | func f => exact fun c hc => by cases hc
  | _ => trivial

theorem argsV_congr : ∀ (l : List Operand) (ts : List TypeId), (∀ x ∈ l, Reads s1 s2 x) → argsV E s1 l ts = argsV E s2 l ts ∧ ∀ v ∈ argsV E s1 l ts, AgrV s1 s2 v := by
  intro l
  induction l with
  | nil => intro ts _; cases ts <;> exact ⟨rfl, fun v hv => by cases hv⟩
  | cons x l ih =>
    intro ts h
    have hx := h x List.mem_cons_self
    have ht := fun ts => ih ts fun y hy => h y (List.mem_cons_of_mem _ hy)
    cases ts with
    | nil =>
      refine ⟨?_, fun v hv => ?_⟩
      · show ev E s1 0 x :: argsV E s1 l [] = ev E s2 0 x :: argsV E s2 l []
        rw [ev_congr hx, (ht []).1]
      · rcases List.mem_cons.mp (show v ∈ ev E s1 0 x :: argsV E s1 l [] from hv) with rfl | hv
        · exact ev_agr hx
        · exact (ht []).2 v hv
    | cons t ts =>
      refine ⟨?_, fun v hv => ?_⟩
      · show ev E s1 t x :: argsV E s1 l ts = ev E s2 t x :: argsV E s2 l ts
        rw [ev_congr hx, (ht ts).1]
      · rcases List.mem_cons.mp (show v ∈ ev E s1 t x :: argsV E s1 l ts from hv) with rfl | hv
        · exact ev_agr hx
        · exact (ht ts).2 v hv

theorem evs_congr : ∀ (ps : List (Nat × Operand)) (ts : List TypeId), (∀ p ∈ ps, Reads s1 s2 p.2) → evs E s1 ts ps = evs E s2 ts ps ∧ ∀ v ∈ evs E s1 ts ps, AgrV s1 s2 v := by
  intro ps
  induction ps with
  | nil => intro ts _; cases ts <;> exact ⟨rfl, fun v hv => by cases hv⟩
  | cons p ps ih =>
    intro ts h
    cases ts with
    | nil => exact ⟨rfl, fun v hv => by cases hv⟩
    | cons t ts =>
      have hx := h p List.mem_cons_self
      have ht := ih ts fun y hy => h y (List.mem_cons_of_mem _ hy)
      refine ⟨?_, fun v hv => ?_⟩
      · show ev E s1 t p.2 :: evs E s1 ts ps = ev E s2 t p.2 :: evs E s2 ts ps
        rw [ev_congr hx, ht.1]
      · rcases List.mem_cons.mp (show v ∈ ev E s1 t p.2 :: evs E s1 ts ps from hv) with rfl | hv
        · exact ev_agr hx
        · exact ht.2 v hv

theorem copyK_congr {t : TypeId} {a x : Val} (h : Agr s1 s2 a) (hx : Agr s1 s2 x) : copyK E t s1 a x kt = copyK E t s2 a x kt := by
  have h2 := res_agr (s := s2) h
  unfold copyK copyE
  rw [res_congr h, res_congr hx, dataOf_congr hx]
  generalize res s2 a = v at h2
  cases v with
  | own p => have h2 : s1.pl p = s2.pl p := h2; simp only [h2]
  | _ => rfl

theorem builtinK_congr {d : Nat} {b : Builtin} {t : TypeId} {ts : List TypeId} {as_ : List Val} (h : ∀ v ∈ as_, AgrV s1 s2 v) : builtinK E s1 d b t ts as_ kt = builtinK E s2 d b t ts as_ kt := by
  cases b with
  | len =>
    unfold builtinK
    simp only
    split
    · exact lenK_congr (h _ List.mem_cons_self).agr
    · rfl
  | append =>
    unfold builtinK
    simp only
    split
    · rw [appendK_congr (h _ List.mem_cons_self).agr (h _ (List.mem_cons_of_mem _ List.mem_cons_self)).agr]
    · rfl
  | copy =>
    unfold builtinK
    simp only
    split
    · exact copyK_congr (h _ List.mem_cons_self).agr (h _ (List.mem_cons_of_mem _ List.mem_cons_self)).agr
    · rfl
  | _ => rfl

theorem opK_congr {d : Nat} {o : Oper} (h : ∀ x ∈ o.op.operands.toList, Reads s1 s2 x) : opK E d o s1 kt = opK E d o s2 kt := by
  unfold opK
  cases ho : o.op with
  | move x =>
    rw [ho] at h
    simp only [ev_congr (E := E) (h x (by simp [Op.operands]))]
  | assign x =>
    rw [ho] at h
    simp only [ev_congr (E := E) (h x (by simp [Op.operands]))]
  | pick c a b =>
    rw [ho] at h
    simp only
    unfold pickK
    rw [ev_congr (E := E) (h c (by simp [Op.operands])), ev_congr (E := E) (h a (by simp [Op.operands])), ev_congr (E := E) (h b (by simp [Op.operands]))]
  | box t x =>
    rw [ho] at h
    have hx := h x (by simp [Op.operands])
    exact (boxK_congr (kt := kt) (d := d) (ev_agr (E := E) (ty := t) hx).agr).trans (by rw [ev_congr (E := E) hx])
  | build t ps =>
    rw [ho] at h
    have hps : ∀ p ∈ ps.toList, Reads s1 s2 p.2 := fun p hp => h p.2 (by simp only [Op.operands]; exact List.mem_map.mpr ⟨p, hp, rfl⟩)
    simp only
    unfold buildK
    cases zeroT E.P E.pt t with
    | none => rfl
    | some z =>
      cases partsT E.P t ps.toList with
      | none => rfl
      | some ts =>
        obtain ⟨e1, e2⟩ := evs_congr (E := E) ps.toList (ts.map fun q => q.1) hps
        have e3 := partsOf_congr _ s1 s2 fun v hv => (e2 v hv).agr
        rw [e1] at e3
        simp only [e1, e3]
  | buildSlice t n ps =>
    rw [ho] at h
    have hps : ∀ p ∈ ps.toList, Reads s1 s2 p.2 := fun p hp => h p.2 (by simp only [Op.operands]; exact List.mem_map.mpr ⟨p, hp, rfl⟩)
    simp only
    unfold buildSliceK
    have e1 : ∀ e, (ps.toList.map fun p => ev E s1 e p.2) = ps.toList.map fun p => ev E s2 e p.2 := fun e => List.map_congr_left fun p hp => ev_congr (hps p hp)
    have e2 : ∀ e, partsOf s1 (ps.toList.map fun p => ev E s1 e p.2) = partsOf s2 (ps.toList.map fun p => ev E s2 e p.2) := fun e => by
      rw [partsOf_congr _ s1 s2 (fun v hv => by
        obtain ⟨p, hp, rfl⟩ := List.mem_map.mp hv
        exact (ev_agr (hps p hp)).agr), e1 e]
    simp only [e2]
  | load t a =>
    rw [ho] at h
    have hx := h a (by simp [Op.operands])
    exact (loadK_congr (kt := kt) (E := E) (t := t) (ev_agr (E := E) (ty := 0) hx).agr).trans (by rw [ev_congr (E := E) hx])
  | store t a v =>
    rw [ho] at h
    have hx := h a (by simp [Op.operands])
    have hy := h v (by simp [Op.operands])
    exact (storeK_congr (kt := kt) (t := t) (P := E.P) (ev_agr (E := E) (ty := 0) hx).agr (ev_agr (E := E) (ty := t) hy).agr).trans (by rw [ev_congr (E := E) hx, ev_congr (E := E) hy])
  | nilCheck x =>
    rw [ho] at h
    simp only [ev_congr (E := E) (h x (by simp [Op.operands]))]
  | binOp op t x y u =>
    rw [ho] at h
    simp only [ev_congr (E := E) (h x (by simp [Op.operands])), ev_congr (E := E) (h y (by simp [Op.operands]))]
  | unOp op t x =>
    rw [ho] at h
    simp only [ev_congr (E := E) (h x (by simp [Op.operands]))]
  | convert a b x =>
    rw [ho] at h
    simp only [ev_congr (E := E) (h x (by simp [Op.operands]))]
  | slice t x lo hi mx =>
    rw [ho] at h
    have hx := h x (by simp [Op.operands])
    simp only
    unfold slcK
    cases mx with
    | none =>
      have e1 : lo.map (ev E s1 3) = lo.map (ev E s2 3) := by
        cases lo with
        | none => rfl
        | some q => exact congrArg some (ev_congr (h q (by simp [Op.operands])))
      have e2 : hi.map (ev E s1 3) = hi.map (ev E s2 3) := by
        cases hi with
        | none => rfl
        | some q => exact congrArg some (ev_congr (h q (by simp [Op.operands])))
      exact (cutK_congr (kt := kt) (t := t) (P := E.P) (ev_agr (E := E) (ty := t) hx).agr).trans (by rw [ev_congr (E := E) hx, e1, e2])
    | some q => rfl
  | fieldAddr t x f =>
    rw [ho] at h
    simp only [ev_congr (E := E) (h x (by simp [Op.operands]))]
  | field t x f =>
    rw [ho] at h
    simp only [ev_congr (E := E) (h x (by simp [Op.operands]))]
  | indexAddr t x i =>
    rw [ho] at h
    have hx := h x (by simp [Op.operands])
    have hy := h i (by simp [Op.operands])
    exact (indexK_congr (kt := kt) (E := E) (t := t) (ev_agr (E := E) (ty := t) hx).agr).trans (by rw [ev_congr (E := E) hx, ev_congr (E := E) hy])
  | index t x i =>
    rw [ho] at h
    simp only [ev_congr (E := E) (h x (by simp [Op.operands])), ev_congr (E := E) (h i (by simp [Op.operands]))]
  | extract x i =>
    rw [ho] at h
    simp only [ev_congr (E := E) (h x (by simp [Op.operands]))]
  | makeSlice t l c =>
    rw [ho] at h
    simp only [ev_congr (E := E) (h l (by simp [Op.operands])), ev_congr (E := E) (h c (by simp [Op.operands]))]
  | makeFunc fn first caps =>
    rw [ho] at h
    simp only
    have e : caps.toList.map (ev E s1 0) = caps.toList.map (ev E s2 0) := List.map_congr_left fun x hx => ev_congr (h x (by simp only [Op.operands, Array.toList_append]; exact List.mem_append_right _ hx))
    unfold funcK
    rw [e]
  | call c =>
    rw [ho] at h
    have ha : ∀ x ∈ c.args.toList, Reads s1 s2 x := fun x hx => h x (by simp only [Op.operands, Call.operands, Array.toList_append]; exact List.mem_append_right _ hx)
    obtain ⟨e1, e2⟩ := argsV_congr (E := E) c.args.toList c.argTypes.toList ha
    simp only
    unfold anyCallK
    cases hc : c.callee with
    | builtin b =>
      simp only
      cases hts : c.argTypes.toList with
      | nil => rfl
      | cons t ts =>
        rw [hts] at e1 e2
        exact (builtinK_congr (kt := kt) e2).trans (by rw [e1])
    | value g =>
      simp only
      have hg := h g (by simp only [Op.operands, Call.operands, hc, Array.toList_append]; exact List.mem_append_left _ (by simp))
      have hga := ev_agr (E := E) (ty := 0) hg
      rw [ev_congr (E := E) hg] at hga ⊢
      generalize ev E s2 0 g = v at hga
      cases v with
      | fn f caps =>
        simp only [fnOf]
        cases hb : caps.any isFn with
        | true => rfl
        | false =>
          simp only [cond_false]
          refine (callX_congr (kt := kt) (fun v hv => ?_)).trans (by rw [e1])
          rcases List.mem_append.mp hv with hv | hv
          · exact e2 v hv
          · have hh : Agr s1 s2 v := hga v hv
            cases v with
            | fn f' c' =>
              have := List.any_eq_false.mp hb _ hv
              exact absurd rfl this
            | _ => exact hh
      | _ => rfl
    | invoke r m => rfl
  | _ => rfl

theorem ev_congr' {ty : TypeId} {x : Operand} (h : ∀ t, x = .tmp t → s1.tm t = s2.tm t) : ev E s1 ty x = ev E s2 ty x := by
  cases x with
  | tmp t => exact h t rfl
  | _ => rfl

/- what reads no memory -/
theorem opK_quiet {d : Nat} {o : Oper} (hq : quietOp o.op = true) (h : ∀ x ∈ o.op.operands.toList, ∀ t, x = .tmp t → s1.tm t = s2.tm t) : opK E d o s1 kt = opK E d o s2 kt := by
  unfold opK
  cases ho : o.op with
  | move x => rw [ho] at h; simp only [ev_congr' (E := E) (h x (by simp [Op.operands]))]
  | assign x => rw [ho] at h; simp only [ev_congr' (E := E) (h x (by simp [Op.operands]))]
  | pick c x z =>
    rw [ho] at h
    simp only
    unfold pickK
    rw [ev_congr' (E := E) (h c (by simp [Op.operands])), ev_congr' (E := E) (h x (by simp [Op.operands])), ev_congr' (E := E) (h z (by simp [Op.operands]))]
  | nilCheck x => rw [ho] at h; simp only [ev_congr' (E := E) (h x (by simp [Op.operands]))]
  | binOp op t x z u => rw [ho] at h; simp only [ev_congr' (E := E) (h x (by simp [Op.operands])), ev_congr' (E := E) (h z (by simp [Op.operands]))]
  | unOp op t x => rw [ho] at h; simp only [ev_congr' (E := E) (h x (by simp [Op.operands]))]
  | convert t u x => rw [ho] at h; simp only [ev_congr' (E := E) (h x (by simp [Op.operands]))]
  | fieldAddr t x f => rw [ho] at h; simp only [ev_congr' (E := E) (h x (by simp [Op.operands]))]
  | field t x f => rw [ho] at h; simp only [ev_congr' (E := E) (h x (by simp [Op.operands]))]
  | index t x i => rw [ho] at h; simp only [ev_congr' (E := E) (h x (by simp [Op.operands])), ev_congr' (E := E) (h i (by simp [Op.operands]))]
  | extract x i => rw [ho] at h; simp only [ev_congr' (E := E) (h x (by simp [Op.operands]))]
  | makeFunc fn first caps =>
    rw [ho] at h
    simp only
    have e : caps.toList.map (ev E s1 0) = caps.toList.map (ev E s2 0) := List.map_congr_left fun x hx => ev_congr' (h x (by simp only [Op.operands, Array.toList_append]; exact List.mem_append_right _ hx))
    unfold funcK
    rw [e]
  | _ => exact absurd hq (by rw [ho]; intro h; cases h)

end

end Go.Proofs.Ytoifbdaaiejbnaa.D
/- What the abstract state says of a world. -/
namespace Go.Proofs.Ytoifbdaaiejbnaa.D
open Go

inductive Lab where
  | free
  | st
  | bo
  | box (r : Nat)
  | arr (p : Nat)

def given : Lab → Prop
  | .box _ => True
  | .arr _ => True
  | _ => False

structure Gh where
  L : Nat → Lab
  base : Nat → Option Nat
  hv : Nat → Value
  esz : Nat → Nat
  used : Nat → Prop

def Gh.ok (G : Gh) (bw : Bool) (g : Nat) : Prop := G.L g = .st ∨ (bw = true ∧ G.L g = .bo)

theorem Gh.ok_not (G : Gh) {bw : Bool} {g : Nat} (h : G.ok bw g) : ¬ given (G.L g) := by
  rcases h with h | ⟨_, h⟩ <;> rw [h] <;> exact fun h => h

def elems (c : Cell) : Option (List (List Cell)) :=
  match c with
  | ⟨.sl row, l⟩ => some (List.map (rowCells row) l)
  | ⟨.pats, l⟩ => some (List.map Pat.cells l)
  | _ => none

theorem rowCells_len : ∀ (row : Row) (x : row.T), (rowCells row x).length = row.len
  | .nil, _ => rfl
  | .one _, _ => rfl
  | .cons _ r, x => congrArg (· + 1) (rowCells_len r x.2)

theorem elems_len {c : Cell} {els : List (List Cell)} (h : elems c = some els) : ∀ l ∈ els, l.length = esize c.c := by
  obtain ⟨t, x⟩ := c
  cases t with
  | sl row =>
    intro l hl
    have h' := Option.some.inj h
    rw [← h'] at hl
    obtain ⟨a, _, rfl⟩ := List.mem_map.mp hl
    exact rowCells_len row a
  | pats =>
    intro l hl
    have h' := Option.some.inj h
    rw [← h'] at hl
    obtain ⟨a, _, rfl⟩ := List.mem_map.mp hl
    rfl
  | int k => exact absurd h (by intro e; cases e)
  | bool => exact absurd h (by intro e; cases e)
  | str => exact absurd h (by intro e; cases e)

/- a cell's datum stands in the world as this value; all its memory is allowed -/
inductive RepC (w : World) (A : Nat → Prop) : Cell → Value → Prop
  | int (k : IntKind) (n : Int) : RepC w A ⟨.int k, n⟩ (.int k n)
  | bool (b : Bool) : RepC w A ⟨.bool, b⟩ (.bool b)
  | str (l : List UInt8) : RepC w A ⟨.str, l⟩ (.string ⟨⟨l⟩⟩)
  | sl (c : Cell) (els : List (List Cell)) (a : Option Addr) (cap g o : Nat) (vals : Nat → Nat → Value)
      (he : elems c = some els) (hcap : els.length ≤ cap) (ha : els ≠ [] → a = some ⟨g, o, none⟩)
      (hc : ∀ i j l x, els[i]? = some l → l[j]? = some x → w.cell? ⟨g, o + (i * esize c.c + j), none⟩ = some (vals i j) ∧ A g)
      (hr : ∀ i j l x, els[i]? = some l → l[j]? = some x → RepC w A x (vals i j)) : RepC w A c (.slice a els.length cap)

theorem RepC.mono {w w' : World} {A A' : Nat → Prop} (hA : ∀ g o v, A g → w.cell? ⟨g, o, none⟩ = some v → w'.cell? ⟨g, o, none⟩ = some v ∧ A' g)
    {c : Cell} {v : Value} (h : RepC w A c v) : RepC w' A' c v := by
  induction h with
  | int k n => exact .int k n
  | bool b => exact .bool b
  | str l => exact .str l
  | sl c els a cap g o vals he hcap ha hc _ ih =>
    exact .sl c els a cap g o vals he hcap ha (fun i j l x h1 h2 => hA _ _ _ (hc i j l x h1 h2).2 (hc i j l x h1 h2).1) (fun i j l x h1 h2 => ih i j l x h1 h2)

theorem RepC.int_inv {w : World} {A : Nat → Prop} {k : IntKind} {n : Int} {v : Value} (h : RepC w A ⟨.int k, n⟩ v) : v = .int k n := by
  generalize hc : (⟨.int k, n⟩ : Cell) = c at h
  cases h with
  | int k' n' => cases hc; rfl
  | bool b => cases hc
  | str l => cases hc
  | sl c els a cap g o vals he => subst hc; exact absurd he (by intro e; cases e)

theorem RepC.bool_inv {w : World} {A : Nat → Prop} {b : Bool} {v : Value} (h : RepC w A ⟨.bool, b⟩ v) : v = .bool b := by
  generalize hc : (⟨.bool, b⟩ : Cell) = c at h
  cases h with
  | int k' n' => cases hc
  | bool b => cases hc; rfl
  | str l => cases hc
  | sl c els a cap g o vals he => subst hc; exact absurd he (by intro e; cases e)

theorem RepC.str_inv {w : World} {A : Nat → Prop} {l : List UInt8} {v : Value} (h : RepC w A ⟨.str, l⟩ v) : v = .string ⟨⟨l⟩⟩ := by
  generalize hc : (⟨.str, l⟩ : Cell) = c at h
  cases h with
  | int k' n' => cases hc
  | bool b => cases hc
  | str l => cases hc; rfl
  | sl c els a cap g o vals he => subst hc; exact absurd he (by intro e; cases e)

theorem RepC.sl_inv {w : World} {A : Nat → Prop} {c : Cell} {els : List (List Cell)} (he : elems c = some els) {v : Value} (h : RepC w A c v) :
    ∃ (a : Option Addr) (cap g o : Nat) (vals : Nat → Nat → Value), v = .slice a els.length cap ∧ els.length ≤ cap ∧ (els ≠ [] → a = some ⟨g, o, none⟩) ∧
      (∀ i j l x, els[i]? = some l → l[j]? = some x → w.cell? ⟨g, o + (i * esize c.c + j), none⟩ = some (vals i j) ∧ A g) ∧
      (∀ i j l x, els[i]? = some l → l[j]? = some x → RepC w A x (vals i j)) := by
  cases h with
  | int k' n' => exact absurd he (by intro e; cases e)
  | bool b => exact absurd he (by intro e; cases e)
  | str l => exact absurd he (by intro e; cases e)
  | sl c els' a cap g o vals he' hcap ha hc hr =>
    have e := Option.some.inj (he.symm.trans he')
    subst e
    exact ⟨a, cap, g, o, vals, rfl, hcap, ha, hc, hr⟩

theorem RepC.oneCell {w : World} {A : Nat → Prop} {c : Cell} {v : Value} (h : RepC w A c v) : v.oneCell' = true := by
  cases h <;> rfl

/- data without memory need none -/
theorem RepC.plain {w w' : World} {A A' : Nat → Prop} {c : Cell} {v : Value} (hc : refC c.c = false) (h : RepC w A c v) : RepC w' A' c v := by
  cases h with
  | int k n => exact .int k n
  | bool b => exact .bool b
  | str l => exact .str l
  | sl c els a cap g o vals he =>
    obtain ⟨t, x⟩ := c
    cases t with
    | sl r => cases hc
    | pats => cases hc
    | int k => exact absurd he (by intro e; cases e)
    | bool => exact absurd he (by intro e; cases e)
    | str => exact absurd he (by intro e; cases e)

theorem elems_nil {t : CT} {c : Cell} (h : nilC t = some c) : elems c = some [] ∧ c.c = t := by
  cases t with
  | sl r => cases h; exact ⟨rfl, rfl⟩
  | pats => cases h; exact ⟨rfl, rfl⟩
  | int k => cases h
  | bool => cases h
  | str => cases h

theorem RepC.nil {w : World} {A : Nat → Prop} {t : CT} {c : Cell} (h : nilC t = some c) : RepC w A c (.slice none 0 0) :=
  .sl c [] none 0 0 0 (fun _ _ => .bool false) (elems_nil h).1 (Nat.le_refl 0) (fun e => absurd rfl e) (fun i j l x h1 => by cases i <;> cases h1) (fun i j l x h1 => by cases i <;> cases h1)

/- a box's cell -/
def RepB (w : World) (G : Gh) (b : BCell) (v : Value) : Prop :=
  match b with
  | .pl c => RepC w (G.ok false) c v
  | .nl c => v = .slice none 0 0 ∧ (nilC c).isSome = true
  | .rf p => v = G.hv p ∧ G.used p

def hard : BCell → Prop
  | .rf _ => False
  | _ => True

inductive RepV (w : World) (G : Gh) : Val → Value → Prop
  | un (v : Value) : RepV w G .un v
  | sk : RepV w G .sk undef
  | nilp : RepV w G .nilp (.pointer none)
  | nilS (c : CT) (h : (nilC c).isSome = true) : RepV w G (.nilS c) (.slice none 0 0)
  | cell (c : CT) (x : c.T) (bw : Bool) (v : Value) (h : RepC w (G.ok bw) ⟨c, x⟩ v) : RepV w G (.cell c x bw) v
  | agg (l : List BCell) (vs : List Value) (hl : vs.length = l.length) (h : ∀ (j : Nat) b v, l[j]? = some b → vs[j]? = some v → RepB w G b v ∧ hard b) : RepV w G (.agg l) (.agg ⟨vs⟩)
  | tup (l : List Val) (vs : List Value) (hl : vs.length = l.length) (h : ∀ (j : Nat) x v, l[j]? = some x → vs[j]? = some v → RepV w G x v) : RepV w G (.tup l) (.tuple ⟨vs⟩)
  | ptr (r off g : Nat) (hu : G.used r) (h : G.base r = some g) : RepV w G (.ptr r off) (.pointer (some ⟨g, off, none⟩))
  | dptr (r off : Nat) (i : Int) (n g : Nat) (hu : G.used r) (h : G.base r = some g) (h0 : 0 ≤ i) (h1 : i < n) : RepV w G (.dptr r off i n) (.pointer (some ⟨g, off + i.toNat, none⟩))
  | eptr (l : List Cell) (bw : Bool) (g o : Nat) (vals : Nat → Value) (h : ∀ (j : Nat) x, l[j]? = some x → w.cell? ⟨g, o + j, none⟩ = some (vals j) ∧ G.ok bw g ∧ RepC w (G.ok bw) x (vals j)) :
      RepV w G (.eptr l bw) (.pointer (some ⟨g, o, none⟩))
  | own (p : Nat) (hu : G.used p) : RepV w G (.own p) (G.hv p)
  | optr (p : Nat) (i : Int) (off g n cap sz : Nat) (hu : G.used p) (h : G.hv p = .slice (some ⟨g, 0, none⟩) n cap) (h0 : 0 ≤ i) (h1 : i < n) (hs : G.esz p = sz) :
      RepV w G (.optr p i off) (.pointer (some ⟨g, i.toNat * sz + off, none⟩))
  | fn (f : Nat) (caps : List Val) (vs : List Value) (hl : vs.length = caps.length) (h : ∀ (j : Nat) x v, caps[j]? = some x → vs[j]? = some v → RepV w G x v) :
      RepV w G (.fn f caps) (.func (.func f) #[] ⟨vs⟩)

end Go.Proofs.Ytoifbdaaiejbnaa.D
/- The invariant, and how it goes on. -/
namespace Go.Proofs.Ytoifbdaaiejbnaa.D
open Go

def OwnS (w : World) (G : Gh) (p : Nat) (e : TypeId) (c : Cell) : Prop :=
  ∃ els xs, elems c = some els ∧ w.ownsRow 0 e (esize c.c) (G.hv p) els.length xs ∧
    (∀ i j l x, els[i]? = some l → l[j]? = some x → ∃ v, xs[i * esize c.c + j]? = some v ∧ RepC w (G.ok false) x v) ∧
    (∀ g, (G.hv p).ownBlock = some g → G.L g = .arr p) ∧ G.esz p = esize c.c ∧ 0 < esize c.c

def BoxAt (w : World) (G : Gh) (r : Nat) (l : List BCell) : Prop :=
  ∃ g vs e, G.used r ∧ G.base r = some g ∧ G.L g = .box r ∧ w.heap[g]? = some (.cells ⟨vs⟩ e (0, 0)) ∧ vs.length = l.length ∧
    ∀ (j : Nat) b v, l[j]? = some b → vs[j]? = some v → RepB w G b v

structure Step (w w' : World) (m : Nat → Prop) : Prop where
  size : w.heap.size ≤ w'.heap.size
  same : ∀ g, g < w.heap.size → ¬ m g → w'.heap[g]? = w.heap[g]?
  os : w'.os = w.os
  tape : w'.tape = w.tape
  output : w'.output = w.output

theorem Step.refl (w : World) (m : Nat → Prop) : Step w w m := ⟨Nat.le_refl _, fun _ _ _ => rfl, rfl, rfl, rfl⟩

theorem Step.alloc (w : World) (o : Obj) (m : Nat → Prop) : Step w (w.alloc o) m :=
  ⟨by simp, fun g hg _ => heap_alloc_old w o g hg, rfl, rfl, rfl⟩

theorem Step.trans {w w1 w2 : World} {m : Nat → Prop} (h : Step w w1 m) (h2 : Step w1 w2 m) : Step w w2 m :=
  ⟨Nat.le_trans h.size h2.size, fun g hg hm => (h2.same g (Nat.lt_of_lt_of_le hg h.size) hm).trans (h.same g hg hm), h2.os.trans h.os, h2.tape.trans h.tape, h2.output.trans h.output⟩

theorem Step.mono {w w1 : World} {m m' : Nat → Prop} (h : Step w w1 m) (hm : ∀ g, m g → m' g) : Step w w1 m' :=
  ⟨h.size, fun g hg hn => h.same g hg (fun e => hn (hm g e)), h.os, h.tape, h.output⟩

theorem Step.cell {w w1 : World} {m : Nat → Prop} (h : Step w w1 m) {g o : Nat} {v : Value} (hm : ¬ m g) (hc : w.cell? ⟨g, o, none⟩ = some v) :
    w1.cell? ⟨g, o, none⟩ = some v := by
  have hb := h.same g (World.block_lt_of_cell? w ⟨g, o, none⟩ hc) hm
  exact (World.cell?_of_block (a := ⟨g, o, none⟩) hb).trans hc

structure Ext (G G' : Gh) : Prop where
  st : ∀ g, G.L g = .st → G'.L g = .st
  bo : ∀ g, G.L g = .bo → G'.L g = .bo
  used : ∀ r, G.used r → G'.used r
  base : ∀ r, G.used r → G'.base r = G.base r
  hv : ∀ r, G.used r → G'.hv r = G.hv r
  esz : ∀ r, G.used r → G'.esz r = G.esz r

theorem Ext.refl (G : Gh) : Ext G G := ⟨fun _ h => h, fun _ h => h, fun _ h => h, fun _ _ => rfl, fun _ _ => rfl, fun _ _ => rfl⟩

theorem Ext.trans {G G1 G2 : Gh} (h : Ext G G1) (h2 : Ext G1 G2) : Ext G G2 :=
  ⟨fun g e => h2.st g (h.st g e), fun g e => h2.bo g (h.bo g e), fun r e => h2.used r (h.used r e), fun r e => (h2.base r (h.used r e)).trans (h.base r e),
   fun r e => (h2.hv r (h.used r e)).trans (h.hv r e), fun r e => (h2.esz r (h.used r e)).trans (h.esz r e)⟩

theorem Ext.ok {G G' : Gh} (h : Ext G G') {bw : Bool} {g : Nat} (e : G.ok bw g) : G'.ok bw g := by
  rcases e with e | ⟨b, e⟩
  · exact .inl (h.st g e)
  · exact .inr ⟨b, h.bo g e⟩

section
variable {w w1 : World} {G G1 : Gh} {m : Nat → Prop}

theorem RepC.step (hs : Step w w1 m) (hm : ∀ g, m g → given (G.L g)) (he : Ext G G1) {bw : Bool} {c : Cell} {v : Value} (h : RepC w (G.ok bw) c v) : RepC w1 (G1.ok bw) c v :=
  h.mono fun g _ _ hA hc => ⟨hs.cell (fun e => G.ok_not hA (hm g e)) hc, he.ok hA⟩

theorem RepB.step (hs : Step w w1 m) (hm : ∀ g, m g → given (G.L g)) (he : Ext G G1) {b : BCell} {v : Value} (h : RepB w G b v) : RepB w1 G1 b v := by
  cases b with
  | pl c => exact RepC.step hs hm he h
  | nl c => exact h
  | rf p => exact ⟨h.1.trans (he.hv p h.2).symm, he.used p h.2⟩

theorem RepV.step (hs : Step w w1 m) (hm : ∀ g, m g → given (G.L g)) (he : Ext G G1) {x : Val} {v : Value} (h : RepV w G x v) : RepV w1 G1 x v := by
  induction h with
  | un v => exact .un v
  | sk => exact .sk
  | nilp => exact .nilp
  | nilS c h => exact .nilS c h
  | cell c x bw v h => exact .cell c x bw v (h.step hs hm he)
  | agg l vs hl h => exact .agg l vs hl fun j b v h1 h2 => ⟨(h j b v h1 h2).1.step hs hm he, (h j b v h1 h2).2⟩
  | tup l vs hl _ ih => exact .tup l vs hl fun j x v h1 h2 => ih j x v h1 h2
  | ptr r off g hu h => exact .ptr r off g (he.used r hu) ((he.base r hu).trans h)
  | dptr r off i n g hu h h0 h1 => exact .dptr r off i n g (he.used r hu) ((he.base r hu).trans h) h0 h1
  | eptr l bw g o vals h => exact .eptr l bw g o vals fun j x hj => ⟨hs.cell (fun e => G.ok_not (h j x hj).2.1 (hm g e)) (h j x hj).1, he.ok (h j x hj).2.1, (h j x hj).2.2.step hs hm he⟩
  | own p hu => rw [← he.hv p hu]; exact .own p (he.used p hu)
  | optr p i off g n cap sz hu h h0 h1 hs' => exact .optr p i off g n cap sz (he.used p hu) ((he.hv p hu).trans h) h0 h1 ((he.esz p hu).trans hs')
  | fn f caps vs hl _ ih => exact .fn f caps vs hl fun j x v h1 h2 => ih j x v h1 h2

theorem OwnS.step (hs : Step w w1 m) (hm : ∀ g, m g → given (G.L g)) (he : Ext G G1) {p : Nat} {e : TypeId} {c : Cell} (hu : G.used p)
    (hb : ∀ g, (G.hv p).ownBlock = some g → ¬ m g ∧ G1.L g = .arr p) (h : OwnS w G p e c) : OwnS w1 G1 p e c := by
  obtain ⟨els, xs, h1, h2, h3, _, h5, h6⟩ := h
  refine ⟨els, xs, h1, ?_, fun i j l x a b => ?_, fun g hg => ?_, (he.esz p hu).trans h5, h6⟩
  · rw [he.hv p hu]
    refine ⟨h2.1, ?_⟩
    rcases h2.2 with hn | ⟨g, cap, cur, hv, hb0, hg, rest⟩
    · exact .inl hn
    · refine .inr ⟨g, cap, cur, hv, hb0, ?_, rest⟩
      rw [hs.same g (Array.getElem?_eq_some_iff.1 hg).1 (hb g (by rw [hv]; rfl)).1]; exact hg
  · obtain ⟨v, hv, hr⟩ := h3 i j l x a b
    exact ⟨v, hv, hr.step hs hm he⟩
  · rw [he.hv p hu] at hg
    exact (hb g hg).2

end

structure Mem (w0 : World) (L0 : Nat → Lab) (w : World) (bx : Nat → List BCell) (pl : Nat → Pl) (G : Gh) : Prop where
  boxes : ∀ r, bx r ≠ [] → BoxAt w G r (bx r)
  lives : ∀ p e c, pl p = .live e c → G.used p ∧ OwnS w G p e c
  frozs : ∀ p c, pl p = .froz c → G.used p ∧ RepC w (G.ok false) c (G.hv p)
  fresh : ∀ g, w.heap.size ≤ g → G.L g = .free
  kept : Step w0 w (fun g => given (L0 g))
  labs : ∀ g, g < w0.heap.size → ¬ given (L0 g) → G.L g = L0 g

theorem Mem.step {w0 : World} {L0 : Nat → Lab} {w w1 : World} {bx bx1 : Nat → List BCell} {pl pl1 : Nat → Pl} {G G1 : Gh} {m : Nat → Prop}
    (M : Mem w0 L0 w bx pl G) (hs : Step w w1 m) (hm : ∀ g, m g → given (G.L g)) (he : Ext G G1)
    (hbx : ∀ r, bx1 r ≠ [] → (bx1 r = bx r ∧ ∀ g, G.base r = some g → G.L g = .box r → ¬ m g ∧ G1.L g = .box r) ∨ BoxAt w1 G1 r (bx1 r))
    (hpl : ∀ p e c, pl1 p = .live e c → (pl p = .live e c ∧ ∀ g, (G.hv p).ownBlock = some g → G.L g = .arr p → ¬ m g ∧ G1.L g = .arr p) ∨ (G1.used p ∧ OwnS w1 G1 p e c))
    (hfz : ∀ p c, pl1 p = .froz c → pl p = .froz c ∨ (G1.used p ∧ RepC w1 (G1.ok false) c (G1.hv p)))
    (hfr : ∀ g, w1.heap.size ≤ g → G1.L g = .free)
    (hlab : ∀ g, g < w0.heap.size → ¬ given (L0 g) → G1.L g = G.L g) : Mem w0 L0 w1 bx1 pl1 G1 where
  boxes r hr := by
    rcases hbx r hr with ⟨e, hb⟩ | h
    · rw [e] at hr ⊢
      obtain ⟨g, vs, t, h1, h2, h3, h4, h5, h6⟩ := M.boxes r hr
      obtain ⟨hn, hl⟩ := hb g h2 h3
      exact ⟨g, vs, t, he.used r h1, (he.base r h1).trans h2, hl, (hs.same g (Array.getElem?_eq_some_iff.1 h4).1 hn).trans h4, h5, fun j b v a c => (h6 j b v a c).step hs hm he⟩
    · exact h
  lives p e c hp := by
    rcases hpl p e c hp with ⟨h, hb⟩ | h
    · obtain ⟨hu, ho⟩ := M.lives p e c h
      have ho' := ho
      obtain ⟨_, _, _, _, _, hl, _⟩ := ho'
      exact ⟨he.used p hu, ho.step hs hm he hu fun g hg => hb g hg (hl g hg)⟩
    · exact h
  frozs p c hp := by
    rcases hfz p c hp with h | h
    · obtain ⟨hu, hr⟩ := M.frozs p c h
      refine ⟨he.used p hu, ?_⟩
      rw [he.hv p hu]; exact hr.step hs hm he
    · exact h
  fresh := hfr
  kept := ⟨Nat.le_trans M.kept.size hs.size, fun g hg hn => by
    have e := M.labs g hg hn
    exact (hs.same g (Nat.lt_of_lt_of_le hg M.kept.size) (fun c => hn (by rw [← e]; exact hm g c))).trans (M.kept.same g hg hn), hs.os.trans M.kept.os, hs.tape.trans M.kept.tape, hs.output.trans M.kept.output⟩
  labs g hg hn := (hlab g hg hn).trans (M.labs g hg hn)

/- where a call began, and what was handed to it -/
structure Ctx where
  w0 : World
  L0 : Nat → Lab
  rb : List (Nat × Nat)

structure Inv (C : Ctx) (w : World) (a : Act) (s : S) (G : Gh) : Prop where
  tmps : ∀ t, RepV w G (s.tm t) (a.tmps.getD t undef)
  none_ : ∀ t, a.tmps.size ≤ t → s.tm t = .un
  defers : a.defers = []
  mem : Mem C.w0 C.L0 w s.bx s.pl G
  roots : ∀ r b, (r, b) ∈ C.rb → G.used r ∧ G.base r = some b

/- what an operation must come to -/
def Goes (P : Program) (C : Ctx) (d : Nat) (o : Oper) (w : World) (a : Act) (s : S) (G : Gh) (v : Val) (ws : Wr) : Prop :=
  ∀ (next : Act → World → Prop) (Q : Exit → Act → World → Prop),
    (∀ w' G' u, Inv C w' (a.put o.dst u) (s.put o.dst v ws) G' → (∀ r, G'.used r → G.used r ∨ (d ≤ r ∧ r < d + 64)) → next (a.put o.dst u) w') → o.wp P a w next Q

theorem put_tm (s : S) (dst : Option Tmp) (v : Val) (ws : Wr) : (s.put dst v ws).bx = (s.ws ws).bx ∧ (s.put dst v ws).pl = (s.ws ws).pl := by
  cases dst <;> exact ⟨rfl, rfl⟩

theorem ws_tm (ws : Wr) : ∀ s : S, (s.ws ws).tm = s.tm := by
  induction ws with
  | nil => intro s; rfl
  | cons w l ih => intro s; show ((s.w1 w).ws l).tm = s.tm; rw [ih]; cases w <;> rfl

theorem ws_nx (ws : Wr) : ∀ s : S, (s.ws ws).nx = s.nx := by
  induction ws with
  | nil => intro s; rfl
  | cons w l ih => intro s; show ((s.w1 w).ws l).nx = s.nx; rw [ih]; cases w <;> rfl

theorem ws_app (ws ws' : Wr) : ∀ s : S, s.ws (ws ++ ws') = (s.ws ws).ws ws' := by
  induction ws with
  | nil => intro s; rfl
  | cons w l ih => intro s; exact ih (s.w1 w)

theorem Inv.after {C : Ctx} {w w1 : World} {a : Act} {s : S} {G G1 : Gh} {m : Nat → Prop} (I : Inv C w a s G) (dst : Option Tmp) (nt : Nat) (hnt : nt ≤ a.tmps.size) (hd : okDst nt dst = true)
    (v : Val) (ws : Wr) (u : Value) (hs : Step w w1 m) (hm : ∀ g, m g → given (G.L g)) (he : Ext G G1)
    (M : Mem C.w0 C.L0 w1 (s.ws ws).bx (s.ws ws).pl G1) (hv : RepV w1 G1 v u) : Inv C w1 (a.put dst u) (s.put dst v ws) G1 where
  tmps t := by
    have h0 := (I.tmps t).step hs hm he
    cases dst with
    | none =>
      show RepV w1 G1 ((s.ws ws).tm t) (a.tmps.getD t undef)
      rw [ws_tm]; exact h0
    | some d =>
      have hlt : d < a.tmps.size := Nat.lt_of_lt_of_le (by simp only [okDst] at hd; exact (Nat.blt_eq).mp hd) hnt
      show RepV w1 G1 (upd s.tm d v t) ((a.tmps.setIfInBounds d u).getD t undef)
      by_cases e : t = d
      · subst e
        rw [upd_same]
        have : (a.tmps.setIfInBounds t u).getD t undef = u := by simp [hlt]
        rw [this]; exact hv
      · rw [upd_other _ _ _ _ e]
        have : (a.tmps.setIfInBounds d u).getD t undef = a.tmps.getD t undef := by
          simp [Array.getElem?_setIfInBounds_ne (Ne.symm e)]
        rw [this]; exact h0
  none_ t ht := by
    cases dst with
    | none => show (s.ws ws).tm t = _; rw [ws_tm]; exact I.none_ t ht
    | some d =>
      have hlt : d < a.tmps.size := Nat.lt_of_lt_of_le (by simp only [okDst] at hd; exact (Nat.blt_eq).mp hd) hnt
      have ht' : a.tmps.size ≤ t := by simpa [Act.put] using ht
      show upd s.tm d v t = _
      rw [upd_other _ _ _ _ (fun e => by subst e; exact absurd hlt (Nat.not_lt.mpr ht'))]; exact I.none_ t ht'
  defers := by cases dst <;> exact I.defers
  mem := by rw [(put_tm s dst v ws).1, (put_tm s dst v ws).2]; exact M
  roots r b h := ⟨he.used r (I.roots r b h).1, (he.base r (I.roots r b h).1).trans (I.roots r b h).2⟩

/- an operation that runs to a value -/
theorem goes_run {P : Program} {C : Ctx} {d : Nat} {o : Oper} {w w1 : World} {a : Act} {s : S} {G G1 : Gh} {m : Nat → Prop} {v : Val} {ws : Wr} {u : Value} {nt : Nat}
    (I : Inv C w a s G) (hnt : nt ≤ a.tmps.size) (hd : okDst nt o.dst = true) (n : Next)
    (hr : (execOp a.eval o).run P w = .ok n w1) (hn : n = .value u ∨ (n = .skip ∧ u = undef))
    (hs : Step w w1 m) (hm : ∀ g, m g → given (G.L g)) (he : Ext G G1)
    (M : Mem C.w0 C.L0 w1 (s.ws ws).bx (s.ws ws).pl G1) (hv : RepV w1 G1 v u) (hu : ∀ r, G1.used r → G.used r ∨ (d ≤ r ∧ r < d + 64)) : Goes P C d o w a s G v ws := by
  intro next Q hk
  have h := hk w1 G1 u (I.after o.dst nt hnt hd v ws u hs hm he M hv) hu
  unfold Oper.wp
  rw [hr]
  rcases hn with rfl | ⟨rfl, rfl⟩
  · exact h
  · exact h

/- an operation that only computes -/
theorem goes_val {P : Program} {C : Ctx} {d : Nat} {o : Oper} {w : World} {a : Act} {s : S} {G : Gh} {v : Val} {u : Value} {nt : Nat}
    (I : Inv C w a s G) (hnt : nt ≤ a.tmps.size) (hd : okDst nt o.dst = true)
    (hr : (execOp a.eval o).run P w = .ok (.value u) w) (hv : RepV w G v u) : Goes P C d o w a s G v [] :=
  goes_run I hnt hd _ hr (.inl rfl) (Step.refl w (fun _ => False)) (fun _ e => e.elim) (Ext.refl G) I.mem hv (fun _ h => .inl h)

end Go.Proofs.Ytoifbdaaiejbnaa.D
/- Operations that only compute. -/
namespace Go.Proofs.Ytoifbdaaiejbnaa.D
open Go

/- the program's operation comes to this value, in whatever continuation -/
def Same (f : ∀ {ρ : Type}, Kt ρ → Option ρ) (v : Val) (ws : Wr) : Prop := ∀ (ρ : Type) (kt : Kt ρ), f kt = kt v ws

theorem intOp_sound {P : Program} {w : World} {G : Gh} {op : BinOp} {k : IntKind} {x y : Int} {t : TypeId} {ρ : Type} {kt : Kt ρ} {r : ρ}
    (hs : op ≠ .shl) (hs' : op ≠ .shr) (h : intOp op k x y kt = some r) :
    ∃ v u, Same (fun kt => intOp op k x y kt) v [] ∧ (binOp op t (.int k x) (.int k y)).run P w = .ok u w ∧ RepV w G v u := by
  cases op
  case shl => exact absurd rfl hs
  case shr => exact absurd rfl hs'
  case quo =>
    by_cases hy : y = 0
    · subst hy; simp [intOp] at h
    · have hy' : (y == 0) = false := by simpa using hy
      refine ⟨int_ k (k.wrap (x.tdiv y)), .int k (k.wrap (x.tdiv y)), fun ρ kt => ?_, ?_, .cell _ _ _ _ (.int _ _)⟩
      · simp only [intOp, hy', cond_false]
      · simp [binOp, Op.intDiv, hy]
  case rem =>
    by_cases hy : y = 0
    · subst hy; simp [intOp] at h
    · have hy' : (y == 0) = false := by simpa using hy
      refine ⟨int_ k (x.tmod y), .int k (x.tmod y), fun ρ kt => ?_, ?_, .cell _ _ _ _ (.int _ _)⟩
      · simp only [intOp, hy', cond_false]
      · simp [binOp, Op.intDiv, hy]
  all_goals first
    | exact ⟨_, _, fun ρ kt => rfl, by simp only [binOp, Op.intArith, Op.intBits, Op.intCmp, ne_eq, not_true_eq_false, if_false, Sem.run_pure] <;> rfl, .cell _ _ _ _ (.int _ _)⟩
    | exact ⟨_, _, fun ρ kt => rfl, by simp only [binOp, Op.intArith, Op.intBits, Op.intCmp, ne_eq, not_true_eq_false, if_false, Sem.run_pure] <;> rfl, .cell _ _ _ _ (.bool _)⟩

theorem binI_sound {P : Program} {w : World} {G : Gh} {op : BinOp} {k k' : IntKind} {x y : Int} {t : TypeId} {ρ : Type} {kt : Kt ρ} {r : ρ}
    (h : binI op k k' x y kt = some r) :
    ∃ v u, Same (fun kt => binI op k k' x y kt) v [] ∧ (binOp op t (.int k x) (.int k' y)).run P w = .ok u w ∧ RepV w G v u := by
  by_cases h1 : op = .shl
  · subst h1
    by_cases hy : y < 0
    · simp [binI, hy] at h
    · refine ⟨int_ k (shlI k x y), .int k (shlI k x y), fun ρ kt => ?_, ?_, .cell _ _ _ _ (.int _ _)⟩
      · simp [binI, hy]
      · simp [binOp, Op.shift, hy, shlI]
  by_cases h2 : op = .shr
  · subst h2
    by_cases hy : y < 0
    · simp [binI, hy] at h
    · refine ⟨int_ k (shrI k x y), .int k (shrI k x y), fun ρ kt => ?_, ?_, .cell _ _ _ _ (.int _ _)⟩
      · simp [binI, hy]
      · simp [binOp, Op.shift, hy, shrI]
  have e : ∀ {ρ : Type} (kt : Kt ρ), binI op k k' x y kt = bif decide (k = k') then intOp op k x y kt else none := by
    intro ρ kt; cases op <;> first | rfl | exact absurd rfl h1 | exact absurd rfl h2
  rw [e] at h
  by_cases hk : k = k'
  · subst hk
    simp only [decide_true, cond_true] at h
    obtain ⟨v, u, hv, hr, hrep⟩ := intOp_sound (P := P) (w := w) (G := G) (t := t) h1 h2 h
    exact ⟨v, u, fun ρ kt => (e kt).trans (by simp only [decide_true, cond_true]; exact hv ρ kt), hr, hrep⟩
  · simp [hk] at h

theorem binB_sound {P : Program} {w : World} {G : Gh} {op : BinOp} {x y : Bool} {t : TypeId} (ht : P.underlying t = some .bool) {ρ : Type} {kt : Kt ρ} {r : ρ}
    (h : binB op x y kt = some r) :
    ∃ v u, Same (fun kt => binB op x y kt) v [] ∧ (binOp op t (.bool x) (.bool y)).run P w = .ok u w ∧ RepV w G v u := by
  have e : (Op.equal t (.bool x) (.bool y)).run P w = .ok (x == y) w := by
    show (Op.equalIn 10000 t (.bool x) (.bool y)).run P w = _
    unfold Op.equalIn
    simp only [Sem.run_bind, run_underlying ht, Result.andThen_ok, Sem.run_pure]
  cases op
  case eql => exact ⟨_, _, fun ρ kt => rfl, by simp only [binOp, Sem.run_bind, e, Result.andThen_ok, Sem.run_pure] <;> rfl, .cell _ _ _ _ (.bool _)⟩
  case neq => exact ⟨_, _, fun ρ kt => rfl, by simp only [binOp, Sem.run_bind, e, Result.andThen_ok, Sem.run_pure] <;> rfl, .cell _ _ _ _ (.bool _)⟩
  all_goals exact absurd (show (none : Option ρ) = some r from h) (by simp)

theorem binS_sound {P : Program} {w : World} {G : Gh} {op : BinOp} {x y : List UInt8} {t : TypeId} {ρ : Type} {kt : Kt ρ} {r : ρ}
    (h : binS op x y kt = some r) :
    ∃ v u, Same (fun kt => binS op x y kt) v [] ∧ (binOp op t (.string ⟨⟨x⟩⟩) (.string ⟨⟨y⟩⟩)).run P w = .ok u w ∧ RepV w G v u := by
  have ex : (⟨⟨x⟩⟩ : ByteArray).toList = x := Lib.toList_data ⟨⟨x⟩⟩
  have ey : (⟨⟨y⟩⟩ : ByteArray).toList = y := Lib.toList_data ⟨⟨y⟩⟩
  cases op
  case add =>
    by_cases hr : room (x.length + y.length) 1 = true
    · refine ⟨str_ (x ++ y), .string ⟨⟨x ++ y⟩⟩, fun ρ kt => ?_, ?_, .cell _ _ _ _ (.str _)⟩
      · simp [binS, hr]
      · have hr' : (x.length + y.length) * 1 < 70368744177664 := of_decide_eq_true hr
        have hs : ¬ (((⟨⟨x⟩⟩ : ByteArray).size + (⟨⟨y⟩⟩ : ByteArray).size : Nat) : Int) > IntKind.i64.max := by
          have e1 : (⟨⟨x⟩⟩ : ByteArray).size = x.length := rfl
          have e2 : (⟨⟨y⟩⟩ : ByteArray).size = y.length := rfl
          have e3 : IntKind.i64.max = 9223372036854775807 := by decide
          rw [e1, e2, e3]; omega
        have e4 : (⟨⟨x⟩⟩ : ByteArray) ++ ⟨⟨y⟩⟩ = ⟨⟨x ++ y⟩⟩ := by
          apply ByteArray.ext; simp
        simp only [binOp, Op.stringOp, hs, if_false, Sem.run_pure, e4]
    · simp [binS, hr] at h
  case eql => exact ⟨_, _, fun ρ kt => rfl, by simp only [binOp, Op.stringOp, ex, ey, Sem.run_pure] <;> rfl, .cell _ _ _ _ (.bool _)⟩
  case neq => exact ⟨_, _, fun ρ kt => rfl, by simp only [binOp, Op.stringOp, ex, ey, Sem.run_pure] <;> rfl, .cell _ _ _ _ (.bool _)⟩
  case lss => exact ⟨_, _, fun ρ kt => rfl, by simp only [binOp, Op.stringOp, ex, ey, Sem.run_pure] <;> rfl, .cell _ _ _ _ (.bool _)⟩
  all_goals exact absurd (show (none : Option ρ) = some r from h) (by simp)

section
variable {P : Program} {w : World} {G : Gh}

theorem aggConst_rep : ∀ (l : List CT) (m : List Value) (r : List BCell), aggConst l m = some r → r.length = m.length ∧ ∀ (j : Nat) b v, r[j]? = some b → m[j]? = some v → RepB w G b v ∧ hard b := by
  intro l
  induction l with
  | nil =>
    intro m r h
    cases m with
    | nil => cases h; exact ⟨rfl, fun j b v h1 => by cases j <;> cases h1⟩
    | cons v m => exact absurd h (by intro e; cases e)
  | cons c l ih =>
    intro m r h
    cases m with
    | nil => exact absurd h (by intro e; cases e)
    | cons v m =>
      unfold aggConst at h
      have key : ∀ (q : BCell) (r' : List BCell), aggConst l m = some r' → RepB w G q v ∧ hard q → (q :: r').length = (v :: m).length ∧ ∀ (j : Nat) b u, (q :: r')[j]? = some b → (v :: m)[j]? = some u → RepB w G b u ∧ hard b := by
        intro q r' hr hq
        obtain ⟨hl, hall⟩ := ih m r' hr
        refine ⟨by simp [hl], fun j b u h1 h2 => ?_⟩
        cases j with
        | zero => simp only [List.getElem?_cons_zero, Option.some.injEq] at h1 h2; subst h1; subst h2; exact hq
        | succ j => exact hall j b u (by simpa using h1) (by simpa using h2)
      split at h
      · rename_i hr; cases h; exact key _ _ hr ⟨.int _ _, trivial⟩
      · rename_i hr; cases h; exact key _ _ hr ⟨.bool _, trivial⟩
      · rename_i hr; cases h; exact key _ _ hr ⟨.str _, trivial⟩
      · rename_i hr; cases h; exact key _ _ hr ⟨⟨rfl, rfl⟩, trivial⟩
      · rename_i hr; cases h; exact key _ _ hr ⟨⟨rfl, rfl⟩, trivial⟩
      · exact absurd h (by simp)

theorem constV_rep (E : Bs) (t : TypeId) (v : Value) : RepV w G (constV E t v) v := by
  unfold constV
  split
  · exact .cell _ _ _ _ (.int _ _)
  · exact .cell _ _ _ _ (.bool _)
  · exact .cell _ _ _ _ (.str _)
  · exact .nilp
  · split
    · split
      · rename_i h; exact .nilS _ (by rw [h]; rfl)
      · exact .un _
    · exact .un _
  · split
    · split
      · rename_i m h
        have h' := aggConst_rep (w := w) (G := G) _ _ _ h
        exact .agg m _ h'.1.symm h'.2
      · exact .un _
    · exact .un _
  · exact .fn _ [] [] rfl (fun j x v h => by cases h)
  · exact .un _

theorem ev_rep {C : Ctx} {a : Act} {s : S} (I : Inv C w a s G) (E : Bs) (t : TypeId) (x : Operand) : RepV w G (ev E s t x) (a.eval x) := by
  cases x with
  | tmp t => exact I.tmps t
  | const v => exact constV_rep E t v
  | global g => exact .un _
  | func f => exact .fn f [] [] rfl (fun j x v h => by cases h)

end

end Go.Proofs.Ytoifbdaaiejbnaa.D
/- Operations on the abstract state against the machine's. -/
namespace Go.Proofs.Ytoifbdaaiejbnaa.D
open Go

section
variable {P : Program} {C : Ctx} {w : World} {a : Act} {s : S} {G : Gh}

theorem res_rep (I : Inv C w a s G) {v : Val} {u : Value} (h : RepV w G v u) : RepV w G (res s v) u := by
  unfold res
  split
  · split
    · rename_i hp
      obtain ⟨hu, hr⟩ := I.mem.frozs _ _ hp
      cases h
      exact .cell _ _ _ _ hr
    · exact h
  · exact h

theorem rd_rep (I : Inv C w a s G) {v : Val} {u : Value} (h : RepV w G v u) : RepV w G (rd s v) u := by
  have h1 := res_rep I h
  unfold rd
  split
  · rename_i c e
    rw [e] at h1
    cases h1 with
    | nilS c hc =>
      split
      · rename_i z hz; exact .cell _ _ _ _ (RepC.nil hz)
      · exact .un _
  · exact h1

theorem run_isAgg {t : TypeId} {b : Bool} (h : aggT P t = some b) (w : World) : (isAgg t).run P w = .ok b w := by
  unfold aggT at h
  unfold isAgg
  simp only [Sem.run_bind]
  split at h
  · rename_i e; cases h; rw [run_underlying e]; rfl
  · rename_i e; cases h; rw [run_underlying e]; rfl
  · rename_i d h1 h2 e
    cases h
    rw [run_underlying e]
    simp only [Result.andThen_ok]
    cases d <;> first | rfl | exact absurd e (h1 _) | exact absurd e (h2 _ _)
  · cases h

theorem info_of_aggT {t : TypeId} {b : Bool} (h : aggT P t = some b) : ∃ i, P.info? t = some i ∧ sizeT P t = i.size := by
  cases hi : P.info? t with
  | none =>
    exfalso
    have e : P.underlying t = none := by unfold Program.underlying; rw [hi]
    unfold aggT at h; rw [e] at h; cases h
  | some i => exact ⟨i, rfl, by unfold sizeT Program.cellsOf; rw [hi]; rfl⟩

theorem run_sizeOf {t : TypeId} {b : Bool} (h : aggT P t = some b) (w : World) : (sizeOf t).run P w = .ok (sizeT P t) w := by
  obtain ⟨i, hi, hs⟩ := info_of_aggT h
  simp only [sizeOf, typeInfo, Sem.run_bind, run_program, Result.andThen_ok, hi, Sem.run_pure, hs]

theorem add_addr (g o n : Nat) : (⟨g, o, none⟩ : Addr).add n = ⟨g, o + n, none⟩ := by
  unfold Addr.add
  split
  · rename_i h; subst h; rfl
  · rfl

theorem run_load_cell {g o : Nat} {v : Value} (h : w.cell? ⟨g, o, none⟩ = some v) (m : Mode) : (load ⟨g, o, none⟩ m).run P w = .ok v w := by
  rw [run_load, h]

/- many cells, one behind the other -/
theorem run_loadVar_agg {t : TypeId} (ht : aggT P t = some true) {g o : Nat} {vs : List Value} (hl : vs.length = sizeT P t)
    (h : ∀ (j : Nat) v, vs[j]? = some v → w.cell? ⟨g, o + j, none⟩ = some v) : (loadVar t ⟨g, o, none⟩).run P w = .ok (.agg ⟨vs⟩) w := by
  have h1 := run_loadCells_list (P := P) w ⟨g, o, none⟩ vs (fun j v hv => by rw [add_addr]; exact h j v hv)
  simp only [loadVar, Sem.run_bind, run_isAgg ht, Result.andThen_ok, if_true, run_sizeOf ht, ← hl, h1, Sem.run_pure]

theorem run_loadVar_one {t : TypeId} (ht : aggT P t = some false) {g o : Nat} {v : Value} (h : w.cell? ⟨g, o, none⟩ = some v) : (loadVar t ⟨g, o, none⟩).run P w = .ok v w := by
  simp only [loadVar, Sem.run_bind, run_isAgg ht, Result.andThen_ok, Bool.false_eq_true, if_false, run_load_cell h]

end

end Go.Proofs.Ytoifbdaaiejbnaa.D
/- Equality of structs and arrays. -/
namespace Go.Proofs.Ytoifbdaaiejbnaa.D
open Go

section
variable {w : World} {G : Gh}
theorem plainB_at : ∀ {l : List BCell} {m : List Cell}, plainB l = some m → m.length = l.length ∧ ∀ (j : Nat) c v, m[j]? = some c → (∀ b, l[j]? = some b → RepB w G b v) → RepC w (G.ok false) c v := by
  intro l
  induction l with
  | nil => intro m h; cases h; exact ⟨rfl, fun j c v h => by cases j <;> cases h⟩
  | cons b l ih =>
    intro m h
    unfold plainB at h
    cases b with
    | pl c =>
      simp only at h
      split at h
      · rename_i m' hm
        cases h
        obtain ⟨h1, h2⟩ := ih hm
        refine ⟨by simp [h1], fun j c' v hj hb => ?_⟩
        cases j with
        | zero => simp only [List.getElem?_cons_zero, Option.some.injEq] at hj; subst hj; exact hb (.pl c) rfl
        | succ j => exact h2 j c' v (by simpa using hj) (fun b hb' => hb b (by simpa using hb'))
      · cases h
    | nl c =>
      simp only at h
      split at h
      · rename_i z m' hz hm
        cases h
        obtain ⟨h1, h2⟩ := ih hm
        refine ⟨by simp [h1], fun j c' v hj hb => ?_⟩
        cases j with
        | zero =>
          simp only [List.getElem?_cons_zero, Option.some.injEq] at hj; subst hj
          have := (hb (.nl c) rfl).1
          rw [this]; exact RepC.nil hz
        | succ j => exact h2 j c' v (by simpa using hj) (fun b hb' => hb b (by simpa using hb'))
      · cases h
    | rf p => cases h

end

/- a value of a type, told by its cells -/
def RepT (w : World) (A : Nat → Prop) (P : Program) (t : TypeId) (l : List Cell) (v : Value) : Prop :=
  match P.underlying t with
  | some (.struct _) => ∃ vs, v = .agg ⟨vs⟩ ∧ vs.length = l.length ∧ ∀ (j : Nat) c u, l[j]? = some c → vs[j]? = some u → RepC w A c u
  | some (.array _ _) => ∃ vs, v = .agg ⟨vs⟩ ∧ vs.length = l.length ∧ ∀ (j : Nat) c u, l[j]? = some c → vs[j]? = some u → RepC w A c u
  | _ => ∃ c, l = [c] ∧ RepC w A c v

section
variable {P : Program} {w : World} {A : Nat → Prop}

theorem repT_part {t : TypeId} {l : List Cell} {vs : List Value} {off : Nat} (hl : vs.length = l.length) (h : ∀ (j : Nat) c u, l[j]? = some c → vs[j]? = some u → RepC w A c u)
    (hu : ∃ d, P.underlying t = some d) (hone : (∀ fs, P.underlying t ≠ some (.struct fs)) → (∀ n e, P.underlying t ≠ some (.array n e)) → ∃ c, (l.drop off).take (P.cellsOf t) = [c]) :
    ∃ u, (part t ⟨vs⟩ off).run P w = .ok u w ∧ RepT w A P t ((l.drop off).take (P.cellsOf t)) u := by
  obtain ⟨d, hd⟩ := hu
  obtain ⟨i, hi⟩ := info_of_underlying hd
  have hsl : ((vs.drop off).take (P.cellsOf t)).length = ((l.drop off).take (P.cellsOf t)).length := by simp [hl]
  have hp : ∀ (j : Nat) c u, ((l.drop off).take (P.cellsOf t))[j]? = some c → ((vs.drop off).take (P.cellsOf t))[j]? = some u → RepC w A c u := fun j c u h1 h2 => by
    have hj : j < P.cellsOf t := by have := (List.getElem?_eq_some_iff.mp h1).1; simp at this; omega
    rw [List.getElem?_take_of_lt hj, List.getElem?_drop] at h1 h2
    exact h _ c u h1 h2
  have hx : ((⟨vs⟩ : Array Value).extract off (off + P.cellsOf t)) = ⟨(vs.drop off).take (P.cellsOf t)⟩ := by
    apply Array.ext'
    rw [Array.toList_extract]
    simp [List.extract]
  have agg : (isAgg t).run P w = .ok true w → ∃ vs', (part t ⟨vs⟩ off).run P w = .ok (.agg ⟨vs'⟩) w ∧ vs'.length = ((l.drop off).take (P.cellsOf t)).length ∧
      ∀ (j : Nat) c u, ((l.drop off).take (P.cellsOf t))[j]? = some c → vs'[j]? = some u → RepC w A c u := fun ha =>
    ⟨_, by unfold part; simp only [Sem.run_bind, ha, Result.andThen_ok, if_true, Go.run_sizeOf w hi, Sem.run_pure, hx], hsl, hp⟩
  have one : (isAgg t).run P w = .ok false w → (∃ c, (l.drop off).take (P.cellsOf t) = [c]) → ∃ u c, (part t ⟨vs⟩ off).run P w = .ok u w ∧ (l.drop off).take (P.cellsOf t) = [c] ∧ RepC w A c u := fun ha ⟨c, hc⟩ => by
    rw [hc] at hsl
    have hpos : 0 < P.cellsOf t := by
      rcases Nat.eq_zero_or_pos (P.cellsOf t) with h0 | h0
      · rw [h0, List.take_zero] at hc; cases hc
      · exact h0
    have hlen : off < vs.length := by
      have := hsl
      simp at this; omega
    refine ⟨vs[off], c, ?_, hc, ?_⟩
    · unfold part
      simp only [Sem.run_bind, ha, Result.andThen_ok, Bool.false_eq_true, if_false]
      have : (⟨vs⟩ : Array Value)[off]? = some vs[off] := by simp [hlen]
      rw [this]; rfl
    · refine hp 0 c vs[off] (by rw [hc]; rfl) ?_
      rw [List.getElem?_take_of_lt hpos, List.getElem?_drop]
      exact List.getElem?_eq_getElem hlen
  unfold RepT
  cases d with
  | struct fs =>
    obtain ⟨vs', h1, h2, h3⟩ := agg (by simp [isAgg, run_underlying hd])
    refine ⟨_, h1, ?_⟩
    rw [hd]
    exact ⟨vs', rfl, h2, h3⟩
  | array n e =>
    obtain ⟨vs', h1, h2, h3⟩ := agg (by simp [isAgg, run_underlying hd])
    refine ⟨_, h1, ?_⟩
    rw [hd]
    exact ⟨vs', rfl, h2, h3⟩
  | _ =>
    obtain ⟨u, c, h1, h2, h3⟩ := one (by simp [isAgg, run_underlying hd]) (hone (fun fs e => by rw [hd] at e; cases e) (fun n e' e => by rw [hd] at e; cases e))
    refine ⟨u, h1, ?_⟩
    rw [hd]
    exact ⟨c, h2, h3⟩

theorem eq1i_sound {l m : List Cell} {r : Bool} (h : eq1i l m = some r) : ∃ (k : IntKind) (x y : Int), l = [⟨.int k, x⟩] ∧ m = [⟨.int k, y⟩] ∧ r = (x == y) := by
  unfold eq1i at h
  split at h
  · rename_i k x k' y
    cases hb : decide (k = k') with
    | false => rw [hb] at h; cases h
    | true =>
      rw [hb] at h
      have e := of_decide_eq_true hb
      subst e
      cases h
      exact ⟨k, x, y, rfl, rfl, rfl⟩
  · cases h
theorem eq1b_sound {l m : List Cell} {r : Bool} (h : eq1b l m = some r) : ∃ (x y : Bool), l = [⟨.bool, x⟩] ∧ m = [⟨.bool, y⟩] ∧ r = (x == y) := by
  unfold eq1b at h
  split at h
  · cases h; exact ⟨_, _, rfl, rfl, rfl⟩
  · cases h
theorem eq1s_sound {l m : List Cell} {r : Bool} (h : eq1s l m = some r) : ∃ (x y : List UInt8), l = [⟨.str, x⟩] ∧ m = [⟨.str, y⟩] ∧ r = (x == y) := by
  unfold eq1s at h
  split at h
  · cases h; exact ⟨_, _, rfl, rfl, rfl⟩
  · cases h

/- the types that can be asked -/
def askT (P : Program) (t : TypeId) : Prop := (∃ k, P.underlying t = some (.int k)) ∨ P.underlying t = some .bool ∨ P.underlying t = some .string ∨ (∃ fs, P.underlying t = some (.struct fs)) ∨ ∃ n e, P.underlying t = some (.array n e)

theorem eqT_ask {d : Nat} {t : TypeId} {l m : List Cell} {r : Bool} (h : eqT P d t l m = some r) : askT P t := by
  cases d with
  | zero => cases h
  | succ d =>
    unfold eqT at h
    unfold askT
    split at h
    · rename_i k hk; exact .inl ⟨k, hk⟩
    · rename_i hk; exact .inr (.inl hk)
    · rename_i hk; exact .inr (.inr (.inl hk))
    · rename_i fs hk; exact .inr (.inr (.inr (.inl ⟨fs, hk⟩)))
    · rename_i n e hk; exact .inr (.inr (.inr (.inr ⟨n, e, hk⟩)))
    · cases h

theorem eqT_one {d : Nat} {t : TypeId} {l m : List Cell} {r : Bool} (h : eqT P d t l m = some r) (h1 : ∀ fs, P.underlying t ≠ some (.struct fs)) (h2 : ∀ n e, P.underlying t ≠ some (.array n e)) : (∃ c, l = [c]) ∧ ∃ c, m = [c] := by
  cases d with
  | zero => cases h
  | succ d =>
    unfold eqT at h
    split at h
    · obtain ⟨k, a, b, e1, e2, _⟩ := eq1i_sound h; exact ⟨⟨_, e1⟩, ⟨_, e2⟩⟩
    · obtain ⟨a, b, e1, e2, _⟩ := eq1b_sound h; exact ⟨⟨_, e1⟩, ⟨_, e2⟩⟩
    · obtain ⟨a, b, e1, e2, _⟩ := eq1s_sound h; exact ⟨⟨_, e1⟩, ⟨_, e2⟩⟩
    · rename_i fs hk; exact absurd hk (h1 fs)
    · rename_i n e hk; exact absurd hk (h2 n e)
    · cases h

/- one part after the other -/
theorem eqL_cons {q : TypeId → List Cell → List Cell → Option Bool} {l m : List Cell} {p : TypeId × Nat} {ps : List (TypeId × Nat)} {r : Bool} (h : eqL q P l m (p :: ps) = some r) :
    ∃ a b, q p.1 ((l.drop p.2).take (P.cellsOf p.1)) ((m.drop p.2).take (P.cellsOf p.1)) = some a ∧ eqL q P l m ps = some b ∧ r = (a && b) := by
  unfold eqL at h
  split at h
  · rename_i a b h1 h2; cases h; exact ⟨a, b, h1, h2, rfl⟩
  · cases h

def EqOk (P : Program) (w : World) (A : Nat → Prop) (dd n : Nat) : Prop := ∀ (t : TypeId) (l m : List Cell) (u v : Value) (r : Bool), eqT P n t l m = some r → RepT w A P t l u → RepT w A P t m v → (Op.equalIn dd t u v).run P w = .ok r w

theorem eq_step {dd n : Nat} (IH : EqOk P w A dd n) {t : TypeId} {off : Nat} {l m : List Cell} {vs us : List Value} {a : Bool} (hl : vs.length = l.length) (hm : us.length = m.length)
    (h1 : ∀ (j : Nat) c u, l[j]? = some c → vs[j]? = some u → RepC w A c u) (h2 : ∀ (j : Nat) c u, m[j]? = some c → us[j]? = some u → RepC w A c u)
    (h : eqT P n t ((l.drop off).take (P.cellsOf t)) ((m.drop off).take (P.cellsOf t)) = some a) :
    ∃ u v, (part t ⟨vs⟩ off).run P w = .ok u w ∧ (part t ⟨us⟩ off).run P w = .ok v w ∧ (Op.equalIn dd t u v).run P w = .ok a w := by
  have hu : ∃ d, P.underlying t = some d := by rcases eqT_ask h with ⟨k, h⟩ | h | h | ⟨fs, h⟩ | ⟨n, e, h⟩ <;> exact ⟨_, h⟩
  obtain ⟨u, p1, r1⟩ := repT_part (P := P) (w := w) (A := A) (t := t) (off := off) hl h1 hu fun a b => (eqT_one h a b).1
  obtain ⟨v, p2, r2⟩ := repT_part (P := P) (w := w) (A := A) (t := t) (off := off) hm h2 hu fun a b => (eqT_one h a b).2
  exact ⟨u, v, p1, p2, IH t _ _ u v a h r1 r2⟩

theorem eqFields_sound {dd n : Nat} (IH : EqOk P w A dd n) {l m : List Cell} {vs us : List Value} (hl : vs.length = l.length) (hm : us.length = m.length)
    (h1 : ∀ (j : Nat) c u, l[j]? = some c → vs[j]? = some u → RepC w A c u) (h2 : ∀ (j : Nat) c u, m[j]? = some c → us[j]? = some u → RepC w A c u) :
    ∀ (fs : List Field) (r : Bool), (fs.any fun f => f.name == "_") = false → eqL (eqT P n) P l m (fs.map fun f => (f.type, f.offset)) = some r → (Op.eqFields dd ⟨vs⟩ ⟨us⟩ fs).run P w = .ok r w := by
  intro fs
  induction fs with
  | nil => intro r _ h; cases h; rfl
  | cons f fs ih =>
    intro r hn h
    obtain ⟨a, b, e1, e2, rfl⟩ := eqL_cons h
    rw [List.any_cons, Bool.or_eq_false_iff] at hn
    have hne : f.name ≠ "_" := fun e => by rw [e] at hn; exact absurd hn.1 (by simp)
    obtain ⟨u, v, p1, p2, p3⟩ := eq_step IH hl hm h1 h2 e1
    have := ih b hn.2 e2
    simp only [Op.eqFields, hne, ne_eq, not_false_eq_true, if_true, Sem.run_bind, p1, p2, p3, Result.andThen_ok]
    cases a
    · rfl
    · simpa using this

theorem eqItems_sound {dd n : Nat} (IH : EqOk P w A dd n) {l m : List Cell} {vs us : List Value} (hl : vs.length = l.length) (hm : us.length = m.length)
    (h1 : ∀ (j : Nat) c u, l[j]? = some c → vs[j]? = some u → RepC w A c u) (h2 : ∀ (j : Nat) c u, m[j]? = some c → us[j]? = some u → RepC w A c u) (e : TypeId) :
    ∀ (is : List Nat) (r : Bool), eqL (eqT P n) P l m (is.map fun i => (e, i * P.cellsOf e)) = some r → (Op.eqItems dd e (P.cellsOf e) ⟨vs⟩ ⟨us⟩ is).run P w = .ok r w := by
  intro is
  induction is with
  | nil => intro r h; cases h; rfl
  | cons i is ih =>
    intro r h
    obtain ⟨a, b, e1, e2, rfl⟩ := eqL_cons h
    obtain ⟨u, v, p1, p2, p3⟩ := eq_step IH hl hm h1 h2 e1
    have := ih b e2
    simp only [Op.eqItems, Sem.run_bind, p1, p2, p3, Result.andThen_ok]
    cases a
    · rfl
    · simpa using this

theorem eqT_sound (d : Nat) : ∀ n, EqOk P w A (d + n) n := by
  intro n
  induction n with
  | zero => intro t l m u v r h; cases h
  | succ n IH =>
    intro t l m u v r h hu hv
    unfold eqT at h
    unfold RepT at hu hv
    split at h
    · rename_i k ht
      rw [ht] at hu hv
      obtain ⟨a, ha, ra⟩ := hu
      obtain ⟨b, hb, rb⟩ := hv
      obtain ⟨k', x, y, e1, e2, rfl⟩ := eq1i_sound h
      rw [ha] at e1; rw [hb] at e2
      cases e1; cases e2
      rw [ra.int_inv, rb.int_inv]; exact run_equalIn_int w (d + n) t k' k x y ht
    · rename_i ht
      rw [ht] at hu hv
      obtain ⟨a, ha, ra⟩ := hu
      obtain ⟨b, hb, rb⟩ := hv
      obtain ⟨x, y, e1, e2, rfl⟩ := eq1b_sound h
      rw [ha] at e1; rw [hb] at e2
      cases e1; cases e2
      rw [ra.bool_inv, rb.bool_inv]; exact run_equalIn_bool' w (d + n) t x y ht
    · rename_i ht
      rw [ht] at hu hv
      obtain ⟨a, ha, ra⟩ := hu
      obtain ⟨b, hb, rb⟩ := hv
      obtain ⟨x, y, e1, e2, rfl⟩ := eq1s_sound h
      rw [ha] at e1; rw [hb] at e2
      cases e1; cases e2
      rw [ra.str_inv, rb.str_inv]
      have := run_equalIn_string (P := P) w (d + n) t ⟨⟨x⟩⟩ ⟨⟨y⟩⟩ ht
      rw [ByteArray.toList_eq, ByteArray.toList_eq] at this
      exact this
    · rename_i fs ht
      rw [ht] at hu hv
      obtain ⟨vs, rfl, hl, h1⟩ := hu
      obtain ⟨us, rfl, hm, h2⟩ := hv
      generalize hg : (P.stoodInHeld t || fs.toList.any (fun f => f.name == "_") || !Nat.beq l.length (P.cellsOf t) || !Nat.beq m.length (P.cellsOf t)) = g at h
      cases g with
      | true => cases h
      | false =>
        simp only [Bool.or_eq_false_iff] at hg
        have hfs : P.fieldsOf t = fs := by simp [Program.fieldsOf, ht]
        have := eqFields_sound IH hl hm h1 h2 fs.toList r hg.1.1.2 h
        rw [show d + (n + 1) = (d + n) + 1 from rfl, run_equalIn_struct w (d + n) t ⟨vs⟩ ⟨us⟩ (by rw [hfs]; exact ht) hg.1.1.1, hfs]
        exact this
    · rename_i n' e ht
      rw [ht] at hu hv
      obtain ⟨vs, rfl, hl, h1⟩ := hu
      obtain ⟨us, rfl, hm, h2⟩ := hv
      generalize hg : (Nat.beq n' 0 || !Nat.beq l.length (P.cellsOf t) || !Nat.beq m.length (P.cellsOf t)) = g at h
      cases g with
      | true => cases h
      | false =>
        have h : eqL (eqT P n) P l m ((List.range n').map fun i => (e, i * P.cellsOf e)) = some r := h
        rw [show d + (n + 1) = (d + n) + 1 from rfl]
        cases n' with
        | zero => cases hg
        | succ n' =>
          have hask : askT P e := by
            rw [List.range_succ_eq_map, List.map_cons] at h
            obtain ⟨a, b, e1, _⟩ := eqL_cons h
            exact eqT_ask e1
          have he : ∃ d, P.underlying e = some d := by rcases hask with ⟨k, h⟩ | h | h | ⟨fs, h⟩ | ⟨n, e, h⟩ <;> exact ⟨_, h⟩
          obtain ⟨dd, hdd⟩ := he
          obtain ⟨i, hi⟩ := info_of_underlying hdd
          rw [run_equalIn_array w (d + n) ⟨vs⟩ ⟨us⟩ ht hi]
          exact eqItems_sound IH hl hm h1 h2 e _ r h
    · cases h

end

end Go.Proofs.Ytoifbdaaiejbnaa.D
/- Each operation: what it comes to. -/
namespace Go.Proofs.Ytoifbdaaiejbnaa.D
open Go

def Does (P : Program) (C : Ctx) (d : Nat) (o : Oper) (w : World) (a : Act) (s : S) (G : Gh) (f : ∀ {ρ : Type}, Kt ρ → Option ρ) : Prop :=
  ∃ v ws, Same f v ws ∧ Goes P C d o w a s G v ws

/- what an operation's law is given -/
structure At (E : Bs) (C : Ctx) (d : Nat) (dst : Option Tmp) (w : World) (a : Act) (s : S) (G : Gh) : Prop where
  inv : Inv C w a s G
  hnt : E.nt ≤ a.tmps.size
  hd : okDst E.nt dst = true
  free : ∀ r, d ≤ r → r < d + 64 → ¬ G.used r

section
variable {E : Bs} {C : Ctx} {d : Nat} {w : World} {a : Act} {s : S} {G : Gh} {o : Oper} {ρ : Type} {kt : Kt ρ} {y : ρ}

theorem does_val (A : At E C d o.dst w a s G) {f : ∀ {ρ : Type}, Kt ρ → Option ρ} {v : Val} {u : Value} (hf : Same f v [])
    (hr : (execOp a.eval o).run E.P w = .ok (.value u) w) (hv : RepV w G v u) : Does E.P C d o w a s G f :=
  ⟨v, [], hf, goes_val A.inv A.hnt A.hd hr hv⟩

theorem does_move (A : At E C d o.dst w a s G) (x : Operand) (ho : o.op = .move x) : Does E.P C d o w a s G (fun kt => kt (ev E s o.type x) []) :=
  does_val A (fun ρ kt => rfl) (by unfold execOp; rw [ho]; rfl) (ev_rep A.inv E _ x)

theorem does_assign (A : At E C d o.dst w a s G) (x : Operand) (ho : o.op = .assign x) : Does E.P C d o w a s G (fun kt => kt (ev E s o.type x) []) :=
  does_val A (fun ρ kt => rfl) (by unfold execOp; rw [ho]; rfl) (ev_rep A.inv E _ x)

theorem rep_bool {v : Val} {u : Value} {b bw : Bool} (hv : v = .cell .bool b bw) (h : RepV w G v u) : u = .bool b := by
  subst hv; cases h with | cell _ _ _ _ h => exact h.bool_inv

theorem rep_int {v : Val} {u : Value} {k : IntKind} {n : Int} {bw : Bool} (hv : v = .cell (.int k) n bw) (h : RepV w G v u) : u = .int k n := by
  subst hv; cases h with | cell _ _ _ _ h => exact h.int_inv

theorem rep_str {v : Val} {u : Value} {n : List UInt8} {bw : Bool} (hv : v = .cell .str n bw) (h : RepV w G v u) : u = .string ⟨⟨n⟩⟩ := by
  subst hv; cases h with | cell _ _ _ _ h => exact h.str_inv

theorem does_pick (A : At E C d o.dst w a s G) (c x z : Operand) (ho : o.op = .pick c x z)
    (h : pickK E s o.type c x z kt = some y) : Does E.P C d o w a s G (fun kt => pickK E s o.type c x z kt) := by
  unfold pickK at h
  split at h
  · rename_i t bw hc
    have hb := rep_bool hc (ev_rep A.inv E 0 c)
    have hr : (execOp a.eval o).run E.P w = .ok (.value (bif t then a.eval x else a.eval z)) w := by
      unfold execOp; rw [ho]; simp only [hb, asBool, Sem.run_bind, Sem.run_pure, Result.andThen_ok]; cases t <;> rfl
    cases t with
    | true => exact does_val A (fun ρ kt => by dsimp only; unfold pickK; rw [hc]; rfl) hr (ev_rep A.inv E _ x)
    | false => exact does_val A (fun ρ kt => by dsimp only; unfold pickK; rw [hc]; rfl) hr (ev_rep A.inv E _ z)
  · exact absurd h (by simp)

theorem does_nilCheck (A : At E C d o.dst w a s G) (x : Operand) (ho : o.op = .nilCheck x)
    (h : nilK (ev E s 0 x) kt = some y) : Does E.P C d o w a s G (fun kt => nilK (ev E s 0 x) kt) := by
  have hx := ev_rep A.inv E 0 x
  have hr : (∃ p, a.eval x = .pointer (some p)) ∨ (∃ f vs, a.eval x = .func (.func f) #[] vs) → (execOp a.eval o).run E.P w = .ok (.value (a.eval x)) w := by
    rintro (⟨p, hp⟩ | ⟨f, vs, hp⟩) <;> (unfold execOp; rw [ho]; simp only [hp]; rfl)
  unfold nilK at h
  split at h
  · rename_i hc; rw [hc] at hx
    refine does_val A (fun ρ kt => by dsimp only; unfold nilK; rw [hc]) (hr (.inl ?_)) hx
    generalize a.eval x = u at hx; cases hx; exact ⟨_, rfl⟩
  · rename_i hc; rw [hc] at hx
    refine does_val A (fun ρ kt => by dsimp only; unfold nilK; rw [hc]) (hr (.inl ?_)) hx
    generalize a.eval x = u at hx; cases hx; exact ⟨_, rfl⟩
  · rename_i hc; rw [hc] at hx
    refine does_val A (fun ρ kt => by dsimp only; unfold nilK; rw [hc]) (hr (.inl ?_)) hx
    generalize a.eval x = u at hx; cases hx; exact ⟨_, rfl⟩
  · rename_i hc; rw [hc] at hx
    refine does_val A (fun ρ kt => by dsimp only; unfold nilK; rw [hc]) (hr (.inr ?_)) hx
    generalize a.eval x = u at hx; cases hx; exact ⟨_, _, rfl⟩
  · exact absurd h (by simp)

theorem run_eqGuard_flat {op : BinOp} {t : TypeId} {x z : Operand} {u v : Value} (h : (∃ k n, u = .int k n) ∨ (∃ b, u = .bool b) ∨ (∃ b, u = .string b)) :
    (eqGuard op t x z u v).run E.P w = .ok () w := by
  unfold eqGuard
  rcases h with ⟨k, n, rfl⟩ | ⟨b, rfl⟩ | ⟨b, rfl⟩ <;> cases op <;> rfl

theorem plain_repT {t : TypeId} {l : List BCell} {m : List Cell} {u : Value} (hp : plainB l = some m) (hr : RepV w G (.agg l) u) (ht : (∃ fs, E.P.underlying t = some (.struct fs)) ∨ ∃ n e, E.P.underlying t = some (.array n e)) :
    (∃ vs, u = .agg ⟨vs⟩) ∧ RepT w (G.ok false) E.P t m u := by
  obtain ⟨h1, h2⟩ := plainB_at (w := w) (G := G) hp
  cases hr with
  | agg _ vs hl hv =>
  refine ⟨⟨vs, rfl⟩, ?_⟩
  have key : ∃ us, (Value.agg ⟨vs⟩) = .agg ⟨us⟩ ∧ us.length = m.length ∧ ∀ (j : Nat) c u, m[j]? = some c → us[j]? = some u → RepC w (G.ok false) c u :=
    ⟨vs, rfl, by rw [hl, h1], fun j c u hc hu => h2 j c u hc fun b hb => (hv j b u hb hu).1⟩
  unfold RepT
  rcases ht with ⟨fs, ht⟩ | ⟨n, e, ht⟩ <;> (rw [ht]; exact key)

theorem does_aggEq (A : At E C d o.dst w a s G) (op : BinOp) (t : TypeId) (x z : Operand) (q : TypeId) (ho : o.op = .binOp op t x z q) {l m : List BCell} (hl : ev E s t x = .agg l) (hm : ev E s q z = .agg m)
    (ht : (∃ fs, E.P.underlying t = some (.struct fs)) ∨ ∃ n e, E.P.underlying t = some (.array n e)) (h : aggEqK E.P t op l m kt = some y) : Does E.P C d o w a s G (fun kt => aggEqK E.P t op l m kt) := by
  have hx := ev_rep A.inv E t x
  have hz := ev_rep A.inv E q z
  rw [hl] at hx
  rw [hm] at hz
  unfold aggEqK at h
  split at h
  · rename_i l' m' h1 h2
    obtain ⟨⟨us, hu⟩, r1⟩ := plain_repT h1 hx ht
    obtain ⟨⟨vs, hv⟩, r2⟩ := plain_repT h2 hz ht
    cases hg : E.P.eqGuardType E.P.depth t with
    | true => rw [hg] at h; cases h
    | false =>
      rw [hg] at h
      simp only [cond_false] at h
      split at h
      · rename_i r hr
        have he := eqT_sound (P := E.P) (w := w) (A := G.ok false) 9991 9 t l' m' _ _ r hr r1 r2
        rw [hu, hv] at he
        have run : ∀ b, (binOp op t (.agg ⟨us⟩) (.agg ⟨vs⟩)).run E.P w = .ok (.bool b) w → (execOp a.eval o).run E.P w = .ok (.value (.bool b)) w := fun b hb => by
          unfold execOp
          rw [ho]
          simp only [hu, hv, Sem.run_bind, run_eqGuard_agg w op t x z ⟨us⟩ ⟨vs⟩ hg, Result.andThen_ok, hb, Sem.run_pure]
        cases op with
        | eql => exact does_val A (fun ρ kt => by dsimp only; unfold aggEqK; simp only [h1, h2, hg, cond_false, hr]; rfl) (run r (by rw [run_eql_struct]; simp only [he, Result.andThen_ok])) (.cell _ _ _ _ (.bool _))
        | neq => exact does_val A (fun ρ kt => by dsimp only; unfold aggEqK; simp only [h1, h2, hg, cond_false, hr]; rfl) (run (!r) (by rw [run_neq_struct]; simp only [he, Result.andThen_ok])) (.cell _ _ _ _ (.bool _))
        | _ => cases h
      · cases h
  · cases h

theorem does_binOp (A : At E C d o.dst w a s G) (op : BinOp) (t : TypeId) (x z : Operand) (q : TypeId) (ho : o.op = .binOp op t x z q)
    (h : binK E.P t op (ev E s t x) (ev E s q z) kt = some y) : Does E.P C d o w a s G (fun kt => binK E.P t op (ev E s t x) (ev E s q z) kt) := by
  have hx := ev_rep A.inv E t x
  have hz := ev_rep A.inv E q z
  have hr : ∀ (u : Value), (binOp op t (a.eval x) (a.eval z)).run E.P w = .ok u w → ((∃ k n, a.eval x = .int k n) ∨ (∃ b, a.eval x = .bool b) ∨ (∃ b, a.eval x = .string b)) →
      (execOp a.eval o).run E.P w = .ok (.value u) w := by
    intro u hu hf; unfold execOp; rw [ho]; simp only [Sem.run_bind, run_eqGuard_flat hf, Result.andThen_ok, hu, Sem.run_pure]
  unfold binK at h
  split at h
  · rename_i k m b1 hc
    split at h
    · rename_i k' n b2 hc'
      have h1 := rep_int hc hx
      have h2 := rep_int hc' hz
      obtain ⟨v, u, hv, hu, hrep⟩ := binI_sound (P := E.P) (w := w) (G := G) (t := t) h
      exact does_val A (fun ρ kt => by dsimp only; unfold binK; rw [hc, hc']; exact hv ρ kt) (hr u (by rw [h1, h2]; exact hu) (.inl ⟨_, _, h1⟩)) hrep
    · exact absurd h (by simp)
  · rename_i m b1 hc
    split at h
    · rename_i n b2 hc'
      split at h
      · rename_i ht
        have h1 := rep_bool hc hx
        have h2 := rep_bool hc' hz
        obtain ⟨v, u, hv, hu, hrep⟩ := binB_sound (P := E.P) (w := w) (G := G) ht h
        refine does_val A (fun ρ kt => ?_) (hr u (by rw [h1, h2]; exact hu) (.inr (.inl ⟨_, h1⟩))) hrep
        dsimp only; unfold binK; rw [hc, hc']; show (match E.P.underlying t with | some .bool => binB op m n kt | _ => none) = _; rw [ht]; exact hv ρ kt
      · exact absurd h (by simp)
    · exact absurd h (by simp)
  · rename_i m b1 hc
    split at h
    · rename_i n b2 hc'
      have h1 := rep_str hc hx
      have h2 := rep_str hc' hz
      obtain ⟨v, u, hv, hu, hrep⟩ := binS_sound (P := E.P) (w := w) (G := G) (t := t) h
      exact does_val A (fun ρ kt => by dsimp only; unfold binK; rw [hc, hc']; exact hv ρ kt) (hr u (by rw [h1, h2]; exact hu) (.inr (.inr ⟨_, h1⟩))) hrep
    · exact absurd h (by simp)
  · rename_i l hc
    split at h
    · rename_i m hc'
      split at h
      · rename_i fs ht
        obtain ⟨v, ws, h1, h2⟩ := does_aggEq A op t x z q ho hc hc' (.inl ⟨fs, ht⟩) h
        refine ⟨v, ws, fun ρ kt => ?_, h2⟩
        dsimp only; unfold binK; rw [hc, hc']; simp only [ht]; exact h1 ρ kt
      · rename_i n e ht
        obtain ⟨v, ws, h1, h2⟩ := does_aggEq A op t x z q ho hc hc' (.inr ⟨n, e, ht⟩) h
        refine ⟨v, ws, fun ρ kt => ?_, h2⟩
        dsimp only; unfold binK; rw [hc, hc']; simp only [ht]; exact h1 ρ kt
      · exact absurd h (by simp)
    · exact absurd h (by simp)
  · exact absurd h (by simp)

theorem unI_sound {op : UnOp} {k : IntKind} (n : Int) (h : unI op k n kt = some y) :
    ∃ v u, Same (fun kt => unI op k n kt) v [] ∧ (Op.unary op (.int k n)).run E.P w = .ok u w ∧ RepV w G v u := by
  cases op with
  | neg => exact ⟨int_ k (k.wrap (0 - n)), .int k (k.wrap (0 - n)), fun ρ kt => rfl, rfl, .cell _ _ _ _ (.int _ _)⟩
  | xor => exact ⟨int_ k (xorI k (if k.signed then -1 else k.max) n), .int k (xorI k (if k.signed then -1 else k.max) n), fun ρ kt => rfl, rfl, .cell _ _ _ _ (.int _ _)⟩
  | not => exact absurd (show (none : Option ρ) = some y from h) (by simp)
  | plus => exact absurd (show (none : Option ρ) = some y from h) (by simp)

theorem unB_sound {op : UnOp} (n : Bool) (h : unB op n kt = some y) :
    ∃ v u, Same (fun kt => unB op n kt) v [] ∧ (Op.unary op (.bool n)).run E.P w = .ok u w ∧ RepV w G v u := by
  cases op with
  | not => exact ⟨bool_ (!n), .bool (!n), fun ρ kt => rfl, rfl, .cell _ _ _ _ (.bool _)⟩
  | neg => exact absurd (show (none : Option ρ) = some y from h) (by simp)
  | xor => exact absurd (show (none : Option ρ) = some y from h) (by simp)
  | plus => exact absurd (show (none : Option ρ) = some y from h) (by simp)

theorem does_unOp (A : At E C d o.dst w a s G) (op : UnOp) (t : TypeId) (x : Operand) (ho : o.op = .unOp op t x)
    (h : unK op (ev E s t x) kt = some y) : Does E.P C d o w a s G (fun kt => unK op (ev E s t x) kt) := by
  have hx := ev_rep A.inv E t x
  unfold unK at h
  split at h
  · rename_i k n b hc
    have h1 := rep_int hc hx
    obtain ⟨v, u, hv, hu, hrep⟩ := unI_sound (E := E) (w := w) (G := G) n h
    exact does_val A (fun ρ kt => by dsimp only; unfold unK; rw [hc]; exact hv ρ kt) (by unfold execOp; rw [ho]; simp only [h1, Sem.run_bind, hu, Result.andThen_ok, Sem.run_pure]) hrep
  · rename_i n b hc
    have h1 := rep_bool hc hx
    obtain ⟨v, u, hv, hu, hrep⟩ := unB_sound (E := E) (w := w) (G := G) n h
    exact does_val A (fun ρ kt => by dsimp only; unfold unK; rw [hc]; exact hv ρ kt) (by unfold execOp; rw [ho]; simp only [h1, Sem.run_bind, hu, Result.andThen_ok, Sem.run_pure]) hrep
  · exact absurd h (by simp)

theorem does_convert (A : At E C d o.dst w a s G) (t q : TypeId) (x : Operand) (ho : o.op = .convert t q x)
    (h : convK E t q (ev E s t x) kt = some y) : Does E.P C d o w a s G (fun kt => convK E t q (ev E s t x) kt) := by
  have hx := ev_rep A.inv E t x
  unfold convK at h
  split at h
  · rename_i k n b k' dsc hc hk hs
    have h1 := rep_int hc hx
    unfold constT at hk
    split at hk
    · rename_i k'' hq
      cases hk
      refine does_val A (v := int_ k' (IntKind.wrap k' n)) (u := .int k' (IntKind.wrap k' n)) (fun ρ kt => ?_) ?_ (.cell _ _ _ _ (.int _ _))
      · dsimp only; unfold convK constT; rw [hc, hq, hs]
      · unfold execOp; rw [ho]; simp only [Sem.run_bind, convert, run_underlying hs, run_underlying hq, Result.andThen_ok, h1]; rfl
    · cases hk
  · exact absurd h (by simp)

end

end Go.Proofs.Ytoifbdaaiejbnaa.D
/- Freezing; reads. -/
namespace Go.Proofs.Ytoifbdaaiejbnaa.D
open Go

section
variable {C : Ctx} {w : World} {G : Gh}

def Gh.freeze (G : Gh) (p : Nat) : Gh := { G with L := fun g => match G.L g with | .arr q => if q = p then .st else .arr q | l => l }

theorem freeze_other {G : Gh} {p g : Nat} {l : Lab} (h : G.L g = l) (hn : l ≠ .arr p) : (G.freeze p).L g = l := by
  show (match G.L g with | .arr q => if q = p then Lab.st else .arr q | l => l) = l
  rw [h]
  cases l with
  | arr q => exact if_neg (fun e => hn (by rw [e]))
  | _ => rfl

theorem freeze_same {G : Gh} {p g : Nat} (h : G.L g = .arr p) : (G.freeze p).L g = .st := by
  show (match G.L g with | .arr q => if q = p then Lab.st else .arr q | l => l) = _
  rw [h]; exact if_pos rfl

theorem freeze_ext (G : Gh) (p : Nat) : Ext G (G.freeze p) :=
  ⟨fun g h => freeze_other h (by intro e; cases e), fun g h => freeze_other h (by intro e; cases e), fun _ h => h, fun _ _ => rfl, fun _ _ => rfl, fun _ _ => rfl⟩

theorem freeze_given {G : Gh} {p k : Nat} (h : given ((G.freeze p).L k)) : given (G.L k) := by
  cases hl : G.L k with
  | free => rw [freeze_other hl (by intro e; cases e)] at h; exact h
  | st => rw [freeze_other hl (by intro e; cases e)] at h; exact h
  | bo => rw [freeze_other hl (by intro e; cases e)] at h; exact h
  | box r => trivial
  | arr q => trivial

/- what an owned slice's place holds, read -/
theorem OwnS.read {p : Nat} {e : TypeId} {c : Cell} (h : OwnS w G p e c) : ∃ els, elems c = some els ∧ ∃ (vals : Nat → Nat → Value),
    (∀ i j l x, els[i]? = some l → l[j]? = some x → RepC w (G.ok false) x (vals i j)) ∧
    ((G.hv p = .slice none 0 0 ∧ els = []) ∨ ∃ g cap cur, G.hv p = .slice (some ⟨g, 0, none⟩) els.length cap ∧ els.length ≤ cap ∧ G.L g = .arr p ∧ w.heap[g]? = some (.cells cur e (0, 0)) ∧ cur.size = cap * esize c.c ∧
      ∀ i j l x, els[i]? = some l → l[j]? = some x → cur[i * esize c.c + j]? = some (vals i j)) := by
  obtain ⟨els, xs, h1, h2, h3, h4, _, _⟩ := h
  refine ⟨els, h1, fun i j => xs.getD (i * esize c.c + j) undef, ?_, ?_⟩
  · intro i j l x a b
    obtain ⟨v, hv, hr⟩ := h3 i j l x a b
    have : xs.getD (i * esize c.c + j) undef = v := by rw [List.getD_eq_getElem?_getD, hv]; rfl
    show RepC w (G.ok false) x (xs.getD (i * esize c.c + j) undef)
    rw [this]; exact hr
  · rcases h2.2 with ⟨hv, hn⟩ | ⟨g, cap, cur, hv, _, hg, hn, _, hsz, htk⟩
    · exact .inl ⟨hv, List.eq_nil_of_length_eq_zero hn⟩
    · refine .inr ⟨g, cap, cur, hv, hn, h4 g (by rw [hv]; rfl), hg, hsz, ?_⟩
      intro i j l x a b
      obtain ⟨v, hv', _⟩ := h3 i j l x a b
      have e1 : xs.getD (i * esize c.c + j) undef = v := by rw [List.getD_eq_getElem?_getD, hv']; rfl
      show cur[i * esize c.c + j]? = some (xs.getD (i * esize c.c + j) undef)
      rw [e1]
      rw [← htk, List.getElem?_take] at hv'
      split at hv'
      · rw [← hv']; simp
      · cases hv'

theorem cell_of_block {g o : Nat} {cur : Array Value} {e : TypeId} {fr : Nat × Nat} (h : w.heap[g]? = some (.cells cur e fr)) : w.cell? ⟨g, o, none⟩ = cur[o]? := by
  simp [World.cell?, h]

theorem frozen_of_block {g o : Nat} {cur : Array Value} {e : TypeId} (h : w.heap[g]? = some (.cells cur e (0, 0))) : w.frozen? ⟨g, o, none⟩ = false := by
  simp [World.frozen?, h]

theorem OwnS.rep {p : Nat} {e : TypeId} {c : Cell} (h : OwnS w G p e c) {G' : Gh} (he : Ext G G') (hst : ∀ g, G.L g = .arr p → G'.L g = .st) : RepC w (G'.ok false) c (G.hv p) := by
  obtain ⟨els, h1, vals, h3, h4⟩ := h.read
  have hr : ∀ i j l x, els[i]? = some l → l[j]? = some x → RepC w (G'.ok false) x (vals i j) := fun i j l x a b =>
    (h3 i j l x a b).mono fun g o v hA hc => ⟨hc, he.ok hA⟩
  rcases h4 with ⟨hv, rfl⟩ | ⟨g, cap, cur, hv, hcap, hL, hg, hsz, hc⟩
  · rw [hv]; exact .sl c [] none 0 0 0 vals h1 (Nat.le_refl 0) (fun e => absurd rfl e) (fun i j l x a => by cases i <;> cases a) hr
  · rw [hv]
    refine .sl c els (some ⟨g, 0, none⟩) cap g 0 vals h1 hcap (fun _ => rfl) (fun i j l x a b => ⟨?_, .inl (hst g hL)⟩) hr
    rw [cell_of_block hg, Nat.zero_add]; exact hc i j l x a b

theorem mem_freeze {bx : Nat → List BCell} {pl : Nat → Pl} (M : Mem C.w0 C.L0 w bx pl G) {p : Nat} {e : TypeId} {c : Cell} (hp : pl p = .live e c) :
    Mem C.w0 C.L0 w bx (upd pl p (.froz c)) (G.freeze p) ∧ RepC w ((G.freeze p).ok false) c (G.hv p) := by
  obtain ⟨hu, ho⟩ := M.lives p e c hp
  have hrep : RepC w ((G.freeze p).ok false) c (G.hv p) := ho.rep (freeze_ext G p) fun g h => freeze_same h
  refine ⟨M.step (Step.refl w (fun _ => False)) (fun _ e => e.elim) (freeze_ext G p) ?_ ?_ ?_ ?_ ?_, hrep⟩
  · exact fun r _ => .inl ⟨rfl, fun g _ hL => ⟨fun e => e, freeze_other hL (by intro e; cases e)⟩⟩
  · intro q e' c' hq
    by_cases hqp : q = p
    · subst hqp; rw [upd_same] at hq; cases hq
    · rw [upd_other _ _ _ _ hqp] at hq
      exact .inl ⟨hq, fun g _ hL => ⟨fun e => e, freeze_other hL (by intro e; cases e; exact hqp rfl)⟩⟩
  · intro q c' hq
    by_cases hqp : q = p
    · subst hqp; rw [upd_same] at hq; cases hq; exact .inr ⟨hu, hrep⟩
    · rw [upd_other _ _ _ _ hqp] at hq; exact .inl hq
  · exact fun g hg => freeze_other (M.fresh g hg) (by intro e; cases e)
  · intro g hg hn
    have hl := M.labs g hg hn
    exact freeze_other rfl (fun e => hn (by rw [← hl, e]; trivial))

theorem froz_sound : ∀ (l : List BCell) (s : S) (G : Gh) (m : List BCell) (ws : Wr) (vs : List Value), Mem C.w0 C.L0 w s.bx s.pl G → froz s l = some (m, ws) →
    (∀ (j : Nat) b v, l[j]? = some b → vs[j]? = some v → RepB w G b v) →
    ∃ G', Ext G G' ∧ (∀ r, G'.used r → G.used r) ∧ Mem C.w0 C.L0 w (s.ws ws).bx (s.ws ws).pl G' ∧ m.length = l.length ∧ ∀ (j : Nat) b v, m[j]? = some b → vs[j]? = some v → RepB w G' b v ∧ hard b := by
  intro l
  induction l with
  | nil =>
    intro s G m ws vs M h _
    cases h
    exact ⟨G, Ext.refl G, fun _ h => h, M, rfl, fun j b v h1 => by cases j <;> cases h1⟩
  | cons b l ih =>
    intro s G m ws vs M h hv
    unfold froz at h
    have tailv : ∀ (G' : Gh), Ext G G' → ∀ (j : Nat) b v, l[j]? = some b → vs.tail[j]? = some v → RepB w G' b v := by
      intro G' he j b v h1 h2
      refine RepB.step (Step.refl w (fun _ => False)) (fun _ e => e.elim) he (hv (j + 1) b v (by simpa using h1) ?_)
      cases vs with
      | nil => cases h2
      | cons u us => simpa using h2
    have glue : ∀ (G' : Gh) (q : BCell) (m' : List BCell), (∀ v, vs[0]? = some v → RepB w G' q v ∧ hard q) → (∀ (j : Nat) b v, m'[j]? = some b → vs.tail[j]? = some v → RepB w G' b v ∧ hard b) →
        ∀ (j : Nat) b v, (q :: m')[j]? = some b → vs[j]? = some v → RepB w G' b v ∧ hard b := by
      intro G' q m' h0 ht j b v h1 h2
      cases j with
      | zero => simp only [List.getElem?_cons_zero, Option.some.injEq] at h1; subst h1; exact h0 v h2
      | succ j =>
        refine ht j b v (by simpa using h1) ?_
        cases vs with
        | nil => cases h2
        | cons u us => simpa using h2
    split at h
    · rename_i p
      split at h
      · rename_i e c hp
        split at h
        · rename_i m' ws' hf
          cases h
          obtain ⟨M1, hrep⟩ := mem_freeze M hp
          obtain ⟨G', he, hu, M2, hl, hall⟩ := ih (s.w1 (.p p (.froz c))) (G.freeze p) m' ws' vs.tail M1 hf (tailv _ (freeze_ext G p))
          refine ⟨G', (freeze_ext G p).trans he, fun r h => hu r h, M2, by simp [hl], glue G' _ _ (fun v h0 => ⟨?_, trivial⟩) hall⟩
          have := hv 0 (.rf p) v rfl h0
          show RepC w (G'.ok false) c v
          rw [this.1]; exact hrep.mono fun g o v hA hc => ⟨hc, he.ok hA⟩
        · cases h
      · rename_i c hp
        split at h
        · rename_i m' ws' hf
          cases h
          obtain ⟨G', he, hu, M2, hl, hall⟩ := ih s G m' ws vs.tail M hf (tailv _ (Ext.refl G))
          refine ⟨G', he, hu, M2, by simp [hl], glue G' _ _ (fun v h0 => ⟨?_, trivial⟩) hall⟩
          have := hv 0 (.rf p) v rfl h0
          show RepC w (G'.ok false) c v
          rw [this.1]; exact (M.frozs p c hp).2.mono fun g o v hA hc => ⟨hc, he.ok hA⟩
        · cases h
      · cases h
    · rename_i hb
      split at h
      · rename_i m' ws' hf
        cases h
        obtain ⟨G', he, hu, M2, hl, hall⟩ := ih s G m' ws vs.tail M hf (tailv _ (Ext.refl G))
        refine ⟨G', he, hu, M2, by simp [hl], glue G' _ _ (fun v h0 => ⟨?_, ?_⟩) hall⟩
        · exact RepB.step (Step.refl w (fun _ => False)) (fun _ e => e.elim) he (hv 0 b v rfl h0)
        · cases b with
          | rf p => exact (hb p rfl).elim
          | _ => trivial
      · cases h

end

end Go.Proofs.Ytoifbdaaiejbnaa.D
/- Reads. -/
namespace Go.Proofs.Ytoifbdaaiejbnaa.D
open Go

section
variable {E : Bs} {C : Ctx} {d : Nat} {w : World} {a : Act} {s : S} {G : Gh} {o : Oper} {ρ : Type} {kt : Kt ρ} {y : ρ}

theorem slK_sound {c : CT} {x : c.T} {i : Int} {kt : List Cell → Option ρ} (h : slK c x i kt = some y) :
    ∃ els l, elems ⟨c, x⟩ = some els ∧ 0 ≤ i ∧ els[i.toNat]? = some l ∧ (∀ (ρ' : Type) (kt' : List Cell → Option ρ'), slK c x i kt' = kt' l) ∧ kt l = some y := by
  have key : ∀ {α : Type} (f : α → List Cell) (xs : List α), ((idx xs i).bind fun q => kt (f q)) = some y →
      ∃ q, idx xs i = some q ∧ 0 ≤ i ∧ (xs.map f)[i.toNat]? = some (f q) ∧ kt (f q) = some y := by
    intro α f xs h
    obtain ⟨q, hq, hk⟩ := Option.bind_eq_some_iff.mp h
    refine ⟨q, hq, ?_, ?_, hk⟩
    · unfold idx at hq; split at hq
      · assumption
      · cases hq
    · unfold idx at hq; split at hq
      · rw [List.getElem?_map, hq]; rfl
      · cases hq
  cases c with
  | sl row =>
    obtain ⟨q, hq, h0, h1, h2⟩ := key (rowCells row) x h
    exact ⟨_, _, rfl, h0, h1, fun ρ' kt' => by show ((idx (α := row.T) x i).bind fun a => kt' (rowCells row a)) = _; rw [hq]; rfl, h2⟩
  | pats =>
    obtain ⟨q, hq, h0, h1, h2⟩ := key Pat.cells x h
    exact ⟨_, _, rfl, h0, h1, fun ρ' kt' => by show ((idx (α := Pat) x i).bind fun a => kt' a.cells) = _; rw [hq]; rfl, h2⟩
  | int k => exact absurd (show (none : Option ρ) = some y from h) (by simp)
  | bool => exact absurd (show (none : Option ρ) = some y from h) (by simp)
  | str => exact absurd (show (none : Option ρ) = some y from h) (by simp)

theorem len_map {α β : Type} (f : α → β) (l : List α) : (l.map f).length = l.length := List.length_map f

theorem slLen_elems {c : CT} {x : c.T} {n : Nat} {els : List (List Cell)} (he : elems ⟨c, x⟩ = some els) (h : slLen c x = some n) : n = els.length := by
  cases c with
  | sl row => cases he; have e := Option.some.inj h; exact e.symm.trans (len_map (α := row.T) (rowCells row) x).symm
  | pats => cases he; have e := Option.some.inj h; exact e.symm.trans (len_map (α := Pat) Pat.cells x).symm
  | int k => cases he
  | bool => cases he
  | str => cases he

theorem map_cut {α β : Type} (f : α → β) (l : List α) (lo hi : Nat) : (List.drop lo (List.take hi l)).map f = List.drop lo (List.take hi (l.map f)) := by
  rw [List.map_drop, List.map_take]

theorem slCut_elems {c : CT} {x z : c.T} {lo hi : Nat} {els : List (List Cell)} (he : elems ⟨c, x⟩ = some els) (h : slCut c x lo hi = some z) : elems ⟨c, z⟩ = some ((els.take hi).drop lo) := by
  cases c with
  | sl row => cases he; have e := Option.some.inj h; subst e; exact congrArg some (map_cut (α := row.T) (rowCells row) x lo hi)
  | pats => cases he; have e := Option.some.inj h; subst e; exact congrArg some (map_cut (α := Pat) Pat.cells x lo hi)
  | int k => cases he
  | bool => cases he
  | str => cases he

theorem pickC_rep {P : Program} {t : TypeId} {l : List Cell} {bw : Bool} {v : Val} {g o : Nat} {vals : Nat → Value}
    (hl : ∀ (j : Nat) x, l[j]? = some x → w.cell? ⟨g, o + j, none⟩ = some (vals j) ∧ RepC w (G.ok bw) x (vals j)) (h : pickC P t l bw = some v) :
    ∃ u, (loadVar t ⟨g, o, none⟩).run P w = .ok u w ∧ RepV w G v u := by
  unfold pickC at h
  split at h
  · rename_i ht
    cases hc : (Nat.ble (sizeT P t) l.length && !(bw && (l.take (sizeT P t)).any (fun c => refC c.c))) with
    | false => rw [hc] at h; cases h
    | true =>
      rw [hc] at h
      cases h
      simp only [Bool.and_eq_true, Bool.not_eq_true', Nat.ble_eq] at hc
      obtain ⟨h1, h2⟩ := hc
      have hlen : ((List.range (sizeT P t)).map vals).length = sizeT P t := by simp
      refine ⟨_, run_loadVar_agg ht hlen (fun j v hj => ?_), ?_⟩
      · have hjn : j < sizeT P t := by have := (List.getElem?_eq_some_iff.mp hj).1; rwa [hlen] at this
        rw [List.getElem?_map, List.getElem?_range hjn] at hj
        have hjl : j < l.length := by omega
        have e := (hl j l[j] (List.getElem?_eq_getElem hjl)).1
        rw [e]; exact hj
      · refine .agg _ _ (by simp [hlen]; omega) (fun j b v hb hv => ?_)
        rw [List.getElem?_map] at hb
        obtain ⟨x, hx, rfl⟩ := Option.map_eq_some_iff.mp hb
        have hjn : j < sizeT P t := by
          have := (List.getElem?_eq_some_iff.mp hx).1
          simp at this; omega
        have hx' : l[j]? = some x := by rw [List.getElem?_take_of_lt hjn] at hx; exact hx
        have hv' : vals j = v := by
          rw [List.getElem?_map, List.getElem?_range hjn] at hv; exact Option.some.inj hv
        have hr := (hl j x hx').2
        rw [hv'] at hr
        refine ⟨?_, trivial⟩
        cases bw with
        | false => exact hr
        | true =>
          have hn : refC x.c = false := by
            simp only [Bool.true_and, List.any_eq_false] at h2
            have := h2 x (List.mem_of_getElem? hx)
            simpa using this
          exact hr.plain hn
  · rename_i ht
    split at h
    · rename_i c l'
      cases h
      obtain ⟨h1, h2⟩ := hl 0 c rfl
      refine ⟨vals 0, run_loadVar_one ht (by simpa using h1), .cell _ _ _ _ ?_⟩
      cases hr : refC c.c with
      | false => exact h2.plain hr
      | true => rw [Bool.and_true]; exact h2
    · cases h
  · cases h

theorem run_load_ptr {t : TypeId} {x : Operand} (ho : o.op = .load t x) {g off : Nat} (hx : a.eval x = .pointer (some ⟨g, off, none⟩)) {u : Value} {w' : World}
    (h : (loadVar t ⟨g, off, none⟩).run E.P w = .ok u w') : (execOp a.eval o).run E.P w = .ok (.value u) w' := by
  unfold execOp
  rw [ho]
  simp only [hx, Instr.loadAt, Instr.sureAddr, Sem.run_bind, Sem.run_pure, Result.andThen_ok, h]

theorem likes_at {c : CT} : ∀ {l : List Cell} {ys : List c.T}, likes c l = some ys → ∀ (j : Nat) z, ys[j]? = some z → l[j]? = some ⟨c, z⟩ := by
  intro l
  induction l with
  | nil => intro ys h j z hj; cases h; cases j <;> cases hj
  | cons x l ih =>
    intro ys h j z hj
    unfold likes at h
    split at h
    · rename_i q hq
      split at h
      · rename_i r hr
        cases h
        cases j with
        | zero => simp only [List.getElem?_cons_zero, Option.some.injEq] at hj; subst hj; rw [List.getElem?_cons_zero, ← castC_some hq]
        | succ j => simpa using ih hr j z (by simpa using hj)
      · cases h
    · cases h

theorem arrK_sound {l : List Cell} {i : Int} {kt : Cell → Option ρ} (h : arrK l i kt = some y) :
    ∃ c, 0 ≤ i ∧ l[i.toNat]? = some c ∧ (∀ (ρ' : Type) (kt' : Cell → Option ρ'), arrK l i kt' = kt' c) ∧ kt c = some y := by
  unfold arrK at h
  split at h
  · cases h
  · rename_i x l'
    split at h
    · rename_i ys hys
      obtain ⟨z, hz, hk⟩ := Option.bind_eq_some_iff.mp h
      have hz' := hz
      unfold idx at hz
      split at hz
      · rename_i h0
        refine ⟨⟨x.c, z⟩, h0, likes_at hys _ _ hz, fun ρ' kt' => ?_, hk⟩
        show (match likes x.c (x :: l') with | some ys => (idx ys i).bind fun y => kt' ⟨x.c, y⟩ | none => none) = _
        rw [hys]; show ((idx ys i).bind fun y => kt' ⟨x.c, y⟩) = _; rw [hz']; rfl
      · cases hz
    · cases h

theorem boxAt_cell {r : Nat} {l : List BCell} (hb : BoxAt w G r l) : ∃ (g : Nat) (vs : List Value), G.base r = some g ∧ vs.length = l.length ∧ (∀ (j : Nat) v, vs[j]? = some v → w.cell? ⟨g, j, none⟩ = some v ∧ w.frozen? ⟨g, j, none⟩ = false) ∧
    ∀ (j : Nat) b v, l[j]? = some b → vs[j]? = some v → RepB w G b v := by
  obtain ⟨g, vs, e, _, h2, _, h4, h5, h6⟩ := hb
  exact ⟨g, vs, h2, h5, fun j v hj => ⟨by rw [cell_of_block h4]; simpa using hj, frozen_of_block h4⟩, h6⟩

theorem does_load (A : At E C d o.dst w a s G) (t : TypeId) (x : Operand) (ho : o.op = .load t x)
    (h : loadK E t s (ev E s 0 x) kt = some y) : Does E.P C d o w a s G (fun kt => loadK E t s (ev E s 0 x) kt) := by
  have hx := ev_rep A.inv E 0 x
  have M := A.inv.mem
  unfold loadK at h
  split at h
  · -- a box
    rename_i r off hc
    rw [hc] at hx
    generalize hu : a.eval x = u at hx
    cases hx with
    | ptr _ _ g hus hb =>
    split at h
    · rename_i ht
      split at h
      · rename_i l ws hf
        split at h
        · rename_i v hv
          -- the block, if there is one
          have hblk : ∃ vs : List Value, vs.length = (s.bx r).length ∧ (∀ (j : Nat) v, vs[j]? = some v → w.cell? ⟨g, j, none⟩ = some v) ∧ ∀ (j : Nat) b v, (s.bx r)[j]? = some b → vs[j]? = some v → RepB w G b v := by
            by_cases he : s.bx r = []
            · exact ⟨[], by rw [he]; rfl, fun j v h => absurd h (by simp), fun j b v h => absurd h (by rw [he]; simp)⟩
            · obtain ⟨g', vs, h1, h2, h3, h4⟩ := boxAt_cell (M.boxes r he)
              rw [hb] at h1; cases h1
              exact ⟨vs, h2, fun j v hj => (h3 j v hj).1, h4⟩
          obtain ⟨vs, hlen, hcell, hrep⟩ := hblk
          obtain ⟨G', he, hused, M', hml, hm⟩ := froz_sound (C := C) (w := w) (((s.bx r).drop off).take (sizeT E.P t)) s G l ws ((vs.drop off).take (sizeT E.P t)) M hf (by
            intro j b v h1 h2
            have hjn : j < sizeT E.P t := by have := (List.getElem?_eq_some_iff.mp h1).1; simp at this; omega
            rw [List.getElem?_take_of_lt hjn, List.getElem?_drop] at h1 h2
            exact hrep _ b v h1 h2)
          unfold pickB at hv
          rw [ht] at hv
          cases hble : Nat.ble (sizeT E.P t) l.length with
          | false => simp only [hble] at hv; cases hv
          | true =>
            simp only [hble, cond_true] at hv
            cases hv
            have hge : sizeT E.P t ≤ l.length := Nat.le_of_ble_eq_true hble
            have hle : l.length ≤ sizeT E.P t := by rw [hml]; simp; omega
            have htake : l.take (sizeT E.P t) = l := List.take_of_length_le hle
            have hvl : ((vs.drop off).take (sizeT E.P t)).length = sizeT E.P t := by
              have : l.length = (((s.bx r).drop off).take (sizeT E.P t)).length := hml
              simp only [List.length_take, List.length_drop] at this ⊢
              rw [hlen]; omega
            have hrun : (loadVar t ⟨g, off, none⟩).run E.P w = .ok (.agg ⟨(vs.drop off).take (sizeT E.P t)⟩) w := run_loadVar_agg ht hvl (fun j v hj => by
              have hjn : j < sizeT E.P t := by have := (List.getElem?_eq_some_iff.mp hj).1; rw [hvl] at this; exact this
              rw [List.getElem?_take_of_lt hjn, List.getElem?_drop] at hj
              exact hcell _ v hj)
            refine ⟨.agg l, ws, fun ρ kt => ?_, goes_run A.inv A.hnt A.hd _ (run_load_ptr ho hu hrun) (.inl rfl) (Step.refl w (fun _ => False)) (fun _ e => e.elim) he M' (.agg l _ (by rw [hvl]; omega) hm) (fun r h => .inl (hused r h))⟩
            dsimp only
            unfold loadK
            rw [hc]
            simp only [ht, hf]
            unfold pickB
            simp only [ht, hble, cond_true, htake]
        · cases h
      · cases h
    · rename_i ht
      split at h
      · rename_i v hv
        have hv' := hv
        unfold pickB at hv
        rw [ht] at hv
        have same : Same (fun kt => loadK E t s (ev E s 0 x) kt) v [] := fun ρ kt => by
          dsimp only; unfold loadK; rw [hc]; simp only [ht, hv']
        have hne : (s.bx r).drop off ≠ [] := by intro e; rw [e] at hv; cases hv
        have hbx : s.bx r ≠ [] := by intro e; rw [e] at hne; simp at hne
        obtain ⟨g', vs, h1, h2, h3, h4⟩ := boxAt_cell (M.boxes r hbx)
        rw [hb] at h1; cases h1
        have hoff : off < (s.bx r).length := by
          rcases Nat.lt_or_ge off (s.bx r).length with h' | h'
          · exact h'
          · exact absurd (List.drop_of_length_le h') hne
        have hoff' : off < vs.length := by rw [h2]; exact hoff
        obtain ⟨hcell, _⟩ := h3 off vs[off] (List.getElem?_eq_getElem hoff')
        have hrun := run_load_ptr (E := E) ho hu (run_loadVar_one (P := E.P) ht hcell)
        have hB : ∀ b l', (s.bx r).drop off = b :: l' → RepB w G b vs[off] := by
          intro b l' e
          have : (s.bx r)[off]? = some b := by
            have e2 : ((s.bx r).drop off)[0]? = some b := by rw [e]; rfl
            rw [List.getElem?_drop] at e2; simpa using e2
          exact h4 off b _ this (List.getElem?_eq_getElem hoff')
        dsimp only at hv
        split at hv
        · rename_i c l' e
          cases hv
          exact does_val A same hrun (.cell _ _ _ _ (hB _ _ e))
        · rename_i c l' e
          cases hv
          have := hB _ _ e
          rw [this.1] at hrun
          exact does_val A same hrun (.nilS _ this.2)
        · rename_i p l' e
          cases hv
          have := hB _ _ e
          rw [this.1] at hrun
          exact does_val A same hrun (.own p this.2)
        · cases hv
      · cases h
    · cases h
  · -- an element of an array in a box
    rename_i r off i n hc
    rw [hc] at hx
    generalize hu : a.eval x = u at hx
    cases hx with
    | dptr _ _ _ _ g hus hb h0 h1 =>
    split at h
    · rename_i ht
      split at h
      · rename_i l hl
        obtain ⟨c, _, hci, hsame, hk⟩ := arrK_sound h
        cases hr : refC c.c with
        | true => rw [hr] at hk; cases hk
        | false =>
          obtain ⟨hll, hlr⟩ := plainB_at (w := w) (G := G) hl
          have hi : i.toNat < l.length := (List.getElem?_eq_some_iff.mp hci).1
          have hi2 : i.toNat < n ∧ off + i.toNat < (s.bx r).length := by
            rw [hll] at hi; simp at hi; omega
          have hbx : s.bx r ≠ [] := by intro e; rw [e] at hi2; simp at hi2
          obtain ⟨g', vs, e1, e2, e3, e4⟩ := boxAt_cell (M.boxes r hbx)
          rw [hb] at e1; cases e1
          have hlt : off + i.toNat < vs.length := by rw [e2]; exact hi2.2
          have hcell := (e3 _ _ (List.getElem?_eq_getElem hlt)).1
          have hrun := run_load_ptr (E := E) ho hu (run_loadVar_one (P := E.P) ht hcell)
          refine does_val A (fun ρ kt => ?_) hrun (.cell c.c c.x false _ (hlr i.toNat c _ hci fun b hb' => ?_))
          · dsimp only; unfold loadK; rw [hc]; simp only [ht, hl]; rw [hsame, hr]; rfl
          · rw [List.getElem?_take_of_lt hi2.1, List.getElem?_drop] at hb'
            exact e4 _ b _ hb' (List.getElem?_eq_getElem hlt)
      · cases h
    · cases h
  · -- an element of a snapshot
    rename_i l bw hc
    rw [hc] at hx
    generalize hu : a.eval x = u at hx
    cases hx with
    | eptr _ _ g o' vals hl =>
    split at h
    · rename_i v hv
      obtain ⟨u, hrun, hrep⟩ := pickC_rep (w := w) (G := G) (fun j x hj => ⟨(hl j x hj).1, (hl j x hj).2.2⟩) hv
      exact does_val A (fun ρ kt => by dsimp only; unfold loadK; rw [hc]; simp only [hv]) (run_load_ptr ho hu hrun) hrep
    · cases h
  · -- an element of an owned slice
    rename_i p i off hc
    rw [hc] at hx
    generalize hu : a.eval x = u at hx
    cases hx with
    | optr _ _ _ g n cap sz hus hb h0 h1 hsz =>
    split at h
    · rename_i e c hp
      obtain ⟨els, l, he, _, hl, hsame, hk⟩ := slK_sound h
      split at hk
      · rename_i v hv
        obtain ⟨_, hown⟩ := M.lives p e c hp
        have hes : G.esz p = esize c.c := (by obtain ⟨_, _, _, _, _, _, q, _⟩ := hown; exact q)
        obtain ⟨els', he', vals, hr, hblk⟩ := hown.read
        have ee : els' = els := Option.some.inj (he'.symm.trans he)
        subst ee
        rcases hblk with ⟨hv0, _⟩ | ⟨g', cap', cur, hv0, _, _, hg, _, hcur⟩
        · rw [hb] at hv0; cases hv0
        · rw [hb] at hv0; cases hv0
          obtain ⟨u, hrun, hrep⟩ := pickC_rep (P := E.P) (w := w) (G := G) (bw := false) (g := g) (o := i.toNat * sz + off) (vals := fun j => vals i.toNat (off + j)) (l := l.drop off) (t := t) (v := v)
            (fun j x hj => by
              rw [List.getElem?_drop] at hj
              refine ⟨?_, hr _ _ _ _ hl hj⟩
              rw [cell_of_block hg, ← hcur _ _ _ _ hl hj, ← hes, hsz, Nat.add_assoc]) hv
          exact does_val A (fun ρ kt => by dsimp only; unfold loadK; rw [hc]; simp only [hp]; rw [hsame]; simp only [hv]) (run_load_ptr ho hu hrun) hrep
      · cases hk
    · cases h
  · cases h

end

end Go.Proofs.Ytoifbdaaiejbnaa.D
/- Addresses, parts, lengths. -/
namespace Go.Proofs.Ytoifbdaaiejbnaa.D
open Go

section
variable {E : Bs} {C : Ctx} {d : Nat} {w : World} {a : Act} {s : S} {G : Gh} {o : Oper} {ρ : Type} {kt : Kt ρ} {y : ρ}

theorem run_fieldAt {P : Program} {t : TypeId} {f p : Nat} {u : TypeId} (h : fieldOff P t f = some (p, u)) (g off : Nat) :
    (Instr.fieldAt t (.pointer (some ⟨g, off, none⟩)) f).run P w = .ok (.pointer (some ⟨g, off + p, none⟩)) w := by
  unfold fieldOff at h
  split at h
  · rename_i fs hu
    split at h
    · rename_i fl hf
      split at h
      · rename_i i hi
        cases hb : Nat.blt 0 i.size with
        | false => rw [hb] at h; cases h
        | true =>
          rw [hb] at h
          cases h
          have hpos : i.size ≠ 0 := by have := Nat.blt_eq.mp hb; omega
          simp only [Instr.fieldAt, Instr.sureAddr, fieldPlace, sizeOf, typeInfo, Sem.run_bind, run_underlying hu, Result.andThen_ok, hf, Sem.run_pure, run_program, hi, hpos, Sem.run_ite, if_false, add_addr]
      · cases h
    · cases h
  · cases h

theorem does_fieldAddr (A : At E C d o.dst w a s G) (t : TypeId) (x : Operand) (f : Nat) (ho : o.op = .fieldAddr t x f)
    (h : fieldAddrK E t (ev E s 0 x) f kt = some y) : Does E.P C d o w a s G (fun kt => fieldAddrK E t (ev E s 0 x) f kt) := by
  have hx := ev_rep A.inv E 0 x
  unfold fieldAddrK at h
  split at h
  · rename_i p u hf
    have run : ∀ g off, a.eval x = .pointer (some ⟨g, off, none⟩) → (execOp a.eval o).run E.P w = .ok (.value (.pointer (some ⟨g, off + p, none⟩))) w := by
      intro g off hg; unfold execOp; rw [ho]; simp only [hg, Sem.run_bind, run_fieldAt hf, Result.andThen_ok, Sem.run_pure]
    generalize hu : a.eval x = u at hx run
    split at h
    · rename_i r off hc
      rw [hc] at hx
      cases hx with
      | ptr _ _ g hus hb => exact does_val A (fun ρ kt => by dsimp only; unfold fieldAddrK; simp only [hf, hc]) (run _ _ rfl) (.ptr r (off + p) g hus hb)
    · rename_i l bw hc
      rw [hc] at hx
      cases hx with
      | eptr _ _ g o' vals hl =>
        refine does_val A (fun ρ kt => by dsimp only; unfold fieldAddrK; simp only [hf, hc]) (run _ _ rfl) (.eptr (l.drop p) bw g (o' + p) (fun j => vals (p + j)) fun j z hj => ?_)
        rw [List.getElem?_drop] at hj
        have := hl _ _ hj
        rw [Nat.add_assoc]; exact this
    · rename_i q i off hc
      rw [hc] at hx
      cases hx with
      | optr _ _ _ g n cap sz hus hb h0 h1 hsz =>
        have r := run _ _ rfl
        rw [Nat.add_assoc] at r
        exact does_val A (fun ρ kt => by dsimp only; unfold fieldAddrK; simp only [hf, hc]) r (.optr q i (off + p) g n cap sz hus hb h0 h1 hsz)
    · cases h
  · cases h

theorem does_extract (A : At E C d o.dst w a s G) (x : Operand) (i : Nat) (ho : o.op = .extract x i)
    (h : extractK (ev E s 0 x) i kt = some y) : Does E.P C d o w a s G (fun kt => extractK (ev E s 0 x) i kt) := by
  have hx := ev_rep A.inv E 0 x
  unfold extractK at h
  split at h
  · rename_i l hc
    rw [hc] at hx
    generalize hu : a.eval x = u at hx
    cases hx with
    | tup _ vs hl hv =>
    split at h
    · rename_i v hi
      have hlt : i < vs.length := by rw [hl]; exact (List.getElem?_eq_some_iff.mp hi).1
      refine does_val A (u := vs[i]) (fun ρ kt => by dsimp only; unfold extractK; simp only [hc, hi]) ?_ (hv i v _ hi (List.getElem?_eq_getElem hlt))
      have : (⟨vs⟩ : Array Value)[i]? = some vs[i] := by simp [hlt]
      unfold execOp; rw [ho]; simp only [hu, Instr.extract, this, Sem.run_bind, Sem.run_pure, Result.andThen_ok]
    · cases h
  · cases h

theorem caps_rep (A : At E C d o.dst w a s G) (l : List Operand) : RepV w G (.fn 0 (l.map (ev E s 0))) (.func (.func 0) #[] ⟨l.map a.eval⟩) := by
  refine .fn 0 _ _ (by simp) fun j x v h1 h2 => ?_
  rw [List.getElem?_map] at h1 h2
  obtain ⟨q, hq, rfl⟩ := Option.map_eq_some_iff.mp h1
  rw [hq] at h2
  cases h2
  exact ev_rep A.inv E 0 q

theorem does_func (A : At E C d o.dst w a s G) (fn : Fn) (first caps : Array Operand) (ho : o.op = .makeFunc fn first caps)
    (h : funcK E s fn first.toList caps.toList kt = some y) : Does E.P C d o w a s G (fun kt => funcK E s fn first.toList caps.toList kt) := by
  unfold funcK at h
  split at h
  · rename_i f hf
    obtain ⟨fl⟩ := first
    simp only at hf
    subst hf
    refine does_val A (u := .func (.func f) #[] ⟨caps.toList.map a.eval⟩) (fun ρ kt => rfl) ?_ ?_
    · unfold execOp; rw [ho]
      have : caps.map a.eval = ⟨caps.toList.map a.eval⟩ := by apply Array.ext'; simp
      have e0 : (⟨[]⟩ : Array Operand).map a.eval = #[] := by apply Array.ext'; simp
      simp only [Instr.makeFunc, this, e0, Sem.run_bind, Sem.run_pure, Result.andThen_ok]
    · have := caps_rep A caps.toList
      cases this with
      | fn _ _ _ hl hv => exact .fn f _ _ hl hv
  · cases h

theorem pickB_rep {P : Program} {t : TypeId} {l : List BCell} {vs : List Value} {v : Val} (p : Nat) (hl : vs.length = l.length)
    (hv : ∀ (j : Nat) b v, l[j]? = some b → vs[j]? = some v → RepB w G b v ∧ hard b) (h : pickB P t (l.drop p) = some v) :
    ∃ u, (part t ⟨vs⟩ p).run P w = .ok u w ∧ RepV w G v u := by
  unfold pickB at h
  split at h
  · rename_i ht
    cases hble : Nat.ble (sizeT P t) (l.drop p).length with
    | false => rw [hble] at h; cases h
    | true =>
      rw [hble] at h
      cases h
      have hge := Nat.le_of_ble_eq_true hble
      rw [List.length_drop] at hge
      have e : (⟨vs⟩ : Array Value).extract p (p + sizeT P t) = ⟨(vs.drop p).take (sizeT P t)⟩ := by
        apply Array.ext'
        simp [List.drop_take]
      refine ⟨.agg ⟨(vs.drop p).take (sizeT P t)⟩, ?_, .agg _ _ (by simp [hl]) fun j b v h1 h2 => ?_⟩
      · simp only [part, Sem.run_bind, run_isAgg ht, Result.andThen_ok, if_true, run_sizeOf ht, Sem.run_pure, e]
      · have hjn : j < sizeT P t := by have := (List.getElem?_eq_some_iff.mp h1).1; simp at this; omega
        rw [List.getElem?_take_of_lt hjn, List.getElem?_drop] at h1 h2
        exact hv _ _ _ h1 h2
  · rename_i ht
    have key : ∀ b l', l.drop p = b :: l' → ∃ u, (part t ⟨vs⟩ p).run P w = .ok u w ∧ RepB w G b u ∧ hard b := by
      intro b l' e
      have hb : l[p]? = some b := by
        have e2 : (l.drop p)[0]? = some b := by rw [e]; rfl
        rw [List.getElem?_drop] at e2; simpa using e2
      have hlt : p < vs.length := by rw [hl]; exact (List.getElem?_eq_some_iff.mp hb).1
      have e3 : (⟨vs⟩ : Array Value)[p]? = some vs[p] := by simp [hlt]
      refine ⟨vs[p], ?_, hv p b _ hb (List.getElem?_eq_getElem hlt)⟩
      simp only [part, Sem.run_bind, run_isAgg ht, Result.andThen_ok, Bool.false_eq_true, if_false, e3, Sem.run_pure]
    split at h
    · rename_i c l' e
      cases h
      obtain ⟨u, h1, h2, _⟩ := key _ _ e
      exact ⟨u, h1, .cell _ _ _ _ h2⟩
    · rename_i c l' e
      cases h
      obtain ⟨u, h1, h2, _⟩ := key _ _ e
      refine ⟨u, h1, ?_⟩
      rw [h2.1]; exact .nilS _ h2.2
    · rename_i q l' e
      obtain ⟨u, _, _, h3⟩ := key _ _ e
      exact h3.elim
    · cases h
  · cases h

theorem does_field (A : At E C d o.dst w a s G) (t : TypeId) (x : Operand) (f : Nat) (ho : o.op = .field t x f)
    (h : fieldK E t (ev E s t x) f kt = some y) : Does E.P C d o w a s G (fun kt => fieldK E t (ev E s t x) f kt) := by
  have hx := ev_rep A.inv E t x
  unfold fieldK at h
  split at h
  · rename_i p u l hf hc
    rw [hc] at hx
    generalize hu : a.eval x = u' at hx
    cases hx with
    | agg _ vs hl hv =>
    split at h
    · rename_i v hp
      obtain ⟨q, hrun, hrep⟩ := pickB_rep (P := E.P) (w := w) (G := G) p hl hv hp
      refine does_val A (fun ρ kt => by dsimp only; unfold fieldK; simp only [hf, hc, hp]) ?_ hrep
      unfold fieldOff at hf
      split at hf
      · rename_i fs hs
        split at hf
        · rename_i fl hfl
          split at hf
          · rename_i i hi
            cases hb : Nat.blt 0 i.size with
            | false => rw [hb] at hf; cases hf
            | true =>
              rw [hb] at hf
              cases hf
              unfold execOp; rw [ho]
              simp only [Instr.field, Sem.run_bind, run_underlying hs, Result.andThen_ok, hfl, hu, asAgg, Sem.run_pure, hrun]
          · cases hf
        · cases hf
      · cases hf
    · cases h
  · cases h

theorem run_indexAt_slice {P : Program} {t : TypeId} {c : CT} (hok : okS P t c = true) {b : Option Addr} {n cap : Nat} {k : IntKind} {i : Int} {g off : Nat} (h0 : 0 ≤ i) (h1 : i < n) (hb : b = some ⟨g, off, none⟩) :
    (Instr.indexAt t (.slice b n cap) (.int k i)).run P w = .ok (.pointer (some ⟨g, off + i.toNat * esize c, none⟩)) w := by
  subst hb
  unfold okS at hok
  split at hok
  · rename_i e hu
    split at hok
    · rename_i inf hi
      simp only [Bool.and_eq_true] at hok
      have hs : inf.size = esize c := Nat.eq_of_beq_eq_true hok.1
      simp only [Instr.indexAt, asIntOf, sizeOf, typeInfo, Sem.run_bind, Sem.run_pure, Result.andThen_ok, run_underlying hu, run_program, hi, h0, h1, and_self, if_true, hs, add_addr]
    · cases hok
  · cases hok

theorem does_indexAddr (A : At E C d o.dst w a s G) (t : TypeId) (x i : Operand) (ho : o.op = .indexAddr t x i)
    (h : indexK E t s (ev E s t x) (ev E s 3 i) kt = some y) : Does E.P C d o w a s G (fun kt => indexK E t s (ev E s t x) (ev E s 3 i) kt) := by
  have hx0 := ev_rep A.inv E t x
  have hx := res_rep A.inv hx0
  have hi := ev_rep A.inv E 3 i
  have M := A.inv.mem
  unfold indexK at h
  split at h
  · rename_i k n bw hic
    change Int at n
    have hin := rep_int hic hi
    generalize hu : a.eval x = u at hx hx0
    have run : ∀ q, (Instr.indexAt t u (.int k n)).run E.P w = .ok q w → (execOp a.eval o).run E.P w = .ok (.value q) w := by
      intro q hq; unfold execOp; rw [ho]; simp only [hu, hin, Sem.run_bind, hq, Result.andThen_ok, Sem.run_pure]
    split at h
    · rename_i r off hc
      rw [hc] at hx
      split at h
      · rename_i m e ht
        cases hsz : Nat.beq (sizeT E.P e) 1 with
        | false => rw [hsz] at h; cases h
        | true =>
          rw [hsz] at h
          cases hin' : inB m n with
          | false => rw [hin'] at h; cases h
          | true =>
            have hb2 := hin'
            unfold inB at hb2
            simp only [Bool.and_eq_true, decide_eq_true_eq] at hb2
            have hs1 : sizeT E.P e = 1 := Nat.eq_of_beq_eq_true hsz
            cases hx with
            | ptr _ _ g hus hb =>
            refine does_val A (fun ρ kt => by dsimp only; unfold indexK; simp only [hic, hc, ht, hsz, hin', cond_true]) (run _ ?_) (.dptr r off n m g hus hb hb2.1 hb2.2)
            have hinfo : ∃ inf, E.P.info? e = some inf ∧ inf.size = 1 := by
              unfold sizeT Program.cellsOf at hs1
              cases hq : E.P.info? e with
              | none => rw [hq] at hs1; cases hs1
              | some inf => rw [hq] at hs1; exact ⟨inf, rfl, hs1⟩
            obtain ⟨inf, hinf, hi1⟩ := hinfo
            simp only [Instr.indexAt, asIntOf, Instr.sureAddr, sizeOf, typeInfo, Sem.run_bind, Sem.run_pure, Result.andThen_ok, run_underlying ht, run_program, hinf, hb2.1, hb2.2, and_self, if_true, hi1, add_addr, Nat.mul_one]
      · cases h
    · rename_i c x' bw' hc
      rw [hc] at hx
      cases hok : okS E.P t c with
      | false => rw [hok] at h; cases h
      | true =>
        rw [hok] at h
        simp only [cond_true] at h
        obtain ⟨els, l, he, h0, hl, hsame, _⟩ := slK_sound h
        cases hx with
        | cell _ _ _ _ hr =>
        obtain ⟨b, cap, g, off, vals, hu', hcap, hb, hcell, hrc⟩ := hr.sl_inv he
        have hne : els ≠ [] := by intro e; rw [e] at hl; simp at hl
        have hlt : n.toNat < els.length := (List.getElem?_eq_some_iff.mp hl).1
        have hn : n < els.length := by omega
        subst hu'
        refine does_val A (fun ρ kt => by dsimp only; unfold indexK; simp only [hic, hc, hok, cond_true]; exact hsame _ _) (run _ (run_indexAt_slice hok h0 hn (hb hne)))
          (.eptr l bw' g (off + n.toNat * esize c) (fun j => vals n.toNat j) fun j z hj => ?_)
        have := hcell n.toNat j l z hl hj
        rw [Nat.add_assoc]
        exact ⟨this.1, this.2, hrc n.toNat j l z hl hj⟩
    · rename_i p hc
      rw [hc] at hx
      split at h
      · rename_i e c hp
        cases hok : okS E.P t c.c with
        | false => rw [hok] at h; cases h
        | true =>
          rw [hok] at h
          simp only [cond_true] at h
          split at h
          · rename_i len hlen
            cases hin' : inB len n with
            | false => rw [hin'] at h; cases h
            | true =>
              have hb2 := hin'
              unfold inB at hb2
              simp only [Bool.and_eq_true, decide_eq_true_eq] at hb2
              obtain ⟨hus, hown⟩ := M.lives p e c hp
              have hes : G.esz p = esize c.c := by obtain ⟨_, _, _, _, _, _, q, _⟩ := hown; exact q
              obtain ⟨els, he, vals, hr, hblk⟩ := hown.read
              have hll := slLen_elems he hlen
              cases hx with
              | own _ _ =>
              rcases hblk with ⟨_, hn0⟩ | ⟨g, cap, cur, hv0, _, _, hg, _, hcur⟩
              · subst hn0; rw [hll] at hb2; simp at hb2; omega
              · refine does_val A (fun ρ kt => by dsimp only; unfold indexK; simp only [hic, hc, hp, hok, hlen, hin', cond_true]) (run _ ?_) (.optr p n 0 g els.length cap (esize c.c) hus hv0 hb2.1 (by rw [← hll]; exact hb2.2) hes)
                rw [hv0, Nat.add_zero]
                have := run_indexAt_slice (P := E.P) (w := w) hok (n := els.length) (cap := cap) (k := k) hb2.1 (by rw [← hll]; exact hb2.2) (g := g) (off := 0) rfl
                rw [Nat.zero_add] at this; exact this
          · cases h
      · cases h
    · cases h
  · cases h

theorem does_index (A : At E C d o.dst w a s G) (t : TypeId) (x i : Operand) (ho : o.op = .index t x i)
    (h : indexVK E.P t (ev E s t x) (ev E s 3 i) kt = some y) : Does E.P C d o w a s G (fun kt => indexVK E.P t (ev E s t x) (ev E s 3 i) kt) := by
  have hx := ev_rep A.inv E t x
  have hi := ev_rep A.inv E 3 i
  unfold indexVK at h
  split at h
  · rename_i k n bw hic
    change Int at n
    have hin := rep_int hic hi
    generalize hu : a.eval x = u at hx
    have run : ∀ q, (Instr.index t u (.int k n)).run E.P w = .ok q w → (execOp a.eval o).run E.P w = .ok (.value q) w := by
      intro q hq; unfold execOp; rw [ho]; simp only [hu, hin, Sem.run_bind, hq, Result.andThen_ok, Sem.run_pure]
    split at h
    · rename_i l hc
      rw [hc] at hx
      split at h
      · rename_i m e ht
        cases hcond : (Nat.beq m l.length && Nat.beq (sizeT E.P e) 1) with
        | false => rw [hcond] at h; cases h
        | true =>
          rw [hcond] at h
          simp only [cond_true] at h
          have hcond' := hcond
          simp only [Bool.and_eq_true] at hcond'
          have hm := Nat.eq_of_beq_eq_true hcond'.1
          have hs1 := Nat.eq_of_beq_eq_true hcond'.2
          split at h
          · rename_i hagg
            split at h
            · rename_i l' hpl
              obtain ⟨c, h0, hci, hsame, hk⟩ := arrK_sound h
              cases hr : refC c.c with
              | true => rw [hr] at hk; cases hk
              | false =>
                cases hx with
                | agg _ vs hl hv =>
                obtain ⟨hpl1, hpl2⟩ := plainB_at (w := w) (G := G) hpl
                have hlt : n.toNat < l.length := by rw [← hpl1]; exact (List.getElem?_eq_some_iff.mp hci).1
                have hlt' : n.toNat < vs.length := by rw [hl]; exact hlt
                have hrep := hpl2 n.toNat c vs[n.toNat] hci fun b hb => (hv _ b _ hb (List.getElem?_eq_getElem hlt')).1
                have e3 : (⟨vs⟩ : Array Value)[n.toNat]? = some vs[n.toNat] := by simp [hlt']
                have hnm : n < (m : Int) := by rw [hm]; omega
                refine does_val A (fun ρ kt => ?_) (run vs[n.toNat] ?_) (.cell c.c c.x false _ hrep)
                · dsimp only; unfold indexVK; simp only [hic, hc, ht, hcond, hagg, hpl, cond_true]; rw [hsame, hr]; rfl
                · simp only [Instr.index, asIntOf, Sem.run_bind, Sem.run_pure, Result.andThen_ok, run_underlying ht, h0, hnm, and_self, if_true, run_sizeOf hagg, hs1, Nat.mul_one, part, run_isAgg hagg, Bool.false_eq_true, if_false, e3]
            · cases h
          · cases h
      · cases h
    · rename_i str bw' hc
      have hs := rep_str hc hx
      subst hs
      split at h
      · rename_i ht
        obtain ⟨b, hb, hk⟩ := Option.bind_eq_some_iff.mp h
        have hb' := hb
        unfold idx at hb
        split at hb
        · rename_i h0
          refine does_val A (v := int_ .u8 b.toNat) (u := .int .u8 b.toNat) (fun ρ kt => ?_) (run _ ?_) (.cell _ _ _ _ (.int _ _))
          · dsimp only; unfold indexVK; simp only [hic, hc, ht]; show ((idx (α := UInt8) str n).bind fun b => kt (int_ .u8 b.toNat) []) = _; rw [hb']; rfl
          · have e1 : (⟨⟨str⟩⟩ : ByteArray)[n.toNat]? = some b := by
              have hlt : n.toNat < List.length (α := UInt8) str := (List.getElem?_eq_some_iff.mp hb).1
              have e2 : (⟨⟨str⟩⟩ : ByteArray).size = List.length (α := UInt8) str := rfl
              rw [getElem?_pos _ _ (by rw [e2]; exact hlt)]
              have e3 := (List.getElem?_eq_some_iff.mp hb).2
              exact congrArg some e3
            simp only [Instr.index, asIntOf, Sem.run_bind, Sem.run_pure, Result.andThen_ok, run_underlying ht, h0, if_true, e1]
        · cases hb
      · cases h
    · cases h
  · cases h

end

end Go.Proofs.Ytoifbdaaiejbnaa.D
/- Slicing, lengths, the least and the greatest. -/
namespace Go.Proofs.Ytoifbdaaiejbnaa.D
open Go

section
variable {E : Bs} {C : Ctx} {d : Nat} {w : World} {a : Act} {s : S} {G : Gh} {o : Oper} {ρ : Type} {kt : Kt ρ} {y : ρ}

theorem bound_of (A : At E C d o.dst w a s G) {lo : Option Operand} {n : Nat} {l : Int} (h : natOf (lo.map (ev E s 3)) n = some l) :
    (lo = none ∧ l = n) ∨ ∃ k q, lo = some q ∧ a.eval q = .int k l := by
  cases lo with
  | none => exact .inl ⟨rfl, (Option.some.inj h).symm⟩
  | some q =>
    refine .inr ?_
    have h' : (match ev E s 3 q with | .cell (.int _) i _ => some i | _ => none) = some l := h
    split at h'
    · rename_i k i bw hc
      cases h'
      exact ⟨k, q, rfl, rep_int hc (ev_rep A.inv E 3 q)⟩
    · cases h'

theorem run_sliceBounds (isS : Bool) {P : Program} {len cap : Nat} {lo hi : Option Value} {l h : Int} (hl : (lo = none ∧ l = 0) ∨ ∃ k, lo = some (.int k l)) (hh : (hi = none ∧ h = len) ∨ ∃ k, hi = some (.int k h))
    (h0 : 0 ≤ l) (h1 : l ≤ h) (h2 : h ≤ len) (h3 : len ≤ cap) : (Instr.sliceBounds isS len cap lo hi none).run P w = .ok (l.toNat, h.toNat, cap) w := by
  have hh0 : 0 ≤ h := by omega
  have hhc : h ≤ (cap : Int) := by omega
  have hln : l ≤ (h.toNat : Int) := by omega
  rcases hl with ⟨rfl, rfl⟩ | ⟨k, rfl⟩ <;> rcases hh with ⟨rfl, rfl⟩ | ⟨k', rfl⟩ <;>
    (simp [Instr.sliceBounds, Instr.sliceBound, asIntOf, h0, hh0, hhc, hln] <;> (intro hlt; exfalso; omega))

theorem cut_rep {P : Program} {t : TypeId} {c : CT} {x : c.T} {Al : Nat → Prop} {u : Value} {lo hi : Option Value} {l h : Int} {z : c.T} {n : Nat}
    (ht : cutT P t c = true) (hx : RepC w Al ⟨c, x⟩ u) (hn : slLen c x = some n) (hz : slCut c x l.toNat h.toNat = some z)
    (hl : (lo = none ∧ l = 0) ∨ ∃ k, lo = some (.int k l)) (hh : (hi = none ∧ h = n) ∨ ∃ k, hi = some (.int k h))
    (h0 : 0 ≤ l) (h1 : l ≤ h) (h2 : h ≤ n) : ∃ u', (Instr.sliceAt t u lo hi none).run P w = .ok u' w ∧ RepC w Al ⟨c, z⟩ u' := by
  have slices : okS P t c = true → (∃ els, elems ⟨c, x⟩ = some els) → ∃ u', (Instr.sliceAt t u lo hi none).run P w = .ok u' w ∧ RepC w Al ⟨c, z⟩ u' := by
    rintro hok ⟨els, he⟩
    have hne := slLen_elems he hn
    obtain ⟨b, cap, g, off, vals, hu, hcap, hb, hcell, hr⟩ := hx.sl_inv he
    have hez := slCut_elems he hz
    unfold okS at hok
    split at hok
    · rename_i e hun
      split at hok
      · rename_i inf hi'
        simp only [Bool.and_eq_true] at hok
        have hsz : inf.size = esize c := Nat.eq_of_beq_eq_true hok.1
        have hbd := run_sliceBounds (P := P) (w := w) true (len := els.length) (cap := cap) hl (by rw [← hne]; exact hh) h0 h1 (by rw [← hne]; exact h2) hcap
        have hlen : ((els.take h.toNat).drop l.toNat).length = h.toNat - l.toNat := by
          simp only [List.length_drop, List.length_take]; omega
        refine ⟨.slice (if cap = l.toNat then b else b.map (·.add (l.toNat * esize c))) (h.toNat - l.toNat) (cap - l.toNat), ?_, ?_⟩
        · rw [hu]
          simp only [Instr.sliceAt, Instr.slice, Sem.run_bind, run_underlying hun, Result.andThen_ok, hbd, sizeOf, typeInfo, run_program, hi', Sem.run_pure, hsz]
        · rw [← hlen]
          refine .sl _ _ _ _ g (off + l.toNat * esize c) (fun i j => vals (l.toNat + i) j) hez ?_ ?_ ?_ ?_
          · rw [hlen]; omega
          · intro hne'
            have : 0 < ((els.take h.toNat).drop l.toNat).length := List.length_pos_iff.mpr hne'
            rw [hlen] at this
            have hcl : cap ≠ l.toNat := by omega
            have hels : els ≠ [] := by intro e; rw [e] at hne; simp at hne; omega
            rw [if_neg hcl, hb hels]
            show some ((⟨g, off, none⟩ : Addr).add _) = _
            rw [add_addr]
          · intro i j q p hi1 hj1
            rw [List.getElem?_drop] at hi1
            have hlt : l.toNat + i < h.toNat := by
              have := (List.getElem?_eq_some_iff.mp hi1).1; simp at this; omega
            rw [List.getElem?_take_of_lt hlt] at hi1
            have := hcell _ _ _ _ hi1 hj1
            refine ⟨?_, this.2⟩
            have e : off + l.toNat * esize c + (i * esize c + j) = off + ((l.toNat + i) * esize c + j) := by rw [Nat.add_mul]; omega
            rw [e]; exact this.1
          · intro i j q p hi1 hj1
            rw [List.getElem?_drop] at hi1
            have hlt : l.toNat + i < h.toNat := by
              have := (List.getElem?_eq_some_iff.mp hi1).1; simp at this; omega
            rw [List.getElem?_take_of_lt hlt] at hi1
            exact hr _ _ _ _ hi1 hj1
      · cases hok
    · cases hok
  cases c with
  | sl row => exact slices ht ⟨_, rfl⟩
  | pats => exact slices ht ⟨_, rfl⟩
  | str =>
    have hu := hx.str_inv
    change List UInt8 at x z
    have hn' : x.length = n := Option.some.inj hn
    have hz' : List.drop l.toNat (List.take h.toNat x) = z := Option.some.inj hz
    unfold cutT at ht
    simp only at ht
    split at ht
    · rename_i hun
      have hbd := run_sliceBounds (P := P) (w := w) false (len := x.length) (cap := x.length) hl (by rw [hn']; exact hh) h0 h1 (by rw [hn']; exact h2) (Nat.le_refl _)
      refine ⟨.string ⟨⟨z⟩⟩, ?_, .str z⟩
      have e1 : (⟨⟨x⟩⟩ : ByteArray).size = x.length := rfl
      have e2 : (⟨⟨x⟩⟩ : ByteArray).extract l.toNat h.toNat = ⟨⟨z⟩⟩ := by
        apply ByteArray.ext
        apply Array.ext'
        rw [← hz']
        simp [ByteArray.data_extract, List.drop_take]
      rw [hu]
      simp only [Instr.sliceAt, Instr.slice, Sem.run_bind, run_underlying hun, Result.andThen_ok, e1, hbd, Sem.run_pure, e2, Option.isSome_none, Bool.false_eq_true, if_false]
    · cases ht
  | int k => cases hn
  | bool => cases hn

theorem cutC_sound {c : CT} {x : c.T} {lo hi : Option Val} {kt : c.T → Option ρ} (h : cutC c x lo hi kt = some y) :
    ∃ n l q z, slLen c x = some n ∧ natOf lo 0 = some l ∧ natOf hi n = some q ∧ 0 ≤ l ∧ l ≤ q ∧ q ≤ n ∧ slCut c x l.toNat q.toNat = some z ∧ (∀ (ρ' : Type) (kt' : c.T → Option ρ'), cutC c x lo hi kt' = kt' z) ∧ kt z = some y := by
  unfold cutC at h
  split at h
  · rename_i n hn
    split at h
    · rename_i l q hl hq
      cases hb : (decide (0 ≤ l) && decide (l ≤ q) && decide (q ≤ (n : Int))) with
      | false => rw [hb] at h; cases h
      | true =>
        rw [hb] at h
        simp only [cond_true] at h
        split at h
        · rename_i z hz
          have hb' := hb
          simp only [Bool.and_eq_true, decide_eq_true_eq] at hb'
          refine ⟨n, l, q, z, hn, hl, hq, hb'.1.1, hb'.1.2, hb'.2, hz, fun ρ' kt' => ?_, h⟩
          unfold cutC
          simp only [hn, hl, hq, hb, cond_true, hz]
        · cases h
    · cases h
  · cases h

theorem does_slice (A : At E C d o.dst w a s G) (t : TypeId) (x : Operand) (lo hi mx : Option Operand) (ho : o.op = .slice t x lo hi mx)
    (h : slcK E s t x lo hi mx kt = some y) : Does E.P C d o w a s G (fun kt => slcK E s t x lo hi mx kt) := by
  have hx := rd_rep A.inv (ev_rep A.inv E t x)
  cases mx with
  | some m => cases h
  | none =>
  have h : cutK E.P t s (ev E s t x) (lo.map (ev E s 3)) (hi.map (ev E s 3)) kt = some y := h
  have run : ∀ u' w', (Instr.sliceAt t (a.eval x) (lo.map a.eval) (hi.map a.eval) none).run E.P w = .ok u' w' → (execOp a.eval o).run E.P w = .ok (.value u') w' := by
    intro u' w' hu; unfold execOp; rw [ho]; simp only [Option.map_none, Sem.run_bind, hu, Result.andThen_ok, Sem.run_pure]
  have bl : ∀ l, natOf (lo.map (ev E s 3)) 0 = some l → (lo.map a.eval = none ∧ l = 0) ∨ ∃ k, lo.map a.eval = some (.int k l) := by
    intro l hl
    rcases bound_of A hl with ⟨rfl, e⟩ | ⟨k, q, rfl, e⟩
    · exact .inl ⟨rfl, e⟩
    · exact .inr ⟨k, by rw [← e]; rfl⟩
  have bh : ∀ n q, natOf (hi.map (ev E s 3)) n = some q → (hi.map a.eval = none ∧ q = n) ∨ ∃ k, hi.map a.eval = some (.int k q) := by
    intro n q hq
    rcases bound_of A hq with ⟨rfl, e⟩ | ⟨k, q', rfl, e⟩
    · exact .inl ⟨rfl, e⟩
    · exact .inr ⟨k, by rw [← e]; rfl⟩
  unfold cutK at h
  split at h
  · rename_i c z bw hc
    rw [hc] at hx
    cases ht : cutT E.P t c with
    | false => rw [ht] at h; cases h
    | true =>
      rw [ht] at h
      simp only [cond_true] at h
      obtain ⟨n, l, q, z', hn, hl, hq, h0, h1, h2, hz, hsame, _⟩ := cutC_sound h
      generalize hu : a.eval x = u at hx run
      cases hx with
      | cell _ _ _ _ hr =>
      obtain ⟨u', hrun, hrep⟩ := cut_rep (P := E.P) ht hr hn hz (bl l hl) (bh n q hq) h0 h1 h2
      refine does_val A (fun ρ kt => ?_) (run u' w hrun) (.cell c z' bw u' hrep)
      dsimp only; unfold slcK cutK; simp only [hc, ht, cond_true]; exact hsame _ _
  · rename_i p hc
    rw [hc] at hx
    split at h
    · rename_i e c hp
      cases ht : cutT E.P t c.c with
      | false => rw [ht] at h; cases h
      | true =>
        rw [ht] at h
        simp only [cond_true] at h
        obtain ⟨n, l, q, z', hn, hl, hq, h0, h1, h2, hz, hsame, _⟩ := cutC_sound h
        obtain ⟨M', hr⟩ := mem_freeze A.inv.mem hp
        generalize hu : a.eval x = u at hx run
        cases hx with
        | own _ hus =>
        obtain ⟨u', hrun, hrep⟩ := cut_rep (P := E.P) ht hr hn hz (bl l hl) (bh n q hq) h0 h1 h2
        refine ⟨.cell c.c z' false, [.p p (.froz c)], fun ρ kt => ?_, goes_run A.inv A.hnt A.hd _ (run u' w hrun) (.inl rfl) (Step.refl w (fun _ => False)) (fun _ e => e.elim) (freeze_ext G p) M' (.cell _ _ _ _ hrep) (fun r h => .inl h)⟩
        dsimp only; unfold slcK cutK; simp only [hc, hp, ht, cond_true]; exact hsame _ _
    · cases h
  · cases h

/- calls of builtins -/
theorem run_builtin {c : Call} {b : Builtin} (ho : o.op = .call c) (hb : c.callee = .builtin b) (q : Value)
    (h : (builtin b c.argTypes o.type (c.args.map fun | .const _ => true | _ => false) (c.args.map a.eval)).run E.P w = .ok (.value q) w) :
    (execOp a.eval o).run E.P w = .ok (.value q) w := by
  unfold execOp
  rw [ho]
  simp only [resolve, hb, Sem.run_bind, Sem.run_pure, Result.andThen_ok, invoke]
  exact h

theorem run_builtin' {c : Call} {b : Builtin} (ho : o.op = .call c) (hb : c.callee = .builtin b) (q : Value) (w' : World)
    (h : (builtin b c.argTypes o.type (c.args.map fun | .const _ => true | _ => false) (c.args.map a.eval)).run E.P w = .ok (.value q) w') :
    (execOp a.eval o).run E.P w = .ok (.value q) w' := by
  unfold execOp
  rw [ho]
  simp only [resolve, hb, Sem.run_bind, Sem.run_pure, Result.andThen_ok, invoke]
  exact h

theorem argsV_one {l : List Operand} {ts : List TypeId} {x : Val} (h : argsV E s l ts = [x]) : ∃ q t, l = [q] ∧ x = ev E s t q := by
  cases l with
  | nil => cases h
  | cons q l =>
    cases ts with
    | nil => cases l with
      | nil => cases h; exact ⟨q, 0, rfl, rfl⟩
      | cons r l => cases h
    | cons t ts => cases l with
      | nil => cases h; exact ⟨q, t, rfl, rfl⟩
      | cons r l => cases ts <;> cases h

theorem argsV_two {l : List Operand} {ts : List TypeId} {x z : Val} (h : argsV E s l ts = [x, z]) : ∃ q r t u, l = [q, r] ∧ x = ev E s t q ∧ z = ev E s u r := by
  cases l with
  | nil => cases h
  | cons q l =>
    cases ts with
    | nil =>
      obtain ⟨h1, h2⟩ := List.cons.inj h
      obtain ⟨r, u, e1, e2⟩ := argsV_one h2
      subst e1
      exact ⟨q, r, 0, u, rfl, h1.symm, e2⟩
    | cons t ts =>
      obtain ⟨h1, h2⟩ := List.cons.inj h
      obtain ⟨r, u, e1, e2⟩ := argsV_one h2
      subst e1
      exact ⟨q, r, t, u, rfl, h1.symm, e2⟩

theorem len_rep {P : Program} {t : TypeId} {c : CT} {x : c.T} {Al : Nat → Prop} {u : Value} {n : Nat} {ts : List TypeId} {ty : TypeId} (ht : cutT P t c = true) (hx : RepC w Al ⟨c, x⟩ u) (hn : slLen c x = some n) :
    (Builtin.len_ ⟨t :: ts⟩ ty #[u]).run P w = .ok (.int .i64 n) w := by
  have slices : okS P t c = true → (∃ els, elems ⟨c, x⟩ = some els) → (Builtin.len_ ⟨t :: ts⟩ ty #[u]).run P w = .ok (.int .i64 n) w := by
    rintro hok ⟨els, he⟩
    obtain ⟨b, cap, g, off, vals, hu, _⟩ := hx.sl_inv he
    have hne := slLen_elems he hn
    unfold okS at hok
    split at hok
    · rename_i e hun
      subst hu
      simp [Builtin.len_, run_underlying hun, goInt, hne]
    · cases hok
  cases c with
  | sl row => exact slices ht ⟨_, rfl⟩
  | pats => exact slices ht ⟨_, rfl⟩
  | str =>
    have hu := hx.str_inv
    change List UInt8 at x
    have hn' : x.length = n := Option.some.inj hn
    unfold cutT at ht
    simp only at ht
    split at ht
    · rename_i hun
      have e1 : (⟨⟨x⟩⟩ : ByteArray).size = x.length := rfl
      subst hu
      simp [Builtin.len_, run_underlying hun, goInt, e1, hn']
    · cases ht
  | int k => cases hn
  | bool => cases hn

theorem does_len (A : At E C d o.dst w a s G) (c : Call) (ho : o.op = .call c) (hb : c.callee = .builtin .len) {t : TypeId} {ts : List TypeId} (hts : c.argTypes.toList = t :: ts) {x : Val} (has : argsV E s c.args.toList (t :: ts) = [x])
    (h : lenK E.P t s x kt = some y) : Does E.P C d o w a s G (fun kt => lenK E.P t s x kt) := by
  obtain ⟨q, t', hq, rfl⟩ := argsV_one has
  have hx := rd_rep A.inv (ev_rep A.inv E t' q)
  have run : ∀ n : Int, (Builtin.len_ ⟨t :: ts⟩ o.type #[a.eval q]).run E.P w = .ok (.int .i64 n) w → (execOp a.eval o).run E.P w = .ok (.value (.int .i64 n)) w := by
    intro n hn
    refine run_builtin ho hb _ ?_
    have e1 : c.args.map a.eval = #[a.eval q] := by apply Array.ext'; rw [Array.toList_map, hq]; rfl
    have e2 : c.argTypes = ⟨t :: ts⟩ := by apply Array.ext'; exact hts
    rw [e1, e2]
    simp only [builtin, Sem.run_bind, hn, Result.andThen_ok, Sem.run_pure]
  unfold lenK at h
  split at h
  · rename_i c' z bw hc
    rw [hc] at hx
    cases ht : cutT E.P t c' with
    | false => rw [ht] at h; cases h
    | true =>
      rw [ht] at h
      simp only [cond_true] at h
      split at h
      · rename_i n hn
        generalize a.eval q = u at hx run
        cases hx with
        | cell _ _ _ _ hr =>
        exact does_val A (v := int_ .i64 n) (fun ρ kt => by dsimp only; unfold lenK; simp only [hc, ht, cond_true, hn]) (run n (len_rep ht hr hn)) (.cell _ _ _ _ (.int _ _))
      · cases h
  · rename_i p hc
    rw [hc] at hx
    split at h
    · rename_i e c' hp
      cases ht : cutT E.P t c'.c with
      | false => rw [ht] at h; cases h
      | true =>
        rw [ht] at h
        simp only [cond_true] at h
        split at h
        · rename_i n hn
          obtain ⟨_, hr⟩ := mem_freeze A.inv.mem hp
          generalize a.eval q = u at hx run
          cases hx with
          | own _ hus =>
          exact does_val A (v := int_ .i64 n) (fun ρ kt => by dsimp only; unfold lenK; simp only [hc, hp, ht, cond_true, hn]) (run n (len_rep ht hr hn)) (.cell _ _ _ _ (.int _ _))
        · cases h
    · cases h
  · rename_i l hc
    split at h
    · rename_i n e ht
      refine does_val A (v := int_ .i64 n) (fun ρ kt => by dsimp only; unfold lenK; simp only [hc, ht]) (run n ?_) (.cell _ _ _ _ (.int _ _))
      simp [Builtin.len_, run_underlying ht, goInt]
    · cases h
  · cases h

theorem fold_sound (P : Program) (op : Int → Int → Int) (f : Value → Value → Sem Value) (hf : ∀ k x z k', (f (.int k x) (.int k' z)) = pure (.int k (op x z))) {ts : List TypeId} :
    ∀ (l : List Operand) (k : IntKind) (x : Int) (v : Val), (∀ q t, RepV w G (ev E s t q) (a.eval q)) → (∀ ts, foldK.go op k x (argsV E s l ts) = some v → ∃ n : Int, v = int_ k n ∧ ((l.map a.eval).foldlM f (.int k x)).run P w = .ok (.int k n) w) := by
  intro l
  induction l with
  | nil =>
    intro k x v _ ts h
    cases h
    exact ⟨x, rfl, rfl⟩
  | cons q l ih =>
    intro k x v hrep ts h
    have key : ∀ t ts, foldK.go op k x (ev E s t q :: argsV E s l ts) = some v → ∃ n : Int, v = int_ k n ∧ (((q :: l).map a.eval).foldlM f (.int k x)).run P w = .ok (.int k n) w := by
      intro t ts h
      unfold foldK.go at h
      split at h
      · rename_i e; cases e
      · rename_i k' z bw l' e
        change Int at z
        obtain ⟨e1, e2⟩ := List.cons.inj e
        subst e2
        have hz := rep_int e1 (hrep q t)
        obtain ⟨n, hn, hr⟩ := ih k (op x z) v hrep ts h
        refine ⟨n, hn, ?_⟩
        simp only [List.map_cons, List.foldlM_cons, hz, hf, Sem.run_bind, Sem.run_pure, Result.andThen_ok, hr]
      · cases h
    cases ts with
    | nil => exact key 0 [] h
    | cons t ts => exact key t ts h

theorem does_fold (A : At E C d o.dst w a s G) (c : Call) (ho : o.op = .call c) (b : Builtin) (hb : c.callee = .builtin b) (op : Int → Int → Int) (f : Value → Value → Sem Value)
    (hf : ∀ k x z k', (f (.int k x) (.int k' z)) = pure (.int k (op x z)))
    (hbf : ∀ ts ty cs (u : Value) (l : List Value), builtin b ts ty cs ⟨u :: l⟩ = (do pure (.value (← l.foldlM f u)) : Sem Next)) {ts : List TypeId} {v : Val}
    (h : foldK op (argsV E s c.args.toList ts) = some v) : ∃ u, (execOp a.eval o).run E.P w = .ok (.value u) w ∧ RepV w G v u := by
  have key : ∀ q l t ts, c.args.toList = q :: l → foldK op (ev E s t q :: argsV E s l ts) = some v → ∃ u, (execOp a.eval o).run E.P w = .ok (.value u) w ∧ RepV w G v u := by
    intro q l t ts hq h
    unfold foldK at h
    split at h
    · rename_i k x bw l' e
      change Int at x
      obtain ⟨e1, e2⟩ := List.cons.inj e
      subst e2
      have hz := rep_int e1 (ev_rep A.inv E t q)
      obtain ⟨n, rfl, hr⟩ := fold_sound (w := w) (G := G) (E := E) (s := s) (a := a) (ts := ts) E.P op f hf l k x v (fun q t => ev_rep A.inv E t q) ts h
      refine ⟨.int k n, run_builtin ho hb _ ?_, .cell _ _ _ _ (.int _ _)⟩
      have e1 : c.args.map a.eval = ⟨.int k x :: l.map a.eval⟩ := by apply Array.ext'; rw [Array.toList_map, hq, List.map_cons, hz]
      rw [e1, hbf]
      simp only [Sem.run_bind, hr, Result.andThen_ok, Sem.run_pure]
    · cases h
  cases hq : c.args.toList with
  | nil => rw [hq] at h; cases h
  | cons q l =>
    rw [hq] at h
    cases ts with
    | nil => exact key q l 0 [] hq h
    | cons t ts => exact key q l t ts hq h

end

end Go.Proofs.Ytoifbdaaiejbnaa.D
/- New boxes, stores. -/
namespace Go.Proofs.Ytoifbdaaiejbnaa.D
open Go

section
variable {E : Bs} {C : Ctx} {d : Nat} {w : World} {a : Act} {s : S} {G : Gh} {o : Oper} {ρ : Type} {kt : Kt ρ} {y : ρ}

def Gh.newBox (G : Gh) (d g : Nat) : Gh := { G with L := fun k => if k = g then .box d else G.L k, base := fun r => if r = d then some g else G.base r, used := fun r => G.used r ∨ r = d }

theorem newBox_ext {d g : Nat} (hd : ¬ G.used d) (hg : G.L g = .free) : Ext G (G.newBox d g) where
  st k h := by show (if k = g then _ else _) = _; rw [if_neg (fun e => by rw [e, hg] at h; cases h)]; exact h
  bo k h := by show (if k = g then _ else _) = _; rw [if_neg (fun e => by rw [e, hg] at h; cases h)]; exact h
  used r h := .inl h
  base r h := by show (if r = d then _ else _) = _; rw [if_neg (fun e => hd (by rw [← e]; exact h))]
  hv _ _ := rfl
  esz _ _ := rfl

theorem mem_newBox (M : Mem C.w0 C.L0 w s.bx s.pl G) (hd : ¬ G.used d) (vs : List Value) (l : List BCell) (t : TypeId) (hl : vs.length = l.length)
    (hv : ∀ (j : Nat) b v, l[j]? = some b → vs[j]? = some v → RepB w G b v) :
    Mem C.w0 C.L0 (w.alloc (.cells ⟨vs⟩ t)) (upd s.bx d l) s.pl (G.newBox d w.heap.size) := by
  have hfree : G.L w.heap.size = .free := M.fresh _ (Nat.le_refl _)
  have he := newBox_ext hd hfree
  have lab : ∀ g l, G.L g = l → l ≠ .free → (G.newBox d w.heap.size).L g = l := fun g l h hn => by
    show (if g = w.heap.size then _ else _) = _
    rw [if_neg (fun e => hn (by rw [← h, e, hfree]))]; exact h
  have hs : Step w (w.alloc (.cells ⟨vs⟩ t)) (fun _ => False) := Step.alloc w _ _
  refine M.step hs (fun _ e => e.elim) he ?_ ?_ ?_ ?_ ?_
  · intro r hr
    by_cases hrd : r = d
    · subst hrd
      rw [upd_same] at hr ⊢
      refine .inr ⟨w.heap.size, vs, t, .inr rfl, if_pos rfl, if_pos rfl, heap_alloc_new w _, hl, fun j b v h1 h2 => (hv j b v h1 h2).step hs (fun _ e => e.elim) he⟩
    · rw [upd_other _ _ _ _ hrd] at hr ⊢
      exact .inl ⟨rfl, fun g _ hL => ⟨fun e => e, lab g _ hL (by intro e; cases e)⟩⟩
  · intro p e c hp
    exact .inl ⟨hp, fun g _ hL => ⟨fun e => e, lab g _ hL (by intro e; cases e)⟩⟩
  · exact fun p c hp => .inl hp
  · intro g hg
    rw [World.size_alloc] at hg
    show (if g = w.heap.size then _ else _) = _
    rw [if_neg (by omega)]; exact M.fresh g (by omega)
  · intro g hg _
    have := M.kept.size
    show (if g = w.heap.size then _ else _) = _
    rw [if_neg (by omega)]

theorem goes_newBox (A : At E C d o.dst w a s G) (vs : List Value) (l : List BCell) (t : TypeId) (hl : vs.length = l.length)
    (hv : ∀ (j : Nat) b v, l[j]? = some b → vs[j]? = some v → RepB w G b v)
    (hr : (execOp a.eval o).run E.P w = .ok (.value (.pointer (some ⟨w.heap.size, 0, none⟩))) (w.alloc (.cells ⟨vs⟩ t))) : Goes E.P C d o w a s G (.ptr d 0) [.b d l] := by
  have M := A.inv.mem
  have hd : ¬ G.used d := A.free d (Nat.le_refl d) (by omega)
  refine goes_run A.inv A.hnt A.hd _ hr (.inl rfl) (Step.alloc w _ (fun _ => False)) (fun _ e => e.elim) (newBox_ext hd (M.fresh _ (Nat.le_refl _))) (mem_newBox M hd vs l t hl hv)
    (.ptr d 0 w.heap.size (.inr rfl) (if_pos rfl)) (fun r h => ?_)
  rcases h with h | rfl
  · exact .inl h
  · exact .inr ⟨Nat.le_refl _, by omega⟩

theorem zeroT_sound {P : Program} {pt t : TypeId} {l : List BCell} (h : zeroT P pt t = some l) :
    ∃ i z, P.info? t = some i ∧ i.zero = some z ∧ z.cells.toList.length = l.length ∧ ∀ (j : Nat) b v, l[j]? = some b → z.cells.toList[j]? = some v → RepB w G b v ∧ hard b := by
  unfold zeroT at h
  split at h
  · rename_i cs i _ hi
    split at h
    · rename_i z hz
      have h' := aggConst_rep (w := w) (G := G) _ _ _ h
      exact ⟨i, z, hi, hz, h'.1.symm, h'.2⟩
    · cases h
  · cases h

theorem does_alloc (A : At E C d o.dst w a s G) (t : TypeId) (ho : o.op = .alloc t) (h : allocK E d t kt = some y) : Does E.P C d o w a s G (fun kt => allocK E d t kt) := by
  unfold allocK at h
  split at h
  · rename_i l hl
    obtain ⟨i, z, hi, hz, hlen, hv⟩ := zeroT_sound (w := w) (G := G) hl
    refine ⟨_, _, fun ρ kt => by dsimp only; unfold allocK; simp only [hl], goes_newBox A z.cells.toList l t hlen (fun j b v h1 h2 => (hv j b v h1 h2).1) ?_⟩
    unfold execOp; rw [ho]
    simp [Instr.alloc, zeroValue, typeInfo, hi, hz, newVar, newRow]
  · cases h

theorem toB_rep (I : Inv C w a s G) {v : Val} {m : List BCell} {u : Value} (hu : RepV w G v u) (h : toB s v = some m) :
    u.cells.toList.length = m.length ∧ (∀ (j : Nat) b q, m[j]? = some b → u.cells.toList[j]? = some q → RepB w G b q) ∧ (∀ q ∈ u.cells.toList, q.oneCell' = true) := by
  have hr := res_rep I hu
  unfold toB at h
  have one : ∀ (b : BCell), u.cells.toList = [u] → RepB w G b u → u.oneCell' = true →
      u.cells.toList.length = [b].length ∧ (∀ (j : Nat) b' q, [b][j]? = some b' → u.cells.toList[j]? = some q → RepB w G b' q) ∧ (∀ q ∈ u.cells.toList, q.oneCell' = true) := by
    intro b hc hb h1
    rw [hc]
    refine ⟨rfl, fun j b' q h2 h3 => ?_, fun q hq => by rw [List.mem_singleton.mp hq]; exact h1⟩
    cases j with
    | zero => simp only [List.getElem?_cons_zero, Option.some.injEq] at h2 h3; subst h2; subst h3; exact hb
    | succ j => simp at h2
  have flat : u.oneCell' = true → u.cells.toList = [u] := by
    intro h; cases u <;> first | rfl | cases h
  split at h
  · rename_i c hc
    cases h
    rw [hc] at hr
    cases hr with
    | nilS _ hn => exact one _ rfl ⟨rfl, hn⟩ rfl
  · rename_i c x bw hc
    rw [hc] at hr
    cases hb : (bw && refC c) with
    | true => rw [hb] at h; cases h
    | false =>
      rw [hb] at h
      cases h
      cases hr with
      | cell _ _ _ _ hr =>
      have h1 := hr.oneCell
      refine one _ (flat h1) ?_ h1
      cases bw with
      | false => exact hr
      | true => exact hr.plain (by simpa using hb)
  · rename_i l hc
    cases h
    rw [hc] at hr
    cases hr with
    | agg _ vs hl hv =>
    refine ⟨hl, fun j b q h1 h2 => (hv j b q h1 h2).1, fun q hq => ?_⟩
    obtain ⟨j, hj, e⟩ := List.mem_iff_getElem.mp hq
    have hj' : j < m.length := by rw [← hl]; exact hj
    have hB := (hv j m[j] q (List.getElem?_eq_getElem hj') (by rw [← e]; exact List.getElem?_eq_getElem hj))
    generalize m[j] = b at hB
    cases b with
    | pl c => exact RepC.oneCell hB.1
    | nl c => rw [hB.1.1]; rfl
    | rf p => exact hB.2.elim
  · rename_i p hc
    rw [hc] at hr
    split at h
    · rename_i e c hp
      cases h
      cases hr with
      | own _ hus =>
      have h1 : (G.hv p).oneCell' = true := by
        obtain ⟨_, hown⟩ := I.mem.lives p e c hp
        obtain ⟨_, _, _, _, hblk⟩ := hown.read
        rcases hblk with ⟨hv0, _⟩ | ⟨_, _, _, hv0, _⟩ <;> rw [hv0] <;> rfl
      exact one _ (flat h1) ⟨rfl, hus⟩ h1
    · cases h
  · cases h

theorem does_box (A : At E C d o.dst w a s G) (t : TypeId) (x : Operand) (ho : o.op = .box t x) (h : boxK s d (ev E s t x) kt = some y) : Does E.P C d o w a s G (fun kt => boxK s d (ev E s t x) kt) := by
  unfold boxK at h
  split at h
  · rename_i m hm
    obtain ⟨hlen, hv, _⟩ := toB_rep A.inv (ev_rep A.inv E t x) hm
    refine ⟨_, _, fun ρ kt => by dsimp only; unfold boxK; simp only [hm], goes_newBox A (a.eval x).cells.toList m t hlen hv ?_⟩
    unfold execOp; rw [ho]
    simp [Instr.box, newVar, newRow]
  · cases h

theorem spl_at {α : Type} {l m : List α} {off : Nat} (hf : off + m.length ≤ l.length) :
    (l.take off ++ m ++ l.drop (off + m.length)).length = l.length ∧ ∀ j, (l.take off ++ m ++ l.drop (off + m.length))[j]? = if off ≤ j ∧ j < off + m.length then m[j - off]? else l[j]? := by
  refine ⟨by simp; omega, fun j => ?_⟩
  rw [List.append_assoc, List.getElem?_append, List.getElem?_append]
  simp only [List.length_take, Nat.min_eq_left (show off ≤ l.length by omega)]
  by_cases h1 : j < off
  · rw [if_pos h1, if_neg (by omega), List.getElem?_take_of_lt h1]
  · rw [if_neg h1]
    by_cases h2 : j - off < m.length
    · rw [if_pos h2, if_pos ⟨by omega, by omega⟩]
    · rw [if_neg h2, if_neg (by omega), List.getElem?_drop]
      congr 1; omega

theorem splice_at {l m : List BCell} {off : Nat} (hf : off + m.length ≤ l.length) :
    (splice l off m).length = l.length ∧ ∀ j, (splice l off m)[j]? = if off ≤ j ∧ j < off + m.length then m[j - off]? else l[j]? := spl_at hf

/- two lists written at one place agree as their parts do -/
theorem spl_rel {α β : Type} {R : α → β → Prop} {l m : List α} {vs us : List β} {off : Nat} (hf : off + m.length ≤ l.length) (hl : vs.length = l.length) (hm : us.length = m.length)
    (h1 : ∀ (j : Nat) b v, l[j]? = some b → vs[j]? = some v → R b v) (h2 : ∀ (j : Nat) b v, m[j]? = some b → us[j]? = some v → R b v) :
    (vs.take off ++ us ++ vs.drop (off + us.length)).length = (l.take off ++ m ++ l.drop (off + m.length)).length ∧
      ∀ (j : Nat) b v, (l.take off ++ m ++ l.drop (off + m.length))[j]? = some b → (vs.take off ++ us ++ vs.drop (off + us.length))[j]? = some v → R b v := by
  have a1 := spl_at hf
  have a2 := spl_at (l := vs) (m := us) (off := off) (by omega)
  refine ⟨by rw [a1.1, a2.1, hl], fun j b v hb hv => ?_⟩
  rw [a1.2] at hb
  rw [a2.2, hm] at hv
  split at hb
  · rename_i hc; rw [if_pos hc] at hv; exact h2 _ _ _ hb hv
  · rename_i hc; rw [if_neg hc] at hv; exact h1 _ _ _ hb hv

theorem run_storeVar {P : Program} {t : TypeId} {g off : Nat} {u : Value} {cur : Array Value} {e : TypeId} (hg : w.heap[g]? = some (.cells cur e (0, 0)))
    (hs : sizeIs P t u.cells.toList.length = true) (hf : off + u.cells.toList.length ≤ cur.size) (h1 : ∀ q ∈ u.cells.toList, q.oneCell' = true) :
    (storeVar t ⟨g, off, none⟩ u).run P w = .ok () (w.setRow g (cur.toList.take off ++ u.cells.toList ++ cur.toList.drop (off + u.cells.toList.length)).toArray) := by
  unfold sizeIs at hs
  split at hs
  · rename_i i hi
    have hsz : u.cells.size = i.size := by have := Nat.eq_of_beq_eq_true hs; simpa using this
    have := run_storeCells_at P g off e u.cells.toList 0 cur w hg (by simpa using hf) h1
    simp only [Nat.add_zero] at this
    simp only [storeVar, sizeOf, typeInfo, Sem.run_bind, run_program, Result.andThen_ok, hi, Sem.run_pure, hsz, ne_eq, not_true_eq_false, if_false, this]
  · cases hs

theorem run_store_op {t : TypeId} {x z : Operand} (ho : o.op = .store t x z) {g off : Nat} (hx : a.eval x = .pointer (some ⟨g, off, none⟩)) {w' : World}
    (h : (storeVar t ⟨g, off, none⟩ (a.eval z)).run E.P w = .ok () w') : (execOp a.eval o).run E.P w = .ok .skip w' := by
  unfold execOp
  rw [ho]
  simp only [hx, Instr.storeAt, Instr.sureAddr, Sem.run_bind, Sem.run_pure, Result.andThen_ok, h]

theorem Step.setRow (w : World) (g : Nat) (cs : Array Value) : Step w (w.setRow g cs) (fun k => k = g) :=
  ⟨by simp, fun k _ hk => setRow_other w g k cs hk, rfl, rfl, rfl⟩

/- a box written -/
theorem mem_write {r g : Nat} {bx : Nat → List BCell} {pl : Nat → Pl} (M : Mem C.w0 C.L0 w bx pl G) (hus : G.used r) (hb : G.base r = some g) (hne : bx r ≠ []) {l : List BCell} (vs' : List Value)
    (hl : vs'.length = l.length) (hv : ∀ (j : Nat) b v, l[j]? = some b → vs'[j]? = some v → RepB w G b v) (hln : l.length = (bx r).length) :
    Step w (w.setRow g vs'.toArray) (fun k => k = g) ∧ (∀ k, k = g → given (G.L k)) ∧ Mem C.w0 C.L0 (w.setRow g vs'.toArray) (upd bx r l) pl G := by
  obtain ⟨g', vs, e, h1, h2, h3, h4, h5, h6⟩ := M.boxes r hne
  rw [hb] at h2
  cases h2
  have hs := Step.setRow w g vs'.toArray
  have hm : ∀ k, k = g → given (G.L k) := by intro k e; subst e; rw [h3]; trivial
  refine ⟨hs, hm, M.step hs hm (Ext.refl G) ?_ ?_ ?_ ?_ ?_⟩
  · intro q hq
    by_cases hqr : q = r
    · subst hqr
      rw [upd_same]
      exact .inr ⟨g, vs', e, hus, hb, h3, setRow_heap w g _ _ e _ h4, hl, fun j b v a c => (hv j b v a c).step hs hm (Ext.refl G)⟩
    · rw [upd_other _ _ _ _ hqr] at hq ⊢
      exact .inl ⟨rfl, fun k _ hL => ⟨fun e => by subst e; rw [h3] at hL; cases hL; exact hqr rfl, hL⟩⟩
  · exact fun p e' c hp => .inl ⟨hp, fun k _ hL => ⟨fun e => by (subst e; rw [h3] at hL; cases hL), hL⟩⟩
  · exact fun p c hp => .inl hp
  · intro k hk; rw [setRow_size] at hk; exact M.fresh k hk
  · exact fun k _ _ => rfl

theorem arrSet_at {i : Int} {z : Cell} : ∀ {l m : List Cell} {j0 : Nat}, arrSet l j0 i z = some m → m.length = l.length ∧ ∀ (j : Nat) c, m[j]? = some c → ∃ q, l[j]? = some q ∧ ((i = ((j0 + j : Nat) : Int) ∧ c = z) ∨ (i ≠ ((j0 + j : Nat) : Int) ∧ c = q)) := by
  intro l
  induction l with
  | nil => intro m j0 h; cases h; exact ⟨rfl, fun j c h => by cases j <;> cases h⟩
  | cons x l ih =>
    intro m j0 h
    unfold arrSet at h
    split at h
    · rename_i q hq
      split at h
      · rename_i r hr
        cases h
        obtain ⟨h1, h2⟩ := ih hr
        refine ⟨by simp [h1], fun j c hj => ?_⟩
        cases j with
        | zero =>
          simp only [List.getElem?_cons_zero, Option.some.injEq] at hj
          subst hj
          refine ⟨x, rfl, ?_⟩
          have hz : z = ⟨x.c, q⟩ := castC_some hq
          by_cases hi : i = (j0 : Int)
          · left
            refine ⟨by simpa using hi, ?_⟩
            have : (i == (j0 : Int)) = true := by simpa using hi
            rw [this, hz]; rfl
          · right
            refine ⟨by simpa using hi, ?_⟩
            have : (i == (j0 : Int)) = false := by simpa using hi
            rw [this]; rfl
        | succ j =>
          obtain ⟨q', hq', hc⟩ := h2 j c (by simpa using hj)
          refine ⟨q', by simpa using hq', ?_⟩
          have e : j0 + 1 + j = j0 + (j + 1) := by omega
          rw [e] at hc
          exact hc
      · cases h
    · cases h

end

end Go.Proofs.Ytoifbdaaiejbnaa.D
/- Stores. -/
namespace Go.Proofs.Ytoifbdaaiejbnaa.D
open Go

section
variable {E : Bs} {C : Ctx} {d : Nat} {w : World} {a : Act} {s : S} {G : Gh} {o : Oper} {ρ : Type} {kt : Kt ρ} {y : ρ}

/- a value's cells for good -/
theorem toC_sound (M : Mem C.w0 C.L0 w s.bx s.pl G) {v : Val} {m : List BCell} {ws : Wr} {u : Value} (hr : RepV w G (res s v) u) (h : toC s v = some (m, ws)) :
    ∃ G', Ext G G' ∧ ((∀ r, G'.used r → G.used r) ∧ ∀ k, given (G'.L k) → given (G.L k)) ∧ Mem C.w0 C.L0 w (s.ws ws).bx (s.ws ws).pl G' ∧
      u.cells.toList.length = m.length ∧ (∀ (j : Nat) b q, m[j]? = some b → u.cells.toList[j]? = some q → RepB w G' b q ∧ hard b) ∧ (∀ q ∈ u.cells.toList, q.oneCell' = true) := by
  unfold toC at h
  have flat : u.oneCell' = true → u.cells.toList = [u] := by
    intro h; cases u <;> first | rfl | cases h
  have one : ∀ (G' : Gh) (b : BCell), u.oneCell' = true → RepB w G' b u → hard b →
      u.cells.toList.length = [b].length ∧ (∀ (j : Nat) b' q, [b][j]? = some b' → u.cells.toList[j]? = some q → RepB w G' b' q ∧ hard b') ∧ (∀ q ∈ u.cells.toList, q.oneCell' = true) := by
    intro G' b h1 hb hh
    rw [flat h1]
    refine ⟨rfl, fun j b' q h2 h3 => ?_, fun q hq => by rw [List.mem_singleton.mp hq]; exact h1⟩
    cases j with
    | zero => simp only [List.getElem?_cons_zero, Option.some.injEq] at h2 h3; subst h2; subst h3; exact ⟨hb, hh⟩
    | succ j => simp at h2
  split at h
  · rename_i c hc
    cases h
    rw [hc] at hr
    cases hr with
    | nilS _ hn => exact ⟨G, Ext.refl G, ⟨fun _ h => h, fun _ h => h⟩, M, one G _ rfl ⟨rfl, hn⟩ trivial⟩
  · rename_i c x bw hc
    rw [hc] at hr
    cases hb : (bw && refC c) with
    | true => rw [hb] at h; cases h
    | false =>
      rw [hb] at h
      cases h
      cases hr with
      | cell _ _ _ _ hr =>
      refine ⟨G, Ext.refl G, ⟨fun _ h => h, fun _ h => h⟩, M, one G _ hr.oneCell ?_ trivial⟩
      cases bw with
      | false => exact hr
      | true => exact hr.plain (by simpa using hb)
  · rename_i l hc
    cases h
    rw [hc] at hr
    cases hr with
    | agg _ vs hl hv =>
    refine ⟨G, Ext.refl G, ⟨fun _ h => h, fun _ h => h⟩, M, hl, hv, fun q hq => ?_⟩
    obtain ⟨j, hj, e⟩ := List.mem_iff_getElem.mp hq
    have hj' : j < m.length := by rw [← hl]; exact hj
    have hB := hv j m[j] q (List.getElem?_eq_getElem hj') (by rw [← e]; exact List.getElem?_eq_getElem hj)
    generalize m[j] = b at hB
    cases b with
    | pl c => exact RepC.oneCell hB.1
    | nl c => rw [hB.1.1]; rfl
    | rf p => exact hB.2.elim
  · rename_i p hc
    rw [hc] at hr
    split at h
    · rename_i e c hp
      cases h
      obtain ⟨M', hrep⟩ := mem_freeze M hp
      cases hr with
      | own _ hus => exact ⟨G.freeze p, freeze_ext G p, ⟨fun _ h => h, fun _ h => freeze_given h⟩, M', one _ _ hrep.oneCell hrep trivial⟩
    · cases h
  · cases h

theorem slSet_sound {c : CT} {x : c.T} {i : Int} {off : Nat} {m : List Cell} {kt : c.T → Option ρ} (h : slSet c x i off m kt = some y) :
    ∃ els l z, elems ⟨c, x⟩ = some els ∧ 0 ≤ i ∧ els[i.toNat]? = some l ∧ elems ⟨c, z⟩ = some (els.set i.toNat (over l off m)) ∧ (∀ (ρ' : Type) (kt' : c.T → Option ρ'), slSet c x i off m kt' = kt' z) ∧ kt z = some y := by
  cases c with
  | sl row =>
    change List row.T at x
    obtain ⟨q, hq, hk⟩ := Option.bind_eq_some_iff.mp h
    have hq' := hq
    unfold idx at hq
    split at hq
    · rename_i h0
      split at hk
      · rename_i b hb
        refine ⟨x.map (rowCells row), rowCells row q, x.set i.toNat b, rfl, h0, by rw [List.getElem?_map, hq]; rfl, ?_, fun ρ' kt' => ?_, hk⟩
        · show some _ = some _
          rw [List.map_set, cells_rowOf row _ _ hb]
        · show ((idx (α := row.T) x i).bind fun a => match rowOf row (over (rowCells row a) off m) with | some b => kt' (List.set (α := row.T) x i.toNat b) | none => none) = _
          rw [hq']; show (match rowOf row (over (rowCells row q) off m) with | some b => kt' (List.set (α := row.T) x i.toNat b) | none => none) = _
          rw [hb]
      · cases hk
    · cases hq
  | pats =>
    change List Pat at x
    obtain ⟨q, hq, hk⟩ := Option.bind_eq_some_iff.mp h
    have hq' := hq
    unfold idx at hq
    split at hq
    · rename_i h0
      split at hk
      · rename_i b hb
        refine ⟨x.map Pat.cells, q.cells, x.set i.toNat b, rfl, h0, by rw [List.getElem?_map, hq]; rfl, ?_, fun ρ' kt' => ?_, hk⟩
        · show some _ = some _
          have e : b.cells = over q.cells off m := by
            unfold Pat.ofCells at hb
            obtain ⟨r, hr, e⟩ := Option.map_eq_some_iff.mp hb
            rw [← e, ← cells_rowOf patRow _ _ hr]
            rfl
          rw [List.map_set, e]
        · show ((idx (α := Pat) x i).bind fun a => match Pat.ofCells (over a.cells off m) with | some b => kt' (List.set (α := Pat) x i.toNat b) | none => none) = _
          rw [hq']; show (match Pat.ofCells (over q.cells off m) with | some b => kt' (List.set (α := Pat) x i.toNat b) | none => none) = _
          rw [hb]
      · cases hk
    · cases hq
  | int k => cases h
  | bool => cases h
  | str => cases h

/- flat index: which element, which cell -/
theorem flat_lt {i j sz n : Nat} (hi : i < n) (hj : j < sz) : i * sz + j < n * sz := by
  have := Nat.mul_le_mul_right sz (show i + 1 ≤ n by omega)
  rw [Nat.add_mul, Nat.one_mul] at this
  omega

theorem flat_ne {i i' j j' sz : Nat} (hj : j < sz) (hj' : j' < sz) (h : i * sz + j = i' * sz + j') : i = i' ∧ j = j' := by
  have e1 : (i * sz + j) / sz = i := by rw [Nat.mul_comm, Nat.mul_add_div (by omega), Nat.div_eq_of_lt hj]; rfl
  have e2 : (i' * sz + j') / sz = i' := by rw [Nat.mul_comm, Nat.mul_add_div (by omega), Nat.div_eq_of_lt hj']; rfl
  have : i = i' := by rw [← e1, ← e2, h]
  subst this
  exact ⟨rfl, by omega⟩

theorem does_store (A : At E C d o.dst w a s G) (t : TypeId) (x z : Operand) (ho : o.op = .store t x z)
    (h : storeK E.P t s (ev E s 0 x) (ev E s t z) kt = some y) : Does E.P C d o w a s G (fun kt => storeK E.P t s (ev E s 0 x) (ev E s t z) kt) := by
  have hx := ev_rep A.inv E 0 x
  have hz := ev_rep A.inv E t z
  have M := A.inv.mem
  unfold storeK at h
  split at h
  · -- a box
    rename_i r off hc
    rw [hc] at hx
    generalize hu : a.eval x = u at hx
    cases hx with
    | ptr _ _ g hus hb =>
    split at h
    · rename_i m hm
      cases hok : (Nat.ble (off + m.length) (s.bx r).length && sizeIs E.P t m.length) with
      | false => rw [hok] at h; cases h
      | true =>
        have hok' := hok
        simp only [Bool.and_eq_true] at hok'
        have hfit := Nat.le_of_ble_eq_true hok'.1
        obtain ⟨hlen, hv, h1⟩ := toB_rep A.inv hz hm
        have same : Same (fun kt => storeK E.P t s (ev E s 0 x) (ev E s t z) kt) .sk [.b r (splice (s.bx r) off m)] := fun ρ kt => by
          dsimp only; unfold storeK; simp only [hc, hm, hok, cond_true]
        by_cases hne : s.bx r = []
        · -- nothing is written
          have hm0 : m = [] := List.eq_nil_of_length_eq_zero (by have : off + m.length ≤ 0 := (by rw [hne] at hfit; exact hfit); omega)
          have hu0 : (a.eval z).cells.toList = [] := List.eq_nil_of_length_eq_zero (by rw [hlen, hm0]; rfl)
          have hrun : (storeVar t ⟨g, off, none⟩ (a.eval z)).run E.P w = .ok () w := by
            have hs := hok'.2
            unfold sizeIs at hs
            split at hs
            · rename_i i hi
              have e0 : m.length = i.size := Nat.eq_of_beq_eq_true hs
              have hsz : (a.eval z).cells.size = i.size := by rw [← e0, ← hlen]; simp
              simp only [storeVar, sizeOf, typeInfo, Sem.run_bind, run_program, Result.andThen_ok, hi, Sem.run_pure, hsz, ne_eq, not_true_eq_false, if_false, hu0, storeCells]
            · cases hs
          refine ⟨.sk, _, same, goes_run A.inv A.hnt A.hd _ (run_store_op ho hu hrun) (.inr ⟨rfl, rfl⟩) (Step.refl w (fun _ => False)) (fun _ e => e.elim) (Ext.refl G) ?_ .sk (fun r h => .inl h)⟩
          have e : upd s.bx r (splice (s.bx r) off m) = s.bx := by
            funext k
            by_cases hk : k = r
            · subst hk; rw [upd_same, hne, hm0]; simp [splice]
            · rw [upd_other _ _ _ _ hk]
          show Mem C.w0 C.L0 w (upd s.bx r (splice (s.bx r) off m)) s.pl G
          rw [e]; exact M
        · obtain ⟨g', vs, e, _, h2, _, h4, h5, h6⟩ := M.boxes r hne
          have h2' := hb.symm.trans h2
          cases h2'
          have hl := spl_rel (R := RepB w G) hfit h5 hlen h6 hv
          have hrun := run_storeVar (P := E.P) (t := t) (u := a.eval z) (off := off) h4 (by rw [hlen]; exact hok'.2) (by rw [hlen]; simpa [h5] using hfit) h1
          obtain ⟨hs, hmm, M'⟩ := mem_write M hus hb hne (l := splice (s.bx r) off m) _ hl.1 hl.2 (splice_at hfit).1
          exact ⟨.sk, _, same, goes_run A.inv A.hnt A.hd _ (run_store_op ho hu hrun) (.inr ⟨rfl, rfl⟩) hs hmm (Ext.refl G) M' .sk (fun r h => .inl h)⟩
    · cases h
  · -- an array's element in a box
    rename_i r off i n hc
    rw [hc] at hx
    generalize hu : a.eval x = u at hx
    cases hx with
    | dptr _ _ _ _ g hus hb h0 hn =>
    split at h
    · rename_i c q bw hcz
      cases hok : (refC c || !Nat.ble (off + n) (s.bx r).length || !sizeIs E.P t 1) with
      | true => rw [hok] at h; cases h
      | false =>
        rw [hok] at h
        simp only [cond_false] at h
        have hok' := hok
        simp only [Bool.or_eq_false_iff, Bool.not_eq_false'] at hok'
        have hfit := Nat.le_of_ble_eq_true hok'.1.2
        split at h
        · rename_i l hl
          split at h
          · rename_i m hm
            have same : Same (fun kt => storeK E.P t s (ev E s 0 x) (ev E s t z) kt) .sk [.b r (splice (s.bx r) off (m.map .pl))] := fun ρ kt => by
              dsimp only; unfold storeK; simp only [hc, hcz, hok, cond_false, hl, hm]
            obtain ⟨hpl1, hpl2⟩ := plainB_at (w := w) (G := G) hl
            obtain ⟨har1, har2⟩ := arrSet_at hm
            have hln : l.length = n := by rw [hpl1]; simp; omega
            have hmn : (m.map BCell.pl).length = n := by rw [List.length_map, har1, hln]
            have hin : i.toNat < n := by omega
            have hne : s.bx r ≠ [] := by intro e; rw [e] at hfit; simp at hfit; omega
            obtain ⟨g', vs, e, _, h2, _, h4, h5, h6⟩ := M.boxes r hne
            have h2' := hb.symm.trans h2
            cases h2'
            rw [hcz] at hz
            have hzv : RepC w (G.ok false) ⟨c, q⟩ (a.eval z) := by
              generalize a.eval z = uz at hz
              cases hz with
              | cell _ _ _ _ hr => exact hr.plain hok'.1.1
            have h1c : (a.eval z).cells.toList = [a.eval z] := by
              have := hzv.oneCell
              generalize a.eval z = uz at this
              cases uz <;> first | rfl | cases this
            have hfit1 : off + i.toNat + (a.eval z).cells.toList.length ≤ vs.length := by rw [h1c, h5]; simp; omega
            have hrun := run_storeVar (P := E.P) (t := t) (u := a.eval z) (off := off + i.toNat) h4 (by rw [h1c]; exact hok'.2) (by simpa using hfit1) (by rw [h1c]; intro q' hq'; rw [List.mem_singleton.mp hq']; exact hzv.oneCell)
            have hfs : off + (m.map BCell.pl).length ≤ (s.bx r).length := by rw [hmn]; exact hfit
            have a1 := splice_at hfs
            have a2 := spl_at (l := vs) (m := (a.eval z).cells.toList) (off := off + i.toNat) hfit1
            obtain ⟨hs, hmm, M'⟩ := mem_write M hus hb hne (l := splice (s.bx r) off (m.map .pl)) _ (by rw [a2.1, a1.1, h5]) (fun j b v hb' hv' => by
              rw [a1.2] at hb'
              rw [a2.2] at hv'
              rw [h1c] at hv'
              simp only [List.length_singleton] at hv'
              split at hb'
              · rename_i hcj
                rw [hmn] at hcj
                rw [List.getElem?_map] at hb'
                obtain ⟨c', hc', rfl⟩ := Option.map_eq_some_iff.mp hb'
                obtain ⟨q', hq', hcase⟩ := har2 _ _ hc'
                rcases hcase with ⟨hi, rfl⟩ | ⟨hi, rfl⟩
                · have hj : j = off + i.toNat := by omega
                  rw [if_pos ⟨by omega, by omega⟩] at hv'
                  have : j - (off + i.toNat) = 0 := by omega
                  rw [this] at hv'
                  simp only [List.getElem?_cons_zero, Option.some.injEq] at hv'
                  rw [← hv']; exact hzv
                · have hj : j ≠ off + i.toNat := by omega
                  rw [if_neg (by omega)] at hv'
                  refine hpl2 _ _ _ hq' fun b hbb => ?_
                  rw [List.getElem?_take_of_lt (by omega), List.getElem?_drop] at hbb
                  have e3 : off + (j - off) = j := by omega
                  rw [e3] at hbb
                  exact h6 _ _ _ hbb hv'
              · rename_i hcj
                rw [hmn] at hcj
                rw [if_neg (by omega)] at hv'
                exact h6 _ _ _ hb' hv') a1.1
            exact ⟨.sk, _, same, goes_run A.inv A.hnt A.hd _ (run_store_op ho hu hrun) (.inr ⟨rfl, rfl⟩) hs hmm (Ext.refl G) M' .sk (fun r h => .inl h)⟩
          · cases h
        · cases h
    · cases h
  · -- an element of an owned slice
    rename_i p i off hc
    rw [hc] at hx
    generalize hu : a.eval x = u at hx
    cases hx with
    | optr _ _ _ g n cap sz hus hb h0 hn hsz =>
    split at h
    · rename_i m ws hm
      split at h
      · rename_i m' e c hpm hp
        cases hok : (sizeIs E.P t m'.length && Nat.ble (off + m'.length) (esize c.c)) with
        | false => rw [hok] at h; cases h
        | true =>
          rw [hok] at h
          simp only [cond_true] at h
          obtain ⟨els, l, z', he, _, hl, hez, hsame, _⟩ := slSet_sound h
          have same : Same (fun kt => storeK E.P t s (ev E s 0 x) (ev E s t z) kt) .sk (ws ++ [.p p (.live e ⟨c.c, z'⟩)]) := fun ρ kt => by
            dsimp only; unfold storeK; simp only [hc, hm, hpm, hp, hok, cond_true]; exact hsame _ _
          obtain ⟨G', hext, ⟨hused, hgv⟩, M', hlen, hv, h1⟩ := toC_sound M (res_rep A.inv hz) hm
          obtain ⟨hpl1, hpl2⟩ := plainB_at (w := w) (G := G') hpm
          obtain ⟨hus', hown⟩ := M'.lives p e c hp
          obtain ⟨els', xs, he', hrow, hxs, hL, hesz, hpos⟩ := hown
          have ee := Option.some.inj (he'.symm.trans he)
          subst ee
          have hhv : G'.hv p = .slice (some ⟨g, 0, none⟩) n cap := (hext.hv p hus).trans hb
          have hszc : sz = esize c.c := by rw [← hsz, ← hext.esz p hus]; exact hesz
          rcases hrow.2 with ⟨hv0, _⟩ | ⟨g', cap', cur, hv0, hb0, hg, hnc, hcm, hcs, htk⟩
          · rw [hhv] at hv0; cases hv0
          · rw [hhv] at hv0; cases hv0
            have hLg : G'.L g = .arr p := hL g (by rw [hhv]; rfl)
            have hlt : i.toNat < els'.length := (List.getElem?_eq_some_iff.mp hl).1
            have hll : l.length = esize c.c := elems_len he l (List.mem_of_getElem? hl)
            have hml : m'.length = (a.eval z).cells.toList.length := by rw [hpl1, hlen]
            have hok' := hok
            simp only [Bool.and_eq_true] at hok'
            have hfitl : off + m'.length ≤ esize c.c := Nat.le_of_ble_eq_true hok'.2
            have hxl : xs.length = els'.length * esize c.c := hrow.1
            have hoff : i.toNat * esize c.c + off + m'.length ≤ els'.length * esize c.c := by
              have := Nat.mul_le_mul_right (esize c.c) (show i.toNat + 1 ≤ els'.length by omega)
              rw [Nat.add_mul, Nat.one_mul] at this
              omega
            have hcur : els'.length * esize c.c ≤ cur.size := by rw [hcs]; exact Nat.mul_le_mul_right _ hnc
            have hrun := run_storeVar (P := E.P) (t := t) (u := a.eval z) (off := i.toNat * sz + off) hg (by rw [← hml]; exact hok'.1) (by rw [← hml, hszc]; omega) h1
            rw [hszc, ← hml] at hrun
            -- the new block
            have hfitx : i.toNat * esize c.c + off + (a.eval z).cells.toList.length ≤ xs.length := by rw [← hml, hxl]; exact hoff
            have sp := spl_at (l := xs) (m := (a.eval z).cells.toList) (off := i.toNat * esize c.c + off) hfitx
            have hfitc : i.toNat * esize c.c + off + (a.eval z).cells.toList.length ≤ cur.toList.length := by rw [← hml]; simp; omega
            have sc := spl_at (l := cur.toList) (m := (a.eval z).cells.toList) (off := i.toNat * esize c.c + off) hfitc
            have hs := Step.setRow w g (cur.toList.take (i.toNat * esize c.c + off) ++ (a.eval z).cells.toList ++ cur.toList.drop (i.toNat * esize c.c + off + m'.length)).toArray
            have hmm : ∀ k, k = g → given (G'.L k) := by intro k e; subst e; rw [hLg]; trivial
            have hnew : OwnS (w.setRow g (cur.toList.take (i.toNat * esize c.c + off) ++ (a.eval z).cells.toList ++ cur.toList.drop (i.toNat * esize c.c + off + m'.length)).toArray) G' p e ⟨c.c, z'⟩ := by
              refine ⟨els'.set i.toNat (over l off m'), xs.take (i.toNat * esize c.c + off) ++ (a.eval z).cells.toList ++ xs.drop (i.toNat * esize c.c + off + (a.eval z).cells.toList.length), hez, ⟨by rw [sp.1, List.length_set]; exact hxl, .inr ⟨g, cap, _, ?_, Nat.zero_le _, setRow_heap w g _ _ e _ hg, by rw [List.length_set]; exact hnc, hcm, ?_, ?_⟩⟩, ?_, hL, hesz, hpos⟩
              · rw [List.length_set]; exact hhv
              · rw [hml]
                show (cur.toList.take _ ++ _ ++ cur.toList.drop _).length = _
                rw [sc.1]; simpa using hcs
              · rw [List.length_set]
                show List.take _ (cur.toList.take _ ++ _ ++ cur.toList.drop _) = _
                rw [hml]
                apply List.ext_getElem?
                intro j
                by_cases hj : j < els'.length * esize c.c
                · rw [List.getElem?_take_of_lt hj, sc.2, sp.2]
                  split
                  · rfl
                  · rw [← htk, List.getElem?_take_of_lt hj]
                · rw [List.getElem?_eq_none (by simp; omega), List.getElem?_eq_none (by rw [sp.1, hxl]; omega)]
              · intro i' j l' x' hi' hj
                have hl'len : l'.length = esize c.c := elems_len hez l' (List.mem_of_getElem? hi')
                have hjlt : j < esize c.c := by rw [← hl'len]; exact (List.getElem?_eq_some_iff.mp hj).1
                show ∃ v, (xs.take (i.toNat * esize c.c + off) ++ (a.eval z).cells.toList ++ xs.drop (i.toNat * esize c.c + off + (a.eval z).cells.toList.length))[i' * esize c.c + j]? = some v ∧ _
                rw [sp.2, ← hml]
                have old : ∀ l0, els'[i']? = some l0 → l0[j]? = some x' → ∃ v, xs[i' * esize c.c + j]? = some v ∧ RepC (w.setRow g (cur.toList.take (i.toNat * esize c.c + off) ++ (a.eval z).cells.toList ++ cur.toList.drop (i.toNat * esize c.c + off + m'.length)).toArray) (G'.ok false) x' v := by
                  intro l0 a0 b0
                  obtain ⟨v, hv', hr⟩ := hxs i' j l0 x' a0 b0
                  exact ⟨v, hv', hr.step hs hmm (Ext.refl G')⟩
                by_cases hii : i' = i.toNat
                · subst hii
                  rw [List.getElem?_set_self hlt] at hi'
                  cases hi'
                  have ho1 := spl_at (l := l) (m := m') (off := off) (by rw [hll]; exact hfitl)
                  have hj' : (over l off m')[j]? = some x' := hj
                  unfold over at hj'
                  rw [ho1.2] at hj'
                  split at hj'
                  · rename_i hcj
                    rw [if_pos ⟨by omega, by omega⟩]
                    have e1 : i.toNat * esize c.c + j - (i.toNat * esize c.c + off) = j - off := by omega
                    rw [e1]
                    have hlt2 : j - off < (a.eval z).cells.toList.length := by rw [← hml]; omega
                    refine ⟨_, List.getElem?_eq_getElem hlt2, ?_⟩
                    exact (hpl2 _ _ _ hj' fun b hb' => (hv _ b _ hb' (List.getElem?_eq_getElem hlt2)).1).step hs hmm (Ext.refl G')
                  · rename_i hcj
                    rw [if_neg (by omega)]
                    exact old l hl hj'
                · rw [List.getElem?_set_ne (fun e => hii e.symm)] at hi'
                  rw [if_neg (fun hcj => hii (by
                    have hq : i' * esize c.c + j = i.toNat * esize c.c + (i' * esize c.c + j - i.toNat * esize c.c) := by omega
                    exact (flat_ne hjlt (by omega) hq).1))]
                  exact old l' hi' hj
            have M2 : Mem C.w0 C.L0 (w.setRow g (cur.toList.take (i.toNat * esize c.c + off) ++ (a.eval z).cells.toList ++ cur.toList.drop (i.toNat * esize c.c + off + m'.length)).toArray) (s.ws (ws ++ [.p p (.live e ⟨c.c, z'⟩)])).bx (s.ws (ws ++ [.p p (.live e ⟨c.c, z'⟩)])).pl G' := by
              rw [ws_app]
              refine M'.step hs hmm (Ext.refl G') ?_ ?_ ?_ ?_ ?_
              · exact fun q _ => .inl ⟨rfl, fun k _ hLk => ⟨fun e => by (subst e; rw [hLg] at hLk; cases hLk), hLk⟩⟩
              · intro q e' c' hq
                by_cases hqp : q = p
                · subst hqp
                  have hq' : upd (s.ws ws).pl q (.live e ⟨c.c, z'⟩) q = .live e' c' := hq
                  rw [upd_same] at hq'
                  cases hq'
                  exact .inr ⟨hus', hnew⟩
                · have hq' : upd (s.ws ws).pl p (.live e ⟨c.c, z'⟩) q = .live e' c' := hq
                  rw [upd_other _ _ _ _ hqp] at hq'
                  exact .inl ⟨hq', fun k _ hLk => ⟨fun e => by (subst e; rw [hLg] at hLk; cases hLk; exact hqp rfl), hLk⟩⟩
              · intro q c' hq
                have hq' : upd (s.ws ws).pl p (.live e ⟨c.c, z'⟩) q = .froz c' := hq
                by_cases hqp : q = p
                · subst hqp; rw [upd_same] at hq'; cases hq'
                · rw [upd_other _ _ _ _ hqp] at hq'; exact .inl hq'
              · intro k hk; rw [setRow_size] at hk; exact M'.fresh k hk
              · exact fun k _ _ => rfl
            refine ⟨.sk, _, same, goes_run A.inv A.hnt A.hd _ (run_store_op ho hu ?_) (.inr ⟨rfl, rfl⟩) hs ?_ hext M2 .sk (fun r h => .inl (hused r h))⟩
            · rw [hszc]; exact hrun
            · intro k e; exact hgv k (hmm k e)
      · cases h
    · cases h
  · cases h

end

end Go.Proofs.Ytoifbdaaiejbnaa.D
