/- Abstract values, abstract states and the evaluation of single operations on them. -/
import Derived.WalkKit
import Derived.RangeFuncIn
import Derived.OrdersIn
namespace Go.Am

/-- Plain data: no pointer, no function, no map. -/
inductive D where
  | bool (b : Bool)
  | int (k : IntKind) (n : Int)
  | str (s : ByteArray)
  | list (k : Nat) (l : List D)
  | agg (l : List D)
  | iface (t : TypeId) (x : D)
  | nilIface

/-- The cells of a value. -/
def D.cells : D → List D
  | .agg l => l
  | x => [x]
def D.flat (l : List D) : List D := l.flatMap D.cells

inductive AV where
  | undef
  | abool
  | d (x : D)
  | ptr (a off : Nat)
  | nilptr
  | iptr (cs : List D)
  | lbox (cs : List AV)
  | place (r off : Nat)
  | own (k : Nat) (l : List D)
  | lim (k : Nat) (l : List D)
  | func (f : FuncId) (first caps : List AV)
  | nilfunc
  | yield (l : Nat)
  | map (a : Nat)
  | nilmap
  | mref (a k : Nat) (lo n : Int)
  | eptr (a k : Nat) (i : Int) (j : Nat)
  | agg (cs : List AV)
  | tuple (vs : List AV)

/-- What a copy of a value is: the right to append stays behind. -/
def AV.copy : AV → AV
  | .own k l => .d (.list k l)
  | .lim k l => .d (.list k l)
  | .lbox _ => .undef
  | .place .. => .undef
  | x => x
def AV.isUndef : AV → Bool
  | .undef => true
  | _ => false
def AV.isBox : AV → Bool
  | .lbox _ => true
  | _ => false
def AV.isAggr : AV → Bool
  | .d (.agg _) | .agg _ => true
  | _ => false
/-- May it lie in one cell? -/
def AV.isCell : AV → Bool
  | .d (.agg _) | .agg _ | .tuple _ | .lbox _ | .undef | .place _ _ => false
  | _ => true
def dataOf : List AV → Option (List D)
  | [] => some []
  | .d x :: r => (dataOf r).map (x :: ·)
  | .own k l :: r => (dataOf r).map (.list k l :: ·)
  | .lim k l :: r => (dataOf r).map (.list k l :: ·)
  | _ => none
/-- An aggregate of cells: plain data where all of them are. -/
def mkAgg (cs : List AV) : AV :=
  match dataOf cs with
  | some ds => .d (.agg ds)
  | none => .agg (cs.map AV.copy)
/-- The cells of an abstract value. -/
def AV.cells : AV → List AV
  | .d (.agg l) => l.map .d
  | .agg l => l
  | x => [x]

inductive CK where
  | int (k : IntKind)
  | bool
  | str
  deriving DecidableEq
/-- The record of a range over a function. -/
structure ALoop where
  st : LoopState
  pending : Option Code
  env : List (Nat × AV)
  n : Nat
  params : Array Tmp
  assign : Code
  body : Code

inductive Obj where
  | cells (cs : List AV)
  | arr (k : Nat) (l : List D)
  | map (agg : Bool) (ks : List CK) (es : List (D × D))
  | loop (L : ALoop)
  | dead

/-- What is known of a type. -/
inductive TU where
  | slice (e : TypeId)
  | array (n : Nat) (e : TypeId)
  | struct (fs : List (TypeId × Nat))
  | map (k e : TypeId)
  | int (k : IntKind)
  | bool
  | string
  | other
structure TD where
  size : Nat
  u : TU
  zero : List AV
def TD.isAgg (t : TD) : Bool :=
  match t.u with
  | .array .. | .struct _ => true
  | _ => false
abbrev Types := TypeId → Option TD

def CK.fits : CK → D → Bool
  | .int k, .int k' _ => decide (k = k')
  | .bool, .bool _ => true
  | .str, .str _ => true
  | _, _ => false
def confD : List CK → List D → Bool
  | [], [] => true
  | k :: ks, x :: xs => k.fits x && confD ks xs
  | _, _ => false
def ksFs (f : TypeId → Option (List CK)) : Nat → List (TypeId × Nat) → Option (List CK)
  | _, [] => some []
  | o, (t, off) :: r =>
    if off = o then
      match f t with
      | some ks => match ksFs f (o + ks.length) r with
        | some ks' => some (ks ++ ks')
        | none => none
      | none => none
    else none
def ksU (f : TypeId → Option (List CK)) : TU → Option (List CK)
  | .int k => some [.int k]
  | .bool => some [.bool]
  | .string => some [.str]
  | .array m e => match f e with
    | some ks => some (List.replicate m ks).flatten
    | none => none
  | .struct fs => ksFs f 0 fs
  | _ => none
/-- The kinds of the cells of a type whose values are compared cell by cell. -/
def ksOf (T : Types) : Nat → TypeId → Option (List CK)
  | 0, _ => none
  | n + 1, t =>
    match T t with
    | some td =>
      match ksU (ksOf T n) td.u with
      | some ks => if ks.length = td.size then some ks else none
      | none => none
    | none => none

structure St where
  env : List (Nat × AV)
  heap : List Obj
  n : Nat

def eget : List (Nat × AV) → Nat → AV
  | [], _ => .undef
  | (s, v) :: r, t => if s = t then v else eget r t
def eset : List (Nat × AV) → Nat → AV → List (Nat × AV)
  | [], t, v => [(t, v)]
  | (s, u) :: r, t, v => if s = t then (s, v) :: r else (s, u) :: eset r t v
def St.get (σ : St) (t : Nat) : AV := eget σ.env t

theorem eget_eset (e : List (Nat × AV)) (t s : Nat) (v : AV) : eget (eset e t v) s = if t = s then v else eget e s := by
  induction e with
  | nil => simp [eset, eget]
  | cons p r ih =>
    obtain ⟨q, u⟩ := p
    simp only [eset]
    split
    · subst q; simp only [eget]; split <;> simp_all
    · rename_i hq; simp only [eget, ih]; by_cases h1 : q = s
      · subst h1; have h2 : ¬ t = q := fun h => hq h.symm; simp [h2]
      · simp [h1]

structure Ann where
  esc : List Nat := []
  tk : List Nat := []
  arr : List Nat := []

/-- What an operation does to an abstract state. -/
structure Upd where
  sets : List (Nat × AV)
  heap : Option (List Obj)
  rd : List Nat
  hr : Bool
def esets (e : List (Nat × AV)) (l : List (Nat × AV)) : List (Nat × AV) := l.foldl (fun e p => eset e p.1 p.2) e
def St.app (σ : St) (u : Upd) : St := { σ with env := esets σ.env u.sets, heap := u.heap.getD σ.heap }

/-- The element size of a slice type. -/
def elemSize (T : Types) (t : TypeId) : Option Nat :=
  match T t with
  | some { u := .slice e, .. } => (T e).map (·.size)
  | _ => none

def constAV (T : Types) (t : TypeId) : Value → Option AV
  | .bool b => some (.d (.bool b))
  | .int k n => some (.d (.int k n))
  | .string s => some (.d (.str s))
  | .slice none 0 0 => (elemSize T t).map fun k => .own k []
  | .pointer none => some .nilptr
  | .map none => some .nilmap
  | .nilFunc => some .nilfunc
  | .nilIface => some (.d .nilIface)
  | _ => none

/-- An operand's value at a type, as a copy (but for a nil slice that is written out, which may be appended to). -/
def opv (T : Types) (g : Nat → AV) (t : TypeId) : Operand → Option AV
  | .tmp i => some (g i).copy
  | .const v => constAV T t v
  | .func f => some (.func f [] [])
  | .global _ => none
def slotOf : Operand → List Nat
  | .tmp i => [i]
  | _ => []

/-- Part of a list of cells. -/
def cut {α : Type} (cs : List α) (off n : Nat) : Option (List α) := if off + n ≤ cs.length then some ((cs.drop off).take n) else none
/-- What is read out of cells. -/
def readAt (td : TD) (cs : List AV) (off : Nat) : Option AV :=
  match cut cs off td.size with
  | some l => if td.isAgg then some (mkAgg l) else l.head?.map AV.copy
  | none => none
def writeAt (cs : List AV) (off : Nat) (vs : List AV) : List AV := cs.take off ++ vs ++ cs.drop (off + vs.length)

/-- An address: a place in a box of a slot, in an object, or among cells that stay. -/
inductive Adr where
  | slot (r off : Nat) (cs : List AV)
  | obj (a off : Nat)
  | cells (cs : List D)
def adr (g : Nat → AV) : Operand → Option Adr
  | .tmp i =>
    match g i with
    | .lbox cs => some (.slot i 0 cs)
    | .place r off => match g r with
      | .lbox cs => some (.slot r off cs)
      | _ => none
    | .ptr a off => some (.obj a off)
    | .iptr cs => some (.cells cs)
    | _ => none
  | _ => none
def Adr.up (n : Nat) : Adr → AV
  | .slot r off _ => .place r (off + n)
  | .obj a off => .ptr a (off + n)
  | .cells cs => .iptr (cs.drop n)

/-- The list that an operand is, without taking it. -/
def listOf (T : Types) (g : Nat → AV) (t : TypeId) (x : Operand) : Option (Nat × List D) :=
  match opv T g t x with
  | some (.d (.list k l)) | some (.own k l) => some (k, l)
  | _ => none

open Classical in
noncomputable def mget : List (D × D) → D → Option D
  | [], _ => none
  | p :: r, k => if p.1 = k then some p.2 else mget r k
open Classical in
noncomputable def mput : List (D × D) → D → D → List (D × D)
  | [], k, v => [(k, v)]
  | p :: r, k, v => if p.1 = k then (k, v) :: r else p :: mput r k v
def keyConf (agg : Bool) (ks : List CK) (d : D) : Bool :=
  confD ks d.cells && (match d with | .agg _ => agg | _ => !agg)
/-- The operations on numbers and lists that evaluation leaves alone: it runs over a variable of this type. -/
structure Ar where
  zle : Int → Int → Bool
  zlt : Int → Int → Bool
  zeq : Int → Int → Bool
  wrp : IntKind → Int → Int
  zadd : Int → Int → Int
  zsub : Int → Int → Int
  zmul : Int → Int → Int
  nat : Int → Nat
  len : List D → Int
  lget : List D → Nat → Option D
  fits : Int → Bool
  sub : List D → Int → Int → List D
  app : List D → List D → List D
  quo : IntKind → Int → Int → Int
  rem : Int → Int → Int
  shl : IntKind → Int → Int → Int
  shr : IntKind → Int → Int → Int
  bits : BinOp → IntKind → Int → Int → Int
  deq : List D → List D → Bool
  beq : Bool → Bool → Bool
  zmin : Int → Int → Int
  zmax : Int → Int → Int
  mget : List (D × D) → D → Option D
  mput : List (D × D) → D → D → List (D × D)
  lset : List D → Nat → D → List D
  fill : List D → Int → Int → D → List D
  rep : Int → D → List D
def bitsStd (op : BinOp) (k : IntKind) (x y : Int) : Int :=
  let a := BitVec.ofInt k.bits x
  let b := BitVec.ofInt k.bits y
  match op with
  | .and => k.wrap (a &&& b).toNat
  | .or => k.wrap (a ||| b).toNat
  | .xor => k.wrap (a ^^^ b).toNat
  | _ => k.wrap (a &&& ~~~b).toNat
/-- Elements lo to lo + n are made one. -/
def fillStd (l : List D) (lo n : Int) (x : D) : List D := l.take lo.toNat ++ List.replicate n.toNat x ++ l.drop (lo.toNat + n.toNat)
open Classical in
noncomputable def Ar.std : Ar where
  zle x y := decide (x ≤ y)
  zlt x y := decide (x < y)
  zeq x y := decide (x = y)
  wrp k x := k.wrap x
  zadd x y := x + y
  zsub x y := x - y
  zmul x y := x * y
  nat x := x.toNat
  len l := (l.length : Int)
  lget l i := l[i]?
  fits n := decide (n < 4294967296)
  sub l lo hi := (l.drop lo.toNat).take (hi.toNat - lo.toNat)
  app l m := l ++ m
  quo k x y := k.wrap (x.tdiv y)
  rem x y := x.tmod y
  shl k x y := k.wrap (x * 2 ^ (min y.toNat k.bits))
  shr k x y := x.fdiv (2 ^ (min y.toNat k.bits))
  bits := bitsStd
  deq a b := decide (a = b)
  beq a b := a == b
  zmin x y := if y < x then y else x
  zmax x y := if y > x then y else x
  mget := Am.mget
  mput := Am.mput
  lset l i x := l.set i x
  fill := fillStd
  rep n x := List.replicate n.toNat x

def intOp (A : Ar) (op : BinOp) (k : IntKind) (x y : Int) : Option D :=
  match op with
  | .add => some (.int k (A.wrp k (A.zadd x y)))
  | .sub => some (.int k (A.wrp k (A.zsub x y)))
  | .mul => some (.int k (A.wrp k (A.zmul x y)))
  | .eql => some (.bool (A.zeq x y))
  | .neq => some (.bool (!A.zeq x y))
  | .lss => some (.bool (A.zlt x y))
  | .leq => some (.bool (A.zle x y))
  | .gtr => some (.bool (A.zlt y x))
  | .geq => some (.bool (A.zle y x))
  | .quo => if A.zeq y 0 then none else some (.int k (A.quo k x y))
  | .rem => if A.zeq y 0 then none else some (.int k (A.rem x y))
  | .and | .or | .xor | .andNot => some (.int k (A.bits op k x y))
  | _ => none
def shiftOp (A : Ar) (op : BinOp) (k : IntKind) (x y : Int) : Option D :=
  if A.zlt y 0 then none else
  match op with
  | .shl => some (.int k (A.shl k x y))
  | .shr => some (.int k (A.shr k x y))
  | _ => none
end Go.Am
namespace Go.Am

abbrev Sets := List (Nat × AV)
abbrev Res := Option (Sets × Option (List Obj))

/-- The result goes into the operation's own slot (which holds no box). -/
def put (n : Nat) (g : Nat → AV) (dst : Option Tmp) (v : AV) : Res :=
  match dst with
  | some d => if decide (d < n) && !(g d).isBox then some ([(d, v)], none) else none
  | none => some ([], none)
def putO (n : Nat) (g : Nat → AV) (dst : Option Tmp) (v : Option AV) : Res :=
  match v with
  | some v => put n g dst v
  | none => none

def pickAV (t : Bool) : AV → AV → AV
  | .d (.bool x), .d (.bool y) => .d (.bool (bif t then x else y))
  | a, b => bif t then a else b

def fieldOf (T : Types) (t : TypeId) (f : Nat) : Option (TypeId × Nat × Nat) :=
  match T t with
  | some { u := .struct fs, .. } =>
    match fs[f]? with
    | some (ft, off) => (T ft).map fun td => (ft, off, td.size)
    | none => none
  | _ => none

/-- Where part i of a composite value lies, its type and size. -/
def partOf (T : Types) (t : TypeId) (i : Nat) : Option (TypeId × Nat × Nat) :=
  match T t with
  | some { u := .struct fs, .. } =>
    match fs[i]? with
    | some (ft, off) => (T ft).map fun td => (ft, off, td.size)
    | none => none
  | some { u := .array m e, .. } => if i < m then (T e).map fun td => (e, i * td.size, td.size) else none
  | _ => none
def partsKnown (T : Types) : TU → Bool
  | .struct fs => fs.all fun p => (T p.1).isSome
  | .array _ e => (T e).isSome
  | _ => false
def fillIn (T : Types) (g : Nat → AV) (t : TypeId) : List (Nat × Operand) → List AV → Option (List AV)
  | [], cs => some cs
  | (i, x) :: r, cs =>
    match partOf T t i with
    | some (ft, off, sz) =>
      match opv T g ft x with
      | some v => if v.cells.length = sz ∧ off + sz ≤ cs.length ∧ v.cells.all AV.isCell then fillIn T g t r (writeAt cs off v.cells) else none
      | none => none
    | none => none
def elemsOf (T : Types) (g : Nat → AV) (e : TypeId) (sz : Nat) : List (Nat × Operand) → Nat → Option (List D)
  | [], _ => some []
  | (j, x) :: r, i =>
    match opv T g e x with
    | some v =>
      match dataOf [v], elemsOf T g e sz r (i + 1) with
      | some [y], some l => if j = i ∧ y.cells.length = sz then some (y :: l) else none
      | _, _ => none
    | none => none

def objCells : Obj → Option (List AV)
  | .cells cs => some cs
  | .arr _ l => some ((D.flat l).map .d)
  | _ => none
/-- New cells within one element. -/
def D.upd (x : D) (off : Nat) (vs : List D) : D :=
  match x with
  | .agg cs => .agg (cs.take off ++ vs ++ cs.drop (off + vs.length))
  | x => match vs with
    | [v] => v
    | _ => x
def writeObj (o : Obj) (off : Nat) (vs : List AV) : Option Obj :=
  match o with
  | .cells cs => if off + vs.length ≤ cs.length then some (.cells (writeAt cs off vs)) else none
  | _ => none

/-- A value to be stored, and what becomes of the slot that it is taken from. -/
def taken (T : Types) (an : Ann) (g : Nat → AV) (t : TypeId) (x : Operand) : Option (AV × Sets) :=
  match x with
  | .tmp s =>
    if an.tk.contains s then
      match g s with
      | .own k l => some (.own k l, [(s, .d (.list k l))])
      | v => some (v.copy, [])
    else some ((g s).copy, [])
  | x => (opv T g t x).map (·, [])

def bound (g : Nat → AV) (T : Types) (d : Int) : Option Operand → Option Int
  | none => some d
  | some x =>
    match opv T g 0 x with
    | some (.d (.int _ n)) => some n
    | _ => none

def isCons : List D → Bool
  | [] => false
  | _ :: _ => true

/-- An index: one that is written out is decided at once. -/
def idxLo (A : Ar) (i : Operand) (z : Int) : Bool :=
  match i with
  | .const _ => decide (0 ≤ z)
  | _ => A.zle 0 z
def idxHi (A : Ar) (i : Operand) (z m : Int) : Bool :=
  match i with
  | .const _ => decide (z < m)
  | _ => A.zlt z m
def idxNat (A : Ar) (i : Operand) (z : Int) : Nat :=
  match i with
  | .const _ => z.toNat
  | _ => A.nat z
theorem idxLo_std (i : Operand) (z : Int) : idxLo Ar.std i z = decide (0 ≤ z) := by cases i <;> rfl
theorem idxHi_std (i : Operand) (z m : Int) : idxHi Ar.std i z m = decide (z < m) := by cases i <;> rfl
theorem idxNat_std (i : Operand) (z : Int) : idxNat Ar.std i z = z.toNat := by cases i <;> rfl

/-- Whether the operation looks into the abstract heap. -/
def heapy (an : Ann) (g : Nat → AV) (o : Oper) : Bool :=
  (match o.op with
   | .alloc _ | .box .. => match o.dst with | some d => an.esc.contains d | none => false
   | .makeMap .. | .makeSlice .. => true
   | .load _ x | .store _ x _ | .indexAddr _ x _ | .slice _ x _ _ _ | .lookup _ x _ _ | .mapUpdate _ x _ _ | .mapEntry _ x _ | .entryStore _ x _ _ =>
     match x with
     | .tmp i => match g i with | .ptr .. | .map _ | .mref .. | .eptr .. => true | _ => false
     | _ => false
   | .call { callee := .builtin _, args, .. } => args.toList.any fun
     | .tmp i => match g i with | .map _ | .mref .. => true | _ => false
     | _ => false
   | _ => false)

def evBase (A : Ar) (T : Types) (an : Ann) (n : Nat) (g : Nat → AV) (H : List Obj) (o : Oper) : Res :=
  match o.op with
  | .move x | .assign x =>
    match taken T an g o.type x, o.dst with
    | some (v, ss), some d => if decide (d < n) && !(g d).isBox && !(slotOf x).contains d then some (ss ++ [(d, v)], none) else none
    | _, _ => none
  | .pick c a b =>
    match opv T g o.type c, opv T g o.type a, opv T g o.type b with
    | some (.d (.bool t)), some x, some y => put n g o.dst (pickAV t x.copy y.copy)
    | _, _, _ => none
  | .alloc t =>
    match T t, o.dst with
    | some td, some d =>
      if decide (d < n) && (g d).isUndef then
        if an.esc.contains d then some ([(d, .ptr H.length 0)], some (H ++ [.cells td.zero]))
        else some ([(d, .lbox td.zero)], none)
      else none
    | _, _ => none
  | .box t x =>
    match T t, opv T g t x, o.dst with
    | some td, some v, some d =>
      if decide (d < n) && (g d).isUndef && decide (v.cells.length = td.size) && v.cells.all AV.isCell then
        if an.esc.contains d then some ([(d, .ptr H.length 0)], some (H ++ [.cells v.cells]))
        else some ([(d, .lbox v.cells)], none)
      else none
    | _, _, _ => none
  | .build t parts =>
    match T t with
    | some td => if td.isAgg && partsKnown T td.u then putO n g o.dst ((fillIn T g t parts.toList td.zero).map mkAgg) else none
    | none => none
  | .buildSlice t cnt parts =>
    match T t with
    | some { u := .slice e, .. } =>
      match T e with
      | some td =>
        if decide (parts.size = cnt) && decide (0 < td.size) && decide (cnt * td.size ≤ 4096) && o.dst.isSome then
          match elemsOf T g e td.size parts.toList 0 with
          | some l => put n g o.dst (.own td.size l)
          | none => none
        else none
      | none => none
    | _ => none
  | .load t x =>
    match T t, adr g x with
    | some td, some (.slot r off cs) =>
      match o.dst, cs[off]? with
      | some d, some (.own k l) =>
        if an.tk.contains d && !td.isAgg then (put n g o.dst (.own k l)).map fun p => ([(r, .lbox (cs.set off (.d (.list k l))))] ++ p.1, p.2)
        else putO n g o.dst (readAt td cs off)
      | _, _ => putO n g o.dst (readAt td cs off)
    | some td, some (.obj a off) =>
      match H[a]? with
      | some (.cells cs) =>
        match o.dst, cs[off]? with
        | some d, some (.own k l) =>
          if an.tk.contains d && !td.isAgg then (put n g o.dst (.own k l)).map fun p => (p.1, some (H.set a (.cells (cs.set off (.d (.list k l))))))
          else putO n g o.dst (readAt td cs off)
        | _, _ => putO n g o.dst (readAt td cs off)
      | some ob => putO n g o.dst ((objCells ob).bind (readAt td · off))
      | none => none
    | some td, some (.cells cs) => putO n g o.dst (readAt td (cs.map .d) 0)
    | _, _ => none
  | .store t x y =>
    match T t, adr g x, taken T an g t y with
    | some td, some (.slot r off cs), some (v, ss) =>
      if v.cells.length = td.size ∧ off + td.size ≤ cs.length ∧ v.cells.all AV.isCell ∧ o.dst = none then some (ss ++ [(r, .lbox (writeAt cs off v.cells))], none) else none
    | some td, some (.obj a off), some (v, ss) =>
      match H[a]? with
      | some ob =>
        if v.cells.length = td.size ∧ v.cells.all AV.isCell ∧ o.dst = none then (writeObj ob off v.cells).map fun ob' => (ss, some (H.set a ob')) else none
      | none => none
    | _, _, _ => none
  | .fieldAddr t x f =>
    match fieldOf T t f, adr g x with
    | some (_, off, sz), some a => if sz = 0 then none else put n g o.dst (a.up off)
    | _, _ => none
  | .indexAddr t x i =>
    match T t, opv T g 0 i with
    | some { u := .array m e, .. }, some (.d (.int _ z)) =>
      match T e, adr g x with
      | some td, some a => if idxLo A i z && idxHi A i z m then put n g o.dst (a.up (idxNat A i z * td.size)) else none
      | _, _ => none
    | some { u := .slice e, .. }, some (.d (.int _ z)) =>
      match T e with
      | some td =>
        match (match x with | .tmp i => g i | _ => .undef) with
        | .d (.list k l) | .own k l =>
          if idxLo A i z && decide (k = td.size) then
            match A.lget l (idxNat A i z) with
            | some y => put n g o.dst (.iptr y.cells)
            | none => none
          else none
        | _ => none
      | none => none
    | _, _ => none
  | .field t x f =>
    match fieldOf T t f with
    | some (ft, off, _) =>
      match T ft, opv T g t x with
      | some td, some v => if v.isAggr then putO n g o.dst (readAt td v.cells off) else none
      | _, _ => none
    | none => none
  | .binOp op _ x y _ =>
    match opv T g 0 x, opv T g 0 y with
    | some (.d (.int k a)), some (.d (.int k' b)) =>
      match op with
      | .shl | .shr => putO n g o.dst ((shiftOp A op k a b).map .d)
      | op => if k = k' then putO n g o.dst ((intOp A op k a b).map .d) else none
    | _, _ => none
  | .unOp .not _ x =>
    match opv T g 0 x with
    | some (.d (.bool b)) => put n g o.dst (.d (.bool !b))
    | _ => none
  | .convert src dst x =>
    match T src, T dst, opv T g 0 x with
    | some _, some { u := .int k, .. }, some (.d (.int _ z)) => put n g o.dst (.d (.int k (A.wrp k z)))
    | _, _, _ => none
  | .extract x i =>
    match opv T g 0 x with
    | some (.tuple vs) => putO n g o.dst (vs[i]?.map AV.copy)
    | _ => none
  | .makeFunc (.func f) first caps =>
    match first.toList.mapM (opv T g 0), caps.toList.mapM (opv T g 0) with
    | some a, some b => put n g o.dst (.func f (a.map AV.copy) (b.map AV.copy))
    | _, _ => none
  | .slice t x lo hi mx =>
    match elemSize T t with
    | some es =>
      match listOf T g t x with
      | some (k, l) =>
        if k ≠ es then none else
        match bound g T (A.len l) hi, bound g T 0 lo with
        | some h, some lw =>
          if A.zle 0 lw && A.zle lw h && A.zle h (A.len l) && (mx.isNone || hi.isSome) then
            match mx with
            | none => put n g o.dst (.d (.list k (A.sub l lw h)))
            | some m =>
              match bound g T 0 (some m) with
              | some m => if A.zeq m h then put n g o.dst (.lim k (A.sub l lw h)) else none
              | none => none
          else none
        | _, _ => none
      | none => none
    | none => none
  | .call { callee := .builtin .len, args, argTypes } =>
    match args.toList, argTypes.toList with
    | [x], [t] =>
      match T t with
      | some { u := .slice _, .. } =>
        match listOf T g t x with
        | some (_, l) => put n g o.dst (.d (.int .i64 (A.len l)))
        | none => none
      | _ => none
    | _, _ => none
  | .call { callee := .builtin .append, args, argTypes } =>
    match args.toList, argTypes.toList with
    | [x, y], [t, u] =>
      match elemSize T t, elemSize T u, listOf T g u y, x, o.dst with
      | some k, some k1, some (k2, ys), .tmp s, some d =>
        match g s with
        | .own k' l => if decide (k' = k) && decide (k1 = k) && decide (k2 = k) && decide (0 < k) && decide (d < n) && !(g d).isBox && decide (s ≠ d) && A.fits (A.zadd (A.len l) (A.len ys)) then some ([(s, .d (.list k l)), (d, .own k (A.app l ys))], none) else none
        | .lim k' l => if isCons ys && decide (k' = k) && decide (k1 = k) && decide (k2 = k) && decide (0 < k) && decide (d < n) && !(g d).isBox && decide (s ≠ d) && A.fits (A.zadd (A.len l) (A.len ys)) then some ([(s, .d (.list k l)), (d, .own k (A.app l ys))], none) else none
        | _ => none
      | _, _, _, _, _ => none
    | _, _ => none
  | _ => none

/-- What lies in an operand's slot. -/
def slotAV (g : Nat → AV) : Operand → AV
  | .tmp i => g i
  | _ => .undef
/-- The zero value of a type, as data. -/
def zeroD (td : TD) : Option D :=
  if td.isAgg then (dataOf td.zero).map .agg else match dataOf td.zero with
    | some [x] => some x
    | _ => none
def opD (T : Types) (g : Nat → AV) (t : TypeId) (x : Operand) : Option D :=
  match opv T g t x with
  | some (.d y) => some y
  | _ => none
/-- Equality of two plain values. -/
def eqD (A : Ar) : D → D → Option Bool
  | .bool x, .bool y => some (A.beq x y)
  | .agg a, .agg b => some (A.deq a b)
  | _, _ => none
def evEq (A : Ar) (T : Types) (n : Nat) (g : Nat → AV) (dst : Option Tmp) (t : TypeId) (a b : D) (neg : Bool) : Res :=
  match T t, ksOf T 8 t, eqD A a b with
  | some td, some ks, some r => if keyConf td.isAgg ks a && keyConf td.isAgg ks b then put n g dst (.d (.bool (bif neg then !r else r))) else none
  | _, _, _ => none
/-- Operations on objects: lists that may be changed, maps; and equality. None: it is none of these. -/
def evObj (A : Ar) (T : Types) (n : Nat) (g : Nat → AV) (H : List Obj) (o : Oper) : Option Res :=
  match o.op with
  | .indexAddr t x i =>
    match slotAV g x with
    | .mref a k lo ln => some <|
      match T t, opv T g 0 i with
      | some { u := .slice e, .. }, some (.d (.int _ z)) =>
        match T e with
        | some td => if idxLo A i z && idxHi A i z ln && decide (k = td.size) then put n g o.dst (.eptr a k (A.zadd lo z) 0) else none
        | none => none
      | _, _ => none
    | _ => none
  | .fieldAddr t x f =>
    match slotAV g x with
    | .eptr a k i j => some <|
      match fieldOf T t f with
      | some (_, off, sz) => if sz = 0 then none else put n g o.dst (.eptr a k i (j + off))
      | none => none
    | _ => none
  | .load t x =>
    match slotAV g x with
    | .eptr a k i j => some <|
      match T t, H[a]? with
      | some td, some (.arr k' l) =>
        if k' = k then match A.lget l (A.nat i) with
          | some y => putO n g o.dst (readAt td (y.cells.map .d) j)
          | none => none
        else none
      | _, _ => none
    | _ => none
  | .store t x y =>
    match slotAV g x with
    | .eptr a k i j => some <|
      match T t, H[a]?, opD T g t y, o.dst with
      | some td, some (.arr k' l), some v, none =>
        if k' = k ∧ v.cells.length = td.size ∧ 0 < td.size then match A.lget l (A.nat i) with
          | some y0 =>
            if j = 0 ∧ td.size = k then some ([], some (H.set a (.arr k (A.lset l (A.nat i) v))))
            else match y0 with
              | .agg cs => if j + td.size ≤ cs.length then some ([], some (H.set a (.arr k (A.lset l (A.nat i) (.agg (cs.take j ++ v.cells ++ cs.drop (j + td.size))))))) else none
              | _ => none
          | none => none
        else none
      | _, _, _, _ => none
    | _ => none
  | .slice t x lo hi mx =>
    match slotAV g x with
    | .mref a k l0 ln => some <|
      match elemSize T t, bound g T ln hi, bound g T 0 lo with
      | some es, some h, some lw =>
        if decide (es = k) && A.zle 0 lw && A.zle lw h && A.zle h ln && mx.isNone then put n g o.dst (.mref a k (A.zadd l0 lw) (A.zsub h lw)) else none
      | _, _, _ => none
    | _ => none
  | .makeSlice t ln cp => some <|
    match T t, opD T g 0 ln, opD T g 0 cp, o.dst with
    | some { u := .slice e, .. }, some (.int _ z), some (.int _ z'), some d =>
      match T e with
      | some td =>
        match zeroD td with
        | some y =>
          if decide (d < n) && !(g d).isBox && decide (0 < td.size) && A.zeq z z' && A.zle 0 z && A.fits z then
            some ([(d, .mref H.length td.size 0 z)], some (H ++ [.arr td.size (A.rep z y)]))
          else none
        | none => none
      | none => none
    | _, _, _, _ => none
  | .makeMap t rs => some <|
    match T t, rs, o.dst with
    | some { u := .map kt _, .. }, none, some d =>
      match ksOf T 8 kt, T kt with
      | some ks, some tk => if decide (d < n) && !(g d).isBox then some ([(d, .map H.length)], some (H ++ [.map tk.isAgg ks []])) else none
      | _, _ => none
    | _, _, _ => none
  | .lookup t x ix ok => some <|
    match T t, slotAV g x with
    | some { u := .map kt et, .. }, .map a =>
      match ksOf T 8 kt, T kt, T et, H[a]?, opD T g kt ix with
      | some ks, some tk, some te, some (.map ag ks' es), some k =>
        if decide (ag = tk.isAgg) && keyConf ag ks k && decide (ks' = ks) then
          match A.mget es k with
          | some v => put n g o.dst (bif ok then .tuple [.d v, .d (.bool true)] else .d v)
          | none => match zeroD te with
            | some v => put n g o.dst (bif ok then .tuple [.d v, .d (.bool false)] else .d v)
            | none => none
        else none
      | _, _, _, _, _ => none
    | _, _ => none
  | .mapUpdate t x ix y => some <|
    match T t, slotAV g x, o.dst with
    | some { u := .map kt et, .. }, .map a, none =>
      match ksOf T 8 kt, T kt, H[a]?, opD T g kt ix, opD T g et y with
      | some ks, some tk, some (.map ag ks' es), some k, some v =>
        if decide (ag = tk.isAgg) && keyConf ag ks k && decide (ks' = ks) then some ([], some (H.set a (.map ag ks (A.mput es k v)))) else none
      | _, _, _, _, _ => none
    | _, _, _ => none
  | .binOp .eql t x y _ =>
    match y with
    | .const (.slice none 0 0) =>
      match T t, opD T g t x with
      | some { u := .slice _, .. }, some (.list _ l) => some (put n g o.dst (bif A.zlt 0 (A.len l) then .d (.bool false) else .abool))
      | _, _ => none
    | y =>
      match opD T g 0 x, opD T g 0 y with
      | some (.bool a), some (.bool b) => some (evEq A T n g o.dst t (.bool a) (.bool b) false)
      | some (.agg a), some (.agg b) => some (evEq A T n g o.dst t (.agg a) (.agg b) false)
      | _, _ => none
  | .binOp .neq t x y _ =>
    match opD T g 0 x, opD T g 0 y with
    | some (.bool a), some (.bool b) => some (evEq A T n g o.dst t (.bool a) (.bool b) true)
    | some (.agg a), some (.agg b) => some (evEq A T n g o.dst t (.agg a) (.agg b) true)
    | _, _ => none
  | .call { callee := .builtin .len, args, argTypes } =>
    match args.toList, argTypes.toList with
    | [x], [t] =>
      match slotAV g x, T t with
      | .mref _ _ _ ln, some { u := .slice _, .. } => some (put n g o.dst (.d (.int .i64 ln)))
      | _, _ => none
    | _, _ => none
  | .call { callee := .builtin .clear, args, argTypes } => some <|
    match args.toList, argTypes.toList with
    | [x], [t] =>
      match slotAV g x, T t with
      | .mref a k lo ln, some { u := .slice e, .. } =>
        match T e, H[a]? with
        | some td, some (.arr k' l) =>
          match zeroD td with
          | some y => if decide (k' = k) && decide (td.size = k) && A.zle (A.zadd lo ln) (A.len l) then (put n g o.dst (.tuple [])).map fun p => (p.1, some (H.set a (.arr k (A.fill l lo ln y)))) else none
          | none => none
        | _, _ => none
      | _, _ => none
    | _, _ => none
  | .call { callee := .builtin .min, args, .. } => some <|
    match args.toList with
    | [x, y] => match opD T g 0 x, opD T g 0 y with
      | some (.int k a), some (.int k' b) => if k = k' then put n g o.dst (.d (.int k (A.zmin a b))) else none
      | _, _ => none
    | _ => none
  | .call { callee := .builtin .max, args, .. } => some <|
    match args.toList with
    | [x, y] => match opD T g 0 x, opD T g 0 y with
      | some (.int k a), some (.int k' b) => if k = k' then put n g o.dst (.d (.int k (A.zmax a b))) else none
      | _, _ => none
    | _ => none
  | _ => none
def evCore (A : Ar) (T : Types) (an : Ann) (n : Nat) (g : Nat → AV) (H : List Obj) (o : Oper) : Res :=
  match evObj A T n g H o with
  | some r => r
  | none => evBase A T an n g H o

def operSlots (ops : List Oper) (o : Oper) : List Nat :=
  o.op.operands.toList.flatMap slotOf ++ o.dst.toList ++
  (match o.guard with
   | some (j, _) => ((ops[j]?).bind (·.dst)).toList
   | none => [])
def rdOf (g : Nat → AV) (ops : List Oper) (o : Oper) : List Nat :=
  operSlots ops o ++ (operSlots ops o).flatMap fun t => match g t with | .place r _ => [r] | _ => []

def only (rd : List Nat) (g : Nat → AV) : Nat → AV := fun t => if rd.contains t then g t else .undef
def evOp (A : Ar) (T : Types) (an : Ann) (ops : List Oper) (σ : St) (o : Oper) : Option Upd :=
  let rd := rdOf σ.get ops o
  let hr := heapy an (only rd σ.get) o
  match evCore A T an σ.n (only rd σ.get) (if hr then σ.heap else []) o with
  | some (ss, h) => if hr || h.isNone then some { sets := ss, heap := h, rd, hr } else none
  | none => none
end Go.Am
