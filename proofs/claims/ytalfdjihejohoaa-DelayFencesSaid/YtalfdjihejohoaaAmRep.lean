/- Own text: AmDefs, AmRep. -/
import Derived.WalkKit
import Derived.RangeFuncIn
import Derived.OrdersIn
/- Abstract values, abstract states and the evaluation of single operations on them. -/
namespace Go.Am

/-- Plain data: no pointer, no function, no map. -/
inductive D where
  | bool (b : Bool)
  | int (k : IntKind) (n : Int)
  | str (s : ByteArray)
  | list (k : Nat) (l : List D)
  | agg (l : List D)
  | iface (t : TypeId) (x : D)
  | nilIface

/-- The cells of a value. -/
def D.cells : D → List D
  | .agg l => l
  | x => [x]
def D.flat (l : List D) : List D := l.flatMap D.cells

inductive AV where
  | undef
  | abool
  | d (x : D)
  | ptr (a off : Nat)
  | nilptr
  | iptr (cs : List D)
  | lbox (cs : List AV)
  | place (r off : Nat)
  | own (k : Nat) (l : List D)
  | lim (k : Nat) (l : List D)
  | func (f : FuncId) (first caps : List AV)
  | nilfunc
  | yield (l : Nat)
  | map (a : Nat)
  | nilmap
  | mref (a k : Nat) (lo n : Int)
  | eptr (a k : Nat) (i : Int) (j : Nat)
  | agg (cs : List AV)
  | tuple (vs : List AV)

/-- What a copy of a value is: the right to append stays behind. -/
def AV.copy : AV → AV
  | .own k l => .d (.list k l)
  | .lim k l => .d (.list k l)
  | .lbox _ => .undef
  | .place .. => .undef
  | x => x
def AV.isUndef : AV → Bool
  | .undef => true
  | _ => false
def AV.isBox : AV → Bool
  | .lbox _ => true
  | _ => false
def AV.isAggr : AV → Bool
  | .d (.agg _) | .agg _ => true
  | _ => false
/-- May it lie in one cell? -/
def AV.isCell : AV → Bool
  | .d (.agg _) | .agg _ | .tuple _ | .lbox _ | .undef | .place _ _ => false
  | _ => true
def dataOf : List AV → Option (List D)
  | [] => some []
  | .d x :: r => (dataOf r).map (x :: ·)
  | .own k l :: r => (dataOf r).map (.list k l :: ·)
  | .lim k l :: r => (dataOf r).map (.list k l :: ·)
  | _ => none
/-- An aggregate of cells: plain data where all of them are. -/
def mkAgg (cs : List AV) : AV :=
  match dataOf cs with
  | some ds => .d (.agg ds)
  | none => .agg (cs.map AV.copy)
/-- The cells of an abstract value. -/
def AV.cells : AV → List AV
  | .d (.agg l) => l.map .d
  | .agg l => l
  | x => [x]

inductive CK where
  | int (k : IntKind)
  | bool
  | str
  deriving DecidableEq
/-- The record of a range over a function. -/
structure ALoop where
  st : LoopState
  pending : Option Code
  env : List (Nat × AV)
  n : Nat
  params : Array Tmp
  assign : Code
  body : Code

inductive Obj where
  | cells (cs : List AV)
  | arr (k : Nat) (l : List D)
  | map (agg : Bool) (ks : List CK) (es : List (D × D))
  | loop (L : ALoop)
  | dead

/-- What is known of a type. -/
inductive TU where
  | slice (e : TypeId)
  | array (n : Nat) (e : TypeId)
  | struct (fs : List (TypeId × Nat))
  | map (k e : TypeId)
  | int (k : IntKind)
  | bool
  | string
  | other
structure TD where
  size : Nat
  u : TU
  zero : List AV
def TD.isAgg (t : TD) : Bool :=
  match t.u with
  | .array .. | .struct _ => true
  | _ => false
abbrev Types := TypeId → Option TD

def CK.fits : CK → D → Bool
  | .int k, .int k' _ => decide (k = k')
  | .bool, .bool _ => true
  | .str, .str _ => true
  | _, _ => false
def confD : List CK → List D → Bool
  | [], [] => true
  | k :: ks, x :: xs => k.fits x && confD ks xs
  | _, _ => false
def ksFs (f : TypeId → Option (List CK)) : Nat → List (TypeId × Nat) → Option (List CK)
  | _, [] => some []
  | o, (t, off) :: r =>
    if off = o then
      match f t with
      | some ks => match ksFs f (o + ks.length) r with
        | some ks' => some (ks ++ ks')
        | none => none
      | none => none
    else none
def ksU (f : TypeId → Option (List CK)) : TU → Option (List CK)
  | .int k => some [.int k]
  | .bool => some [.bool]
  | .string => some [.str]
  | .array m e => match f e with
    | some ks => some (List.replicate m ks).flatten
    | none => none
  | .struct fs => ksFs f 0 fs
  | _ => none
/-- The kinds of the cells of a type whose values are compared cell by cell. -/
def ksOf (T : Types) : Nat → TypeId → Option (List CK)
  | 0, _ => none
  | n + 1, t =>
    match T t with
    | some td =>
      match ksU (ksOf T n) td.u with
      | some ks => if ks.length = td.size then some ks else none
      | none => none
    | none => none

structure St where
  env : List (Nat × AV)
  heap : List Obj
  n : Nat

def eget : List (Nat × AV) → Nat → AV
  | [], _ => .undef
  | (s, v) :: r, t => if s = t then v else eget r t
def eset : List (Nat × AV) → Nat → AV → List (Nat × AV)
  | [], t, v => [(t, v)]
  | (s, u) :: r, t, v => if s = t then (s, v) :: r else (s, u) :: eset r t v
def St.get (σ : St) (t : Nat) : AV := eget σ.env t

theorem eget_eset (e : List (Nat × AV)) (t s : Nat) (v : AV) : eget (eset e t v) s = if t = s then v else eget e s := by
  induction e with
  | nil => simp [eset, eget]
  | cons p r ih =>
    obtain ⟨q, u⟩ := p
    simp only [eset]
    split
    · subst q; simp only [eget]; split <;> simp_all
    · rename_i hq; simp only [eget, ih]; by_cases h1 : q = s
      · subst h1; have h2 : ¬ t = q := fun h => hq h.symm; simp [h2]
      · simp [h1]

structure Ann where
  esc : List Nat := []
  tk : List Nat := []
  arr : List Nat := []

/-- What an operation does to an abstract state. -/
structure Upd where
  sets : List (Nat × AV)
  heap : Option (List Obj)
  rd : List Nat
  hr : Bool
def esets (e : List (Nat × AV)) (l : List (Nat × AV)) : List (Nat × AV) := l.foldl (fun e p => eset e p.1 p.2) e
def St.app (σ : St) (u : Upd) : St := { σ with env := esets σ.env u.sets, heap := u.heap.getD σ.heap }

/-- A value of one cell. -/
def D.isOne : D → Bool
  | .agg _ => false
  | _ => true
/-- The element size of a slice type. -/
def elemSize (T : Types) (t : TypeId) : Option Nat :=
  match T t with
  | some { u := .slice e, .. } => (T e).map (·.size)
  | _ => none

def constAV (T : Types) (t : TypeId) : Value → Option AV
  | .bool b => some (.d (.bool b))
  | .int k n => some (.d (.int k n))
  | .string s => some (.d (.str s))
  | .slice none 0 0 => (elemSize T t).map fun k => .own k []
  | .pointer none => some .nilptr
  | .map none => some .nilmap
  | .nilFunc => some .nilfunc
  | .nilIface => some (.d .nilIface)
  | _ => none

/-- An operand's value at a type, as a copy (but for a nil slice that is written out, which may be appended to). -/
def opv (T : Types) (g : Nat → AV) (t : TypeId) : Operand → Option AV
  | .tmp i => some (g i).copy
  | .const v => constAV T t v
  | .func f => some (.func f [] [])
  | .global _ => none
def slotOf : Operand → List Nat
  | .tmp i => [i]
  | _ => []

/-- Part of a list of cells. -/
def cut {α : Type} (cs : List α) (off n : Nat) : Option (List α) := if off + n ≤ cs.length then some ((cs.drop off).take n) else none
/-- What is read out of cells. -/
def readAt (td : TD) (cs : List AV) (off : Nat) : Option AV :=
  match cut cs off td.size with
  | some l => if td.isAgg then some (mkAgg l) else l.head?.map AV.copy
  | none => none
def writeAt (cs : List AV) (off : Nat) (vs : List AV) : List AV := cs.take off ++ vs ++ cs.drop (off + vs.length)

/-- An address: a place in a box of a slot, in an object, or among cells that stay. -/
inductive Adr where
  | slot (r off : Nat) (cs : List AV)
  | obj (a off : Nat)
  | cells (cs : List D)
def adr (g : Nat → AV) : Operand → Option Adr
  | .tmp i =>
    match g i with
    | .lbox cs => some (.slot i 0 cs)
    | .place r off => match g r with
      | .lbox cs => some (.slot r off cs)
      | _ => none
    | .ptr a off => some (.obj a off)
    | .iptr cs => some (.cells cs)
    | _ => none
  | _ => none
def Adr.up (n : Nat) : Adr → AV
  | .slot r off _ => .place r (off + n)
  | .obj a off => .ptr a (off + n)
  | .cells cs => .iptr (cs.drop n)

/-- The list that an operand is, without taking it. -/
def listOf (T : Types) (g : Nat → AV) (t : TypeId) (x : Operand) : Option (Nat × List D) :=
  match opv T g t x with
  | some (.d (.list k l)) | some (.own k l) => some (k, l)
  | _ => none

open Classical in
noncomputable def mget : List (D × D) → D → Option D
  | [], _ => none
  | p :: r, k => if p.1 = k then some p.2 else mget r k
open Classical in
noncomputable def mput : List (D × D) → D → D → List (D × D)
  | [], k, v => [(k, v)]
  | p :: r, k, v => if p.1 = k then (k, v) :: r else p :: mput r k v
def keyConf (agg : Bool) (ks : List CK) (d : D) : Bool :=
  confD ks d.cells && (match d with | .agg _ => agg | _ => !agg)
/-- The operations on numbers and lists that evaluation leaves alone: it runs over a variable of this type. -/
structure Ar where
  zle : Int → Int → Bool
  zlt : Int → Int → Bool
  zeq : Int → Int → Bool
  wrp : IntKind → Int → Int
  zadd : Int → Int → Int
  zsub : Int → Int → Int
  zmul : Int → Int → Int
  nat : Int → Nat
  len : List D → Int
  lget : List D → Nat → Option D
  fits : Int → Bool
  sub : List D → Int → Int → List D
  app : List D → List D → List D
  quo : IntKind → Int → Int → Int
  rem : Int → Int → Int
  shl : IntKind → Int → Int → Int
  shr : IntKind → Int → Int → Int
  bits : BinOp → IntKind → Int → Int → Int
  deq : List D → List D → Bool
  beq : Bool → Bool → Bool
  zmin : Int → Int → Int
  zmax : Int → Int → Int
  mget : List (D × D) → D → Option D
  mput : List (D × D) → D → D → List (D × D)
  lset : List D → Nat → D → List D
  fill : List D → Int → Int → D → List D
  rep : Int → D → List D
def bitsStd (op : BinOp) (k : IntKind) (x y : Int) : Int :=
  let a := BitVec.ofInt k.bits x
  let b := BitVec.ofInt k.bits y
  match op with
  | .and => k.wrap (a &&& b).toNat
  | .or => k.wrap (a ||| b).toNat
  | .xor => k.wrap (a ^^^ b).toNat
  | _ => k.wrap (a &&& ~~~b).toNat
/-- Elements lo to lo + n are made one. -/
def fillStd (l : List D) (lo n : Int) (x : D) : List D := l.take lo.toNat ++ List.replicate n.toNat x ++ l.drop (lo.toNat + n.toNat)
open Classical in
noncomputable def Ar.std : Ar where
  zle x y := decide (x ≤ y)
  zlt x y := decide (x < y)
  zeq x y := decide (x = y)
  wrp k x := k.wrap x
  zadd x y := x + y
  zsub x y := x - y
  zmul x y := x * y
  nat x := x.toNat
  len l := (l.length : Int)
  lget l i := l[i]?
  fits n := decide (n < 4294967296)
  sub l lo hi := (l.drop lo.toNat).take (hi.toNat - lo.toNat)
  app l m := l ++ m
  quo k x y := k.wrap (x.tdiv y)
  rem x y := x.tmod y
  shl k x y := k.wrap (x * 2 ^ (min y.toNat k.bits))
  shr k x y := x.fdiv (2 ^ (min y.toNat k.bits))
  bits := bitsStd
  deq a b := decide (a = b)
  beq a b := a == b
  zmin x y := if y < x then y else x
  zmax x y := if y > x then y else x
  mget := Am.mget
  mput := Am.mput
  lset l i x := l.set i x
  fill := fillStd
  rep n x := List.replicate n.toNat x

def intOp (A : Ar) (op : BinOp) (k : IntKind) (x y : Int) : Option D :=
  match op with
  | .add => some (.int k (A.wrp k (A.zadd x y)))
  | .sub => some (.int k (A.wrp k (A.zsub x y)))
  | .mul => some (.int k (A.wrp k (A.zmul x y)))
  | .eql => some (.bool (A.zeq x y))
  | .neq => some (.bool (!A.zeq x y))
  | .lss => some (.bool (A.zlt x y))
  | .leq => some (.bool (A.zle x y))
  | .gtr => some (.bool (A.zlt y x))
  | .geq => some (.bool (A.zle y x))
  | .quo => if A.zeq y 0 then none else some (.int k (A.quo k x y))
  | .rem => if A.zeq y 0 then none else some (.int k (A.rem x y))
  | .and | .or | .xor | .andNot => some (.int k (A.bits op k x y))
  | _ => none
def shiftOp (A : Ar) (op : BinOp) (k : IntKind) (x y : Int) : Option D :=
  if A.zlt y 0 then none else
  match op with
  | .shl => some (.int k (A.shl k x y))
  | .shr => some (.int k (A.shr k x y))
  | _ => none
end Go.Am
namespace Go.Am

abbrev Sets := List (Nat × AV)
abbrev Res := Option (Sets × Option (List Obj))

/-- The result goes into the operation's own slot (which holds no box). -/
def put (n : Nat) (g : Nat → AV) (dst : Option Tmp) (v : AV) : Res :=
  match dst with
  | some d => if decide (d < n) && !(g d).isBox then some ([(d, v)], none) else none
  | none => some ([], none)
def putO (n : Nat) (g : Nat → AV) (dst : Option Tmp) (v : Option AV) : Res :=
  match v with
  | some v => put n g dst v
  | none => none

def pickAV (t : Bool) : AV → AV → AV
  | .d (.bool x), .d (.bool y) => .d (.bool (bif t then x else y))
  | a, b => bif t then a else b

def fieldOf (T : Types) (t : TypeId) (f : Nat) : Option (TypeId × Nat × Nat) :=
  match T t with
  | some { u := .struct fs, .. } =>
    match fs[f]? with
    | some (ft, off) => (T ft).map fun td => (ft, off, td.size)
    | none => none
  | _ => none

/-- Where part i of a composite value lies, its type and size. -/
def partOf (T : Types) (t : TypeId) (i : Nat) : Option (TypeId × Nat × Nat) :=
  match T t with
  | some { u := .struct fs, .. } =>
    match fs[i]? with
    | some (ft, off) => (T ft).map fun td => (ft, off, td.size)
    | none => none
  | some { u := .array m e, .. } => if i < m then (T e).map fun td => (e, i * td.size, td.size) else none
  | _ => none
def partsKnown (T : Types) : TU → Bool
  | .struct fs => fs.all fun p => (T p.1).isSome
  | .array _ e => (T e).isSome
  | _ => false
def fillIn (T : Types) (g : Nat → AV) (t : TypeId) : List (Nat × Operand) → List AV → Option (List AV)
  | [], cs => some cs
  | (i, x) :: r, cs =>
    match partOf T t i with
    | some (ft, off, sz) =>
      match opv T g ft x with
      | some v => if v.cells.length = sz ∧ off + sz ≤ cs.length ∧ v.cells.all AV.isCell then fillIn T g t r (writeAt cs off v.cells) else none
      | none => none
    | none => none
def elemsOf (T : Types) (g : Nat → AV) (e : TypeId) (sz : Nat) : List (Nat × Operand) → Nat → Option (List D)
  | [], _ => some []
  | (j, x) :: r, i =>
    match opv T g e x with
    | some v =>
      match dataOf [v], elemsOf T g e sz r (i + 1) with
      | some [y], some l => if j = i ∧ y.cells.length = sz then some (y :: l) else none
      | _, _ => none
    | none => none

def objCells : Obj → Option (List AV)
  | .cells cs => some cs
  | .arr _ l => some ((D.flat l).map .d)
  | _ => none
/-- New cells within one element. -/
def D.upd (x : D) (off : Nat) (vs : List D) : D :=
  match x with
  | .agg cs => .agg (cs.take off ++ vs ++ cs.drop (off + vs.length))
  | x => match vs with
    | [v] => v
    | _ => x
def writeObj (o : Obj) (off : Nat) (vs : List AV) : Option Obj :=
  match o with
  | .cells cs => if off + vs.length ≤ cs.length then some (.cells (writeAt cs off vs)) else none
  | _ => none

/-- A value to be stored, and what becomes of the slot that it is taken from. -/
def taken (T : Types) (an : Ann) (g : Nat → AV) (t : TypeId) (x : Operand) : Option (AV × Sets) :=
  match x with
  | .tmp s =>
    if an.tk.contains s then
      match g s with
      | .own k l => some (.own k l, [(s, .d (.list k l))])
      | v => some (v.copy, [])
    else some ((g s).copy, [])
  | x => (opv T g t x).map (·, [])

def bound (g : Nat → AV) (T : Types) (d : Int) : Option Operand → Option Int
  | none => some d
  | some x =>
    match opv T g 0 x with
    | some (.d (.int _ n)) => some n
    | _ => none

def isCons : List D → Bool
  | [] => false
  | _ :: _ => true

/-- An index: one that is written out is decided at once. -/
def idxLo (A : Ar) (i : Operand) (z : Int) : Bool :=
  match i with
  | .const _ => decide (0 ≤ z)
  | _ => A.zle 0 z
def idxHi (A : Ar) (i : Operand) (z m : Int) : Bool :=
  match i with
  | .const _ => decide (z < m)
  | _ => A.zlt z m
def idxNat (A : Ar) (i : Operand) (z : Int) : Nat :=
  match i with
  | .const _ => z.toNat
  | _ => A.nat z
theorem idxLo_std (i : Operand) (z : Int) : idxLo Ar.std i z = decide (0 ≤ z) := by cases i <;> rfl
theorem idxHi_std (i : Operand) (z m : Int) : idxHi Ar.std i z m = decide (z < m) := by cases i <;> rfl
theorem idxNat_std (i : Operand) (z : Int) : idxNat Ar.std i z = z.toNat := by cases i <;> rfl

/-- Whether the operation looks into the abstract heap. -/
def heapy (an : Ann) (g : Nat → AV) (o : Oper) : Bool :=
  (match o.op with
   | .alloc _ | .box .. => match o.dst with | some d => an.esc.contains d | none => false
   | .makeMap .. | .makeSlice .. => true
   | .load _ x | .store _ x _ | .indexAddr _ x _ | .slice _ x _ _ _ | .lookup _ x _ _ | .mapUpdate _ x _ _ | .mapEntry _ x _ | .entryStore _ x _ _ =>
     match x with
     | .tmp i => match g i with | .ptr .. | .map _ | .mref .. | .eptr .. => true | _ => false
     | _ => false
   | .call { callee := .builtin _, args, .. } => args.toList.any fun
     | .tmp i => match g i with | .map _ | .mref .. => true | _ => false
     | _ => false
   | _ => false)

def evBase (A : Ar) (T : Types) (an : Ann) (n : Nat) (g : Nat → AV) (H : List Obj) (o : Oper) : Res :=
  match o.op with
  | .move x | .assign x =>
    match taken T an g o.type x, o.dst with
    | some (v, ss), some d => if decide (d < n) && !(g d).isBox && !(slotOf x).contains d then some (ss ++ [(d, v)], none) else none
    | _, _ => none
  | .pick c a b =>
    match opv T g o.type c, opv T g o.type a, opv T g o.type b with
    | some (.d (.bool t)), some x, some y => put n g o.dst (pickAV t x.copy y.copy)
    | _, _, _ => none
  | .alloc t =>
    match T t, o.dst with
    | some td, some d =>
      if decide (d < n) && (g d).isUndef then
        if an.esc.contains d then some ([(d, .ptr H.length 0)], some (H ++ [.cells td.zero]))
        else some ([(d, .lbox td.zero)], none)
      else none
    | _, _ => none
  | .box t x =>
    match T t, opv T g t x, o.dst with
    | some td, some v, some d =>
      if decide (d < n) && (g d).isUndef && decide (v.cells.length = td.size) && v.cells.all AV.isCell then
        if an.esc.contains d then some ([(d, .ptr H.length 0)], some (H ++ [.cells v.cells]))
        else some ([(d, .lbox v.cells)], none)
      else none
    | _, _, _ => none
  | .build t parts =>
    match T t with
    | some td => if td.isAgg && partsKnown T td.u then putO n g o.dst ((fillIn T g t parts.toList td.zero).map mkAgg) else none
    | none => none
  | .buildSlice t cnt parts =>
    match T t with
    | some { u := .slice e, .. } =>
      match T e with
      | some td =>
        if decide (parts.size = cnt) && decide (0 < td.size) && decide (cnt * td.size ≤ 4096) && o.dst.isSome then
          match elemsOf T g e td.size parts.toList 0 with
          | some l => put n g o.dst (.own td.size l)
          | none => none
        else none
      | none => none
    | _ => none
  | .load t x =>
    match T t, adr g x with
    | some td, some (.slot r off cs) =>
      match o.dst, cs[off]? with
      | some d, some (.own k l) =>
        if an.tk.contains d && !td.isAgg then (put n g o.dst (.own k l)).map fun p => ([(r, .lbox (cs.set off (.d (.list k l))))] ++ p.1, p.2)
        else putO n g o.dst (readAt td cs off)
      | _, _ => putO n g o.dst (readAt td cs off)
    | some td, some (.obj a off) =>
      match H[a]? with
      | some (.cells cs) =>
        match o.dst, cs[off]? with
        | some d, some (.own k l) =>
          if an.tk.contains d && !td.isAgg then (put n g o.dst (.own k l)).map fun p => (p.1, some (H.set a (.cells (cs.set off (.d (.list k l))))))
          else putO n g o.dst (readAt td cs off)
        | _, _ => putO n g o.dst (readAt td cs off)
      | some ob => putO n g o.dst ((objCells ob).bind (readAt td · off))
      | none => none
    | some td, some (.cells cs) => putO n g o.dst (readAt td (cs.map .d) 0)
    | _, _ => none
  | .store t x y =>
    match T t, adr g x, taken T an g t y with
    | some td, some (.slot r off cs), some (v, ss) =>
      if v.cells.length = td.size ∧ off + td.size ≤ cs.length ∧ v.cells.all AV.isCell ∧ o.dst = none then some (ss ++ [(r, .lbox (writeAt cs off v.cells))], none) else none
    | some td, some (.obj a off), some (v, ss) =>
      match H[a]? with
      | some ob =>
        if v.cells.length = td.size ∧ v.cells.all AV.isCell ∧ o.dst = none then (writeObj ob off v.cells).map fun ob' => (ss, some (H.set a ob')) else none
      | none => none
    | _, _, _ => none
  | .fieldAddr t x f =>
    match fieldOf T t f, adr g x with
    | some (_, off, sz), some a => if sz = 0 then none else put n g o.dst (a.up off)
    | _, _ => none
  | .indexAddr t x i =>
    match T t, opv T g 0 i with
    | some { u := .array m e, .. }, some (.d (.int _ z)) =>
      match T e, adr g x with
      | some td, some a => if idxLo A i z && idxHi A i z m then put n g o.dst (a.up (idxNat A i z * td.size)) else none
      | _, _ => none
    | some { u := .slice e, .. }, some (.d (.int _ z)) =>
      match T e with
      | some td =>
        match (match x with | .tmp i => g i | _ => .undef) with
        | .d (.list k l) | .own k l =>
          if idxLo A i z && decide (k = td.size) then
            match A.lget l (idxNat A i z) with
            | some y => put n g o.dst (.iptr y.cells)
            | none => none
          else none
        | _ => none
      | none => none
    | _, _ => none
  | .field t x f =>
    match fieldOf T t f with
    | some (ft, off, _) =>
      match T ft, opv T g t x with
      | some td, some v => if v.isAggr then putO n g o.dst (readAt td v.cells off) else none
      | _, _ => none
    | none => none
  | .binOp op _ x y _ =>
    match opv T g 0 x, opv T g 0 y with
    | some (.d (.int k a)), some (.d (.int k' b)) =>
      match op with
      | .shl | .shr => putO n g o.dst ((shiftOp A op k a b).map .d)
      | op => if k = k' then putO n g o.dst ((intOp A op k a b).map .d) else none
    | _, _ => none
  | .unOp .not _ x =>
    match opv T g 0 x with
    | some (.d (.bool b)) => put n g o.dst (.d (.bool !b))
    | _ => none
  | .convert src dst x =>
    match T src, T dst, opv T g 0 x with
    | some _, some { u := .int k, .. }, some (.d (.int _ z)) => put n g o.dst (.d (.int k (A.wrp k z)))
    | _, _, _ => none
  | .extract x i =>
    match opv T g 0 x with
    | some (.tuple vs) => putO n g o.dst (vs[i]?.map AV.copy)
    | _ => none
  | .makeFunc (.func f) first caps =>
    match first.toList.mapM (opv T g 0), caps.toList.mapM (opv T g 0) with
    | some a, some b => put n g o.dst (.func f (a.map AV.copy) (b.map AV.copy))
    | _, _ => none
  | .slice t x lo hi mx =>
    match elemSize T t with
    | some es =>
      match listOf T g t x with
      | some (k, l) =>
        if k ≠ es then none else
        match bound g T (A.len l) hi, bound g T 0 lo with
        | some h, some lw =>
          if A.zle 0 lw && A.zle lw h && A.zle h (A.len l) && (mx.isNone || hi.isSome) then
            match mx with
            | none => put n g o.dst (.d (.list k (A.sub l lw h)))
            | some m =>
              match bound g T 0 (some m) with
              | some m => if A.zeq m h then put n g o.dst (.lim k (A.sub l lw h)) else none
              | none => none
          else none
        | _, _ => none
      | none => none
    | none =>
      match T t, adr g x, lo, hi, mx with
      | some { u := .array m e, .. }, some (.cells cs), none, none, none =>
        match T e with
        | some td => if td.size = 1 ∧ cs.length = m ∧ cs.all D.isOne = true then put n g o.dst (.d (.list 1 cs)) else none
        | none => none
      | _, _, _, _, _ => none
  | .call { callee := .builtin .len, args, argTypes } =>
    match args.toList, argTypes.toList with
    | [x], [t] =>
      match T t with
      | some { u := .slice _, .. } =>
        match listOf T g t x with
        | some (_, l) => put n g o.dst (.d (.int .i64 (A.len l)))
        | none => none
      | _ => none
    | _, _ => none
  | .call { callee := .builtin .append, args, argTypes } =>
    match args.toList, argTypes.toList with
    | [x, y], [t, u] =>
      match elemSize T t, elemSize T u, listOf T g u y, x, o.dst with
      | some k, some k1, some (k2, ys), .tmp s, some d =>
        match g s with
        | .own k' l => if decide (k' = k) && decide (k1 = k) && decide (k2 = k) && decide (0 < k) && decide (d < n) && !(g d).isBox && decide (s ≠ d) && A.fits (A.zadd (A.len l) (A.len ys)) then some ([(s, .d (.list k l)), (d, .own k (A.app l ys))], none) else none
        | .lim k' l => if isCons ys && decide (k' = k) && decide (k1 = k) && decide (k2 = k) && decide (0 < k) && decide (d < n) && !(g d).isBox && decide (s ≠ d) && A.fits (A.zadd (A.len l) (A.len ys)) then some ([(s, .d (.list k l)), (d, .own k (A.app l ys))], none) else none
        | _ => none
      | _, _, _, _, _ => none
    | _, _ => none
  | _ => none

/-- What lies in an operand's slot. -/
def slotAV (g : Nat → AV) : Operand → AV
  | .tmp i => g i
  | _ => .undef
/-- The zero value of a type, as data. -/
def zeroD (td : TD) : Option D :=
  if td.isAgg then (dataOf td.zero).map .agg else match dataOf td.zero with
    | some [x] => some x
    | _ => none
def opD (T : Types) (g : Nat → AV) (t : TypeId) (x : Operand) : Option D :=
  match opv T g t x with
  | some (.d y) => some y
  | _ => none
/-- Equality of two plain values. -/
def eqD (A : Ar) : D → D → Option Bool
  | .bool x, .bool y => some (A.beq x y)
  | .agg a, .agg b => some (A.deq a b)
  | _, _ => none
def evEq (A : Ar) (T : Types) (n : Nat) (g : Nat → AV) (dst : Option Tmp) (t : TypeId) (a b : D) (neg : Bool) : Res :=
  match T t, ksOf T 8 t, eqD A a b with
  | some td, some ks, some r => if keyConf td.isAgg ks a && keyConf td.isAgg ks b then put n g dst (.d (.bool (bif neg then !r else r))) else none
  | _, _, _ => none
/-- Operations on objects: lists that may be changed, maps; and equality. None: it is none of these. -/
def evObj (A : Ar) (T : Types) (n : Nat) (g : Nat → AV) (H : List Obj) (o : Oper) : Option Res :=
  match o.op with
  | .indexAddr t x i =>
    match slotAV g x with
    | .mref a k lo ln => some <|
      match T t, opv T g 0 i with
      | some { u := .slice e, .. }, some (.d (.int _ z)) =>
        match T e with
        | some td => if idxLo A i z && idxHi A i z ln && decide (k = td.size) then put n g o.dst (.eptr a k (A.zadd lo z) 0) else none
        | none => none
      | _, _ => none
    | _ => none
  | .fieldAddr t x f =>
    match slotAV g x with
    | .eptr a k i j => some <|
      match fieldOf T t f with
      | some (_, off, sz) => if sz = 0 then none else put n g o.dst (.eptr a k i (j + off))
      | none => none
    | _ => none
  | .load t x =>
    match slotAV g x with
    | .eptr a k i j => some <|
      match T t, H[a]? with
      | some td, some (.arr k' l) =>
        if k' = k then match A.lget l (A.nat i) with
          | some y => putO n g o.dst (readAt td (y.cells.map .d) j)
          | none => none
        else none
      | _, _ => none
    | _ => none
  | .store t x y =>
    match slotAV g x with
    | .eptr a k i j => some <|
      match T t, H[a]?, opD T g t y, o.dst with
      | some td, some (.arr k' l), some v, none =>
        if k' = k ∧ v.cells.length = td.size ∧ 0 < td.size then match A.lget l (A.nat i) with
          | some y0 =>
            if j = 0 ∧ td.size = k then some ([], some (H.set a (.arr k (A.lset l (A.nat i) v))))
            else match y0 with
              | .agg cs => if j + td.size ≤ cs.length then some ([], some (H.set a (.arr k (A.lset l (A.nat i) (.agg (cs.take j ++ v.cells ++ cs.drop (j + td.size))))))) else none
              | _ => none
          | none => none
        else none
      | _, _, _, _ => none
    | _ => none
  | .slice t x lo hi mx =>
    match slotAV g x with
    | .mref a k l0 ln => some <|
      match elemSize T t, bound g T ln hi, bound g T 0 lo with
      | some es, some h, some lw =>
        if decide (es = k) && A.zle 0 lw && A.zle lw h && A.zle h ln && mx.isNone then put n g o.dst (.mref a k (A.zadd l0 lw) (A.zsub h lw)) else none
      | _, _, _ => none
    | _ => none
  | .makeSlice t ln cp => some <|
    match T t, opD T g 0 ln, opD T g 0 cp, o.dst with
    | some { u := .slice e, .. }, some (.int _ z), some (.int _ z'), some d =>
      match T e with
      | some td =>
        match zeroD td with
        | some y =>
          if decide (d < n) && !(g d).isBox && decide (0 < td.size) && A.zeq z z' && A.zle 0 z && A.fits z then
            some ([(d, .mref H.length td.size 0 z)], some (H ++ [.arr td.size (A.rep z y)]))
          else none
        | none => none
      | none => none
    | _, _, _, _ => none
  | .makeMap t rs => some <|
    match T t, rs, o.dst with
    | some { u := .map kt _, .. }, none, some d =>
      match ksOf T 8 kt, T kt with
      | some ks, some tk => if decide (d < n) && !(g d).isBox then some ([(d, .map H.length)], some (H ++ [.map tk.isAgg ks []])) else none
      | _, _ => none
    | _, _, _ => none
  | .lookup t x ix ok => some <|
    match T t, slotAV g x with
    | some { u := .map kt et, .. }, .map a =>
      match ksOf T 8 kt, T kt, T et, H[a]?, opD T g kt ix with
      | some ks, some tk, some te, some (.map ag ks' es), some k =>
        if decide (ag = tk.isAgg) && keyConf ag ks k && decide (ks' = ks) then
          match A.mget es k with
          | some v => put n g o.dst (bif ok then .tuple [.d v, .d (.bool true)] else .d v)
          | none => match zeroD te with
            | some v => put n g o.dst (bif ok then .tuple [.d v, .d (.bool false)] else .d v)
            | none => none
        else none
      | _, _, _, _, _ => none
    | _, _ => none
  | .mapUpdate t x ix y => some <|
    match T t, slotAV g x, o.dst with
    | some { u := .map kt et, .. }, .map a, none =>
      match ksOf T 8 kt, T kt, H[a]?, opD T g kt ix, opD T g et y with
      | some ks, some tk, some (.map ag ks' es), some k, some v =>
        if decide (ag = tk.isAgg) && keyConf ag ks k && decide (ks' = ks) then some ([], some (H.set a (.map ag ks (A.mput es k v)))) else none
      | _, _, _, _, _ => none
    | _, _, _ => none
  | .binOp .eql t x y _ =>
    match y with
    | .const (.slice none 0 0) =>
      match T t, opD T g t x with
      | some { u := .slice _, .. }, some (.list _ l) => some (put n g o.dst (bif A.zlt 0 (A.len l) then .d (.bool false) else .abool))
      | _, _ => none
    | y =>
      match opD T g 0 x, opD T g 0 y with
      | some (.bool a), some (.bool b) => some (evEq A T n g o.dst t (.bool a) (.bool b) false)
      | some (.agg a), some (.agg b) => some (evEq A T n g o.dst t (.agg a) (.agg b) false)
      | _, _ => none
  | .binOp .neq t x y _ =>
    match opD T g 0 x, opD T g 0 y with
    | some (.bool a), some (.bool b) => some (evEq A T n g o.dst t (.bool a) (.bool b) true)
    | some (.agg a), some (.agg b) => some (evEq A T n g o.dst t (.agg a) (.agg b) true)
    | _, _ => none
  | .call { callee := .builtin .len, args, argTypes } =>
    match args.toList, argTypes.toList with
    | [x], [t] =>
      match slotAV g x, T t with
      | .mref _ _ _ ln, some { u := .slice _, .. } => some (put n g o.dst (.d (.int .i64 ln)))
      | _, _ => none
    | _, _ => none
  | .call { callee := .builtin .clear, args, argTypes } => some <|
    match args.toList, argTypes.toList with
    | [x], [t] =>
      match slotAV g x, T t with
      | .mref a k lo ln, some { u := .slice e, .. } =>
        match T e, H[a]? with
        | some td, some (.arr k' l) =>
          match zeroD td with
          | some y => if decide (k' = k) && decide (td.size = k) && A.zle (A.zadd lo ln) (A.len l) then (put n g o.dst (.tuple [])).map fun p => (p.1, some (H.set a (.arr k (A.fill l lo ln y)))) else none
          | none => none
        | _, _ => none
      | _, _ => none
    | _, _ => none
  | .call { callee := .builtin .min, args, .. } => some <|
    match args.toList with
    | [x, y] => match opD T g 0 x, opD T g 0 y with
      | some (.int k a), some (.int k' b) => if k = k' then put n g o.dst (.d (.int k (A.zmin a b))) else none
      | _, _ => none
    | _ => none
  | .call { callee := .builtin .max, args, .. } => some <|
    match args.toList with
    | [x, y] => match opD T g 0 x, opD T g 0 y with
      | some (.int k a), some (.int k' b) => if k = k' then put n g o.dst (.d (.int k (A.zmax a b))) else none
      | _, _ => none
    | _ => none
  | _ => none
def evCore (A : Ar) (T : Types) (an : Ann) (n : Nat) (g : Nat → AV) (H : List Obj) (o : Oper) : Res :=
  match evObj A T n g H o with
  | some r => r
  | none => evBase A T an n g H o

def operSlots (ops : List Oper) (o : Oper) : List Nat :=
  o.op.operands.toList.flatMap slotOf ++ o.dst.toList ++
  (match o.guard with
   | some (j, _) => ((ops[j]?).bind (·.dst)).toList
   | none => [])
def rdOf (g : Nat → AV) (ops : List Oper) (o : Oper) : List Nat :=
  operSlots ops o ++ (operSlots ops o).flatMap fun t => match g t with | .place r _ => [r] | _ => []

def only (rd : List Nat) (g : Nat → AV) : Nat → AV := fun t => if rd.contains t then g t else .undef
def evOp (A : Ar) (T : Types) (an : Ann) (ops : List Oper) (σ : St) (o : Oper) : Option Upd :=
  let rd := rdOf σ.get ops o
  let hr := heapy an (only rd σ.get) o
  match evCore A T an σ.n (only rd σ.get) (if hr then σ.heap else []) o with
  | some (ss, h) => if hr || h.isNone then some { sets := ss, heap := h, rd, hr } else none
  | none => none
end Go.Am

/- What abstract values say of a world: K: cells that stay; O: blocks that are owned, and from which cell on. -/
namespace Go.Am

inductive Root where
  | s (t : Nat)
  | o (i : Nat)
  | ret
  | df
  | no
  deriving DecidableEq
inductive Loc where
  | s (t : Nat)
  | sc (t j : Nat)
  | o (i : Nat)
  | oc (i j : Nat)
  | ret
  | df
  | no
  deriving DecidableEq
def Loc.root : Loc → Root
  | .s t | .sc t _ => .s t
  | .o i | .oc i _ => .o i
  | .ret => .ret
  | .df => .df
  | .no => .no

structure Gh where
  K : Addr → Option Value
  O : Nat → Option (Loc × Nat)
  β : Root → Nat
  nh : Nat

def uniform (k : Nat) (l : List D) : Prop := ∀ x ∈ l, x.cells.length = k

inductive RepD (K : Addr → Option Value) : D → Value → Prop
  | bool (b : Bool) : RepD K (.bool b) (.bool b)
  | int (k : IntKind) (n : Int) : RepD K (.int k n) (.int k n)
  | str (s : ByteArray) : RepD K (.str s) (.string s)
  | nilIface : RepD K .nilIface .nilIface
  | iface (t : TypeId) (x : D) (v : Value) (h : RepD K x v) : RepD K (.iface t x) (.iface t v)
  | agg (cs : List D) (vs : Array Value) (hs : vs.size = cs.length) (h : ∀ (i : Nat) (hi : i < cs.length), RepD K cs[i] (vs.getD i undef)) (h1 : ∀ v ∈ vs, v.oneCell' = true) : RepD K (.agg cs) (.agg vs)
  | nil (k : Nat) : RepD K (.list k []) (.slice none 0 0)
  | none0 (k : Nat) (a : Addr) : RepD K (.list k []) (.slice (some a) 0 0)
  | list (k : Nat) (l : List D) (b off cap : Nat) (vs : Nat → Value) (hu : uniform k l) (hc : l.length ≤ cap)
      (hK : ∀ j, j < (D.flat l).length → K ⟨b, off + j, none⟩ = some (vs j)) (h1 : ∀ j, j < (D.flat l).length → (vs j).oneCell' = true) (h : ∀ (j : Nat) (hj : j < (D.flat l).length), RepD K (D.flat l)[j] (vs j)) :
      RepD K (.list k l) (.slice (some ⟨b, off, none⟩) l.length cap)

def KLe (K K' : Addr → Option Value) : Prop := ∀ x v, K x = some v → K' x = some v
theorem KLe.refl (K : Addr → Option Value) : KLe K K := fun _ _ h => h
theorem KLe.trans {K K' K'' : Addr → Option Value} (h : KLe K K') (h' : KLe K' K'') : KLe K K'' := fun x v e => h' x v (h x v e)

theorem RepD.mono {K K' : Addr → Option Value} (hK : KLe K K') {x : D} {v : Value} (h : RepD K x v) : RepD K' x v := by
  induction h with
  | bool b => exact .bool b
  | int k n => exact .int k n
  | str s => exact .str s
  | nilIface => exact .nilIface
  | iface t x v _ ih => exact .iface t x v ih
  | agg cs vs hs _ h1 ih => exact .agg cs vs hs ih h1
  | nil k => exact .nil k
  | none0 k a => exact .none0 k a
  | list k l b off cap vs hu hc hk h1 _ ih => exact .list k l b off cap vs hu hc (fun j hj => hK _ _ (hk j hj)) h1 ih

theorem RepD.zero (K : Addr → Option Value) (k : Nat) (a : Option Addr) : RepD K (.list k []) (.slice a 0 0) := by
  cases a with
  | none => exact .nil k
  | some a => exact .none0 k a

/-- An owned list may be appended to in place: what lies behind it is its owner's. -/
def Tail (G : Gh) (w : World) (ℓ : Loc) (k : Nat) (v : Value) : Prop :=
  ∀ (a : Addr) (n cap : Nat), v = .slice (some a) n cap → 0 < cap →
    ∃ f c e, G.O a.block = some (ℓ, f) ∧ f ≤ a.off + n * k ∧ w.heap[a.block]? = some (.cells c e (0, 0)) ∧ a.off + cap * k ≤ c.size ∧ a.off = 0

/-- A value that bears no right. -/
def AV.free : AV → Bool
  | .own .. | .lim .. | .lbox _ | .place .. => false
  | _ => true
/-- A place or a box: it lies in a slot alone. -/
def AV.isLocal : AV → Bool
  | .place .. | .lbox _ => true
  | _ => false

inductive RepV (G : Gh) (w : World) : Loc → AV → Value → Prop
  | undef (ℓ : Loc) (v : Value) : RepV G w ℓ .undef v
  | abool (ℓ : Loc) (b : Bool) : RepV G w ℓ .abool (.bool b)
  | d (ℓ : Loc) (x : D) (v : Value) (h : RepD G.K x v) : RepV G w ℓ (.d x) v
  | ptr (ℓ : Loc) (a off : Nat) (ha : a < G.nh) : RepV G w ℓ (.ptr a off) (.pointer (some ⟨G.β (.o a), off, none⟩))
  | nilptr (ℓ : Loc) : RepV G w ℓ .nilptr (.pointer none)
  | iptr (ℓ : Loc) (cs : List D) (b off : Nat) (vs : Nat → Value) (hK : ∀ j, j < cs.length → G.K ⟨b, off + j, none⟩ = some (vs j))
      (h1 : ∀ j, j < cs.length → (vs j).oneCell' = true) (h : ∀ (j : Nat) (hj : j < cs.length), RepD G.K cs[j] (vs j)) : RepV G w ℓ (.iptr cs) (.pointer (some ⟨b, off, none⟩))
  | own (ℓ : Loc) (k : Nat) (l : List D) (v : Value) (h : RepD G.K (.list k l) v) (ht : Tail G w ℓ k v) : RepV G w ℓ (.own k l) v
  | lim (ℓ : Loc) (k : Nat) (l : List D) (v : Value) (h : RepD G.K (.list k l) v) (ht : ∀ a n cap, v = .slice a n cap → n = cap) : RepV G w ℓ (.lim k l) v
  | func (ℓ : Loc) (f : FuncId) (as bs : List AV) (va vb : Array Value) (ha : va.size = as.length) (hb : vb.size = bs.length)
      (h : ∀ (i : Nat) (hi : i < as.length), RepV G w .no as[i] (va.getD i Go.undef)) (h' : ∀ (i : Nat) (hi : i < bs.length), RepV G w .no bs[i] (vb.getD i Go.undef))
      (hc : ∀ c ∈ as, c.isLocal = false) (hc' : ∀ c ∈ bs, c.isLocal = false) :
      RepV G w ℓ (.func f as bs) (.func (.func f) va vb)
  | nilfunc (ℓ : Loc) : RepV G w ℓ .nilfunc .nilFunc
  | yield (ℓ : Loc) (l : Nat) (hl : l < G.nh) : RepV G w ℓ (.yield l) (.func (.yield (G.β (.o l))) #[] #[])
  | map (ℓ : Loc) (a : Nat) (ha : a < G.nh) : RepV G w ℓ (.map a) (.map (some (G.β (.o a))))
  | nilmap (ℓ : Loc) : RepV G w ℓ .nilmap (.map none)
  | lbox (t : Nat) (cs : List AV) (vs : Array Value) (e : TypeId) (hO : G.O (G.β (.s t)) = some (.s t, 0)) (hw : w.heap[G.β (.s t)]? = some (.cells vs e (0, 0)))
      (hs : vs.size = cs.length) (h : ∀ (j : Nat) (hj : j < cs.length), RepV G w (.sc t j) cs[j] (vs.getD j Go.undef)) (hc : ∀ c ∈ cs, c.isCell = true) :
      RepV G w (.s t) (.lbox cs) (.pointer (some ⟨G.β (.s t), 0, none⟩))
  | place (ℓ : Loc) (r off : Nat) : RepV G w ℓ (.place r off) (.pointer (some ⟨G.β (.s r), off, none⟩))
  | mref (ℓ : Loc) (a k : Nat) (lo n : Int) (b off cap : Nat) (ha : a < G.nh) (hlo : 0 ≤ lo) (hn : 0 ≤ n) (hc : n.toNat ≤ cap) (hb : 0 < n → b = G.β (.o a) ∧ off = lo.toNat * k) : RepV G w ℓ (.mref a k lo n) (.slice (some ⟨b, off, none⟩) n.toNat cap)
  | eptr (ℓ : Loc) (a k : Nat) (i : Int) (j : Nat) (ha : a < G.nh) (hi : 0 ≤ i) : RepV G w ℓ (.eptr a k i j) (.pointer (some ⟨G.β (.o a), i.toNat * k + j, none⟩))
  | agg (ℓ : Loc) (cs : List AV) (vs : Array Value) (hs : vs.size = cs.length) (h : ∀ (i : Nat) (hi : i < cs.length), RepV G w .no cs[i] (vs.getD i Go.undef))
      (hc : ∀ c ∈ cs, c.isCell = true) (hf : ∀ c ∈ cs, c.free = true) : RepV G w ℓ (.agg cs) (.agg vs)
  | tuple (ℓ : Loc) (cs : List AV) (vs : Array Value) (hs : vs.size = cs.length) (h : ∀ (i : Nat) (hi : i < cs.length), RepV G w .no cs[i] (vs.getD i Go.undef))
      (hc : ∀ c ∈ cs, c.isLocal = false) :
      RepV G w ℓ (.tuple cs) (.tuple vs)

/-- The value of a scalar. -/
def D.sval : D → Value
  | .int k n => .int k n
  | .bool b => .bool b
  | .str s => .string s
  | _ => Go.undef
def mkV (agg : Bool) (xs : List D) : Value :=
  if agg then .agg (xs.map D.sval).toArray else match xs with
  | x :: _ => x.sval
  | [] => Go.undef

/-- The entries of a map of the world. -/
inductive EntRep (K : Addr → Option Value) (agg : Bool) (ks : List CK) : List (D × D) → List MapEntry → Prop
  | nil : EntRep K agg ks [] []
  | cons {p : D × D} {m : MapEntry} {es : List (D × D)} {ms : List MapEntry} (hp : keyConf agg ks p.1 = true ∧ m.key = mkV agg p.1.cells ∧ RepD K p.2 m.val) (h : EntRep K agg ks es ms) : EntRep K agg ks (p :: es) (m :: ms)

theorem EntRep.mono {K K' : Addr → Option Value} (hK : KLe K K') {agg : Bool} {ks : List CK} {es : List (D × D)} {ms : List MapEntry} (h : EntRep K agg ks es ms) : EntRep K' agg ks es ms := by
  induction h with
  | nil => exact .nil
  | cons hp _ ih => exact .cons ⟨hp.1, hp.2.1, hp.2.2.mono hK⟩ ih

/-- What is owned by one of the locations S stays. -/
structure Pres (G G' : Gh) (w w' : World) (S : Loc → Prop) : Prop where
  K : KLe G.K G'.K
  O : ∀ (b : Nat) (ℓ : Loc) (f : Nat), S ℓ → G.O b = some (ℓ, f) → G'.O b = some (ℓ, f) ∧ w'.heap[b]? = w.heap[b]?
  β : ∀ a, a < G.nh → G'.β (.o a) = G.β (.o a)
  nh : G.nh ≤ G'.nh

theorem Tail.pres {G G' : Gh} {w w' : World} {S : Loc → Prop} {ℓ : Loc} (hp : Pres G G' w w' S) (hS : S ℓ) {k : Nat} {v : Value} (h : Tail G w ℓ k v) : Tail G' w' ℓ k v := by
  intro a n cap hv hn
  obtain ⟨f, c, e, h1, h2, h3, h4⟩ := h a n cap hv hn
  obtain ⟨h5, h6⟩ := hp.O _ _ _ hS h1
  exact ⟨f, c, e, h5, h2, h6.trans h3, h4⟩

/-- What the root 'no' owns: nothing. -/
structure Sane (G : Gh) : Prop where
  no : ∀ b ℓ f, G.O b = some (ℓ, f) → ℓ.root ≠ .no

theorem Pres.no {G G' : Gh} {w w' : World} {S : Loc → Prop} (hG : Sane G) (h : Pres G G' w w' S) : Pres G G' w w' (· = .no) :=
  ⟨h.K, fun b ℓ f hr hO => absurd (hr ▸ rfl) (hG.no b ℓ f hO), h.β, h.nh⟩

theorem AV.isLocal_of_isCell {c : AV} (h : c.isCell = true) : c.isLocal = false := by
  cases c <;> first | rfl | (simp [AV.isCell] at h)
theorem AV.not_place {c : AV} (h : c.isLocal = false) (r off : Nat) : c ≠ .place r off := by
  rintro rfl; simp [AV.isLocal] at h
theorem AV.not_box {c : AV} (h : c.isLocal = false) : c.isBox = false := by
  cases c <;> first | rfl | (simp [AV.isLocal] at h)

theorem RepV.pres {G G' : Gh} {w w' : World} (hG : Sane G) {ℓ : Loc} {av : AV} {v : Value} (h : RepV G w ℓ av v) :
    ∀ {S : Loc → Prop}, Pres G G' w w' S → S ℓ → (∀ r off, av = .place r off → G'.β (.s r) = G.β (.s r)) →
      (∀ t, ℓ = .s t → av.isBox = true → G'.β (.s t) = G.β (.s t) ∧ ∀ j, S (.sc t j)) → RepV G' w' ℓ av v := by
  induction h with
  | undef ℓ v => exact fun _ _ _ _ => .undef ℓ v
  | abool ℓ b => exact fun _ _ _ _ => .abool ℓ b
  | d ℓ x v h => exact fun hp _ _ _ => .d ℓ x v (h.mono hp.K)
  | ptr ℓ a off ha => intro S hp _ _ _; rw [← hp.β a ha]; exact .ptr ℓ a off (Nat.lt_of_lt_of_le ha hp.nh)
  | nilptr ℓ => exact fun _ _ _ _ => .nilptr ℓ
  | iptr ℓ cs b off vs hK h1 h => exact fun hp _ _ _ => .iptr ℓ cs b off vs (fun j hj => hp.K _ _ (hK j hj)) h1 (fun j hj => (h j hj).mono hp.K)
  | own ℓ k l v h ht => exact fun hp hS _ _ => .own ℓ k l v (h.mono hp.K) (ht.pres hp hS)
  | lim ℓ k l v h ht => exact fun hp _ _ _ => .lim ℓ k l v (h.mono hp.K) ht
  | func ℓ f as bs va vb ha hb _ _ hc hc' ih ih' =>
    intro S hp _ _ _
    exact .func ℓ f as bs va vb ha hb
      (fun i hi => ih i hi (hp.no hG) rfl (fun r off e => absurd e (AV.not_place (hc _ (List.getElem_mem hi)) r off)) (fun t e => by cases e))
      (fun i hi => ih' i hi (hp.no hG) rfl (fun r off e => absurd e (AV.not_place (hc' _ (List.getElem_mem hi)) r off)) (fun t e => by cases e)) hc hc'
  | nilfunc ℓ => exact fun _ _ _ _ => .nilfunc ℓ
  | yield ℓ l hl => intro S hp _ _ _; rw [← hp.β l hl]; exact .yield ℓ l (Nat.lt_of_lt_of_le hl hp.nh)
  | map ℓ a ha => intro S hp _ _ _; rw [← hp.β a ha]; exact .map ℓ a (Nat.lt_of_lt_of_le ha hp.nh)
  | nilmap ℓ => exact fun _ _ _ _ => .nilmap ℓ
  | lbox t cs vs e hO hw hs _ hc ih =>
    intro S hp hS _ hb
    obtain ⟨hβ, hSc⟩ := hb t rfl rfl
    obtain ⟨h1, h2⟩ := hp.O _ _ _ hS hO
    rw [← hβ] at h1 h2 hw ⊢
    refine .lbox t cs vs e h1 (h2.trans hw) hs (fun j hj => ih j hj hp (hSc j) ?_ (fun t e => by cases e)) hc
    exact fun r off e => absurd e (AV.not_place (AV.isLocal_of_isCell (hc _ (List.getElem_mem hj))) r off)
  | place ℓ r off => intro S _ _ hpl _; rw [← hpl r off rfl]; exact .place ℓ r off
  | mref ℓ a k lo n b off cap ha hlo hn hc hb => intro S hp _ _ _; exact .mref ℓ a k lo n b off cap (Nat.lt_of_lt_of_le ha hp.nh) hlo hn hc (fun h => by rw [hp.β a ha]; exact hb h)
  | eptr ℓ a k i j ha hi => intro S hp _ _ _; rw [← hp.β a ha]; exact .eptr ℓ a k i j (Nat.lt_of_lt_of_le ha hp.nh) hi
  | agg ℓ cs vs hs _ hc hf ih =>
    intro S hp _ _ _
    exact .agg ℓ cs vs hs (fun i hi => ih i hi (hp.no hG) rfl (fun r off e => absurd e (AV.not_place (AV.isLocal_of_isCell (hc _ (List.getElem_mem hi))) r off)) (fun t e => by cases e)) hc hf
  | tuple ℓ cs vs hs _ hc ih =>
    intro S hp _ _ _
    exact .tuple ℓ cs vs hs (fun i hi => ih i hi (hp.no hG) rfl (fun r off e => absurd e (AV.not_place (hc _ (List.getElem_mem hi)) r off)) (fun t e => by cases e)) hc

/-- An abstract object. -/
def RepObj (G : Gh) (w : World) (i : Nat) : Obj → Prop
  | .cells cs => ∃ vs e, G.O (G.β (.o i)) = some (.o i, 0) ∧ w.heap[G.β (.o i)]? = some (.cells vs e (0, 0)) ∧ vs.size = cs.length ∧
      (∀ (j : Nat) (hj : j < cs.length), RepV G w (.oc i j) cs[j] (vs.getD j Go.undef)) ∧ ∀ c ∈ cs, c.isCell = true
  | .arr k l => ∃ vs e, G.O (G.β (.o i)) = some (.o i, 0) ∧ w.heap[G.β (.o i)]? = some (.cells vs e (0, 0)) ∧ uniform k l ∧ (D.flat l).length ≤ vs.size ∧ (∀ j, j < (D.flat l).length → (vs.getD j Go.undef).oneCell' = true) ∧
      ∀ (j : Nat) (hj : j < (D.flat l).length), RepD G.K (D.flat l)[j] (vs.getD j Go.undef)
  | .map agg ks es => ∃ ms clock, G.O (G.β (.o i)) = some (.o i, 0) ∧ w.heap[G.β (.o i)]? = some (.map ms clock) ∧ EntRep G.K agg ks es ms.toList
  | .loop L => ∃ fn tmps D, G.O (G.β (.o i)) = some (.o i, 0) ∧ w.heap[G.β (.o i)]? = some (.loop { state := L.st, pending := L.pending, fn, tmps, params := L.params, assign := L.assign, body := L.body, defers := D }) ∧
      tmps.size = L.n ∧ (∀ t, RepV G w .no (eget L.env t) (tmps.getD t Go.undef)) ∧ ∀ t, (eget L.env t).free = true
  | .dead => True

theorem RepObj.pres {G G' : Gh} {w w' : World} (hG : Sane G) {i : Nat} {ob : Obj} (h : RepObj G w i ob) (hi : i < G.nh) {S : Loc → Prop} (hp : Pres G G' w w' S) (hS : S (.o i)) (hSc : ∀ j, S (.oc i j)) : RepObj G' w' i ob := by
  cases ob with
  | cells cs =>
    obtain ⟨vs, e, h1, h2, h3, h4, h5⟩ := h
    obtain ⟨h6, h7⟩ := hp.O _ _ _ hS h1
    have hβ := hp.β i hi
    rw [← hβ] at h2 h6 h7
    exact ⟨vs, e, h6, h7.trans h2, h3, fun j hj => (h4 j hj).pres hG hp (hSc j) (fun r off e => absurd e (AV.not_place (AV.isLocal_of_isCell (h5 _ (List.getElem_mem hj))) r off)) (fun t e => by cases e), h5⟩
  | arr k l =>
    obtain ⟨vs, e, h1, h2, h3, h4, h8, h5⟩ := h
    obtain ⟨h6, h7⟩ := hp.O _ _ _ hS h1
    have hβ := hp.β i hi
    rw [← hβ] at h2 h6 h7
    exact ⟨vs, e, h6, h7.trans h2, h3, h4, h8, fun j hj => (h5 j hj).mono hp.K⟩
  | map agg ks es =>
    obtain ⟨ms, clock, h1, h2, h3⟩ := h
    obtain ⟨h6, h7⟩ := hp.O _ _ _ hS h1
    have hβ := hp.β i hi
    rw [← hβ] at h2 h6 h7
    exact ⟨ms, clock, h6, h7.trans h2, h3.mono hp.K⟩
  | loop L =>
    obtain ⟨fn, tmps, D, h1, h2, h3, h4, h5⟩ := h
    obtain ⟨h6, h7⟩ := hp.O _ _ _ hS h1
    have hβ := hp.β i hi
    rw [← hβ] at h2 h6 h7
    refine ⟨fn, tmps, D, h6, h7.trans h2, h3, fun t => (h4 t).pres hG (hp.no hG) rfl (fun r off e => ?_) (fun t e => by cases e), h5⟩
    have := h5 t; rw [e] at this; simp [AV.free] at this
  | dead => trivial

/-- The abstract heap, and what is told of the ghosts. -/
structure RelH (G : Gh) (H : List Obj) (w : World) : Prop where
  sane : Sane G
  nh : H.length = G.nh
  objs : ∀ (i : Nat) (ob : Obj), H[i]? = some ob → RepObj G w i ob
  kept : ∀ x v, G.K x = some v → w.cell? x = some v
  disj : ∀ b ℓ f, G.O b = some (ℓ, f) → b < w.heap.size ∧ ∀ j, f ≤ j → G.K ⟨b, j, none⟩ = none

/-- The calls that wait in an activation are those that a range over a function leaves: blocks of none. -/
def RelF (G : Gh) (ds : List Deferred) (w : World) : Prop :=
  (ds.map fun d => match d.target with | .collected r => r | _ => 0).Nodup ∧
  ∀ d ∈ ds, ∃ r, d = { target := .collected r, args := #[] } ∧ G.O r = some (.df, 0) ∧ w.heap[r]? = some (.deferred (some []))

structure Rel (G : Gh) (σ : St) (a : Act) (w : World) : Prop where
  h : RelH G σ.heap w
  size : a.tmps.size = σ.n
  slots : ∀ t, RepV G w (.s t) (σ.get t) (a.tmps.getD t Go.undef)
  places : ∀ t r off, σ.get t = .place r off → ∃ cs, σ.get r = .lbox cs
  df : RelF G a.defers w

/-- What a step promises to all that it does not own; m: how many objects were handed in. -/
structure Ext (m : Nat) (G : Gh) (w : World) (G' : Gh) (w' : World) : Prop where
  K : KLe G.K G'.K
  new : ∀ x v, G'.K x = some v → G.K x = some v ∨ (∃ p, G.O x.block = some p) ∨ w.heap.size ≤ x.block
  others : ∀ b, b < w.heap.size → G.O b = none → w'.heap[b]? = w.heap[b]? ∧ G'.O b = none
  size : w.heap.size ≤ w'.heap.size
  β : ∀ i, i < m → G'.β (.o i) = G.β (.o i)
  io : w'.os = w.os ∧ w'.output = w.output ∧ ∀ a, w'.frozen? a = w.frozen? a

theorem Ext.refl (m : Nat) (G : Gh) (w : World) : Ext m G w G w := ⟨KLe.refl _, fun _ _ h => .inl h, fun _ _ h => ⟨rfl, h⟩, Nat.le_refl _, fun _ _ => rfl, rfl, rfl, fun _ => rfl⟩
theorem Ext.trans {m : Nat} {G₁ G₂ G₃ : Gh} {w₁ w₂ w₃ : World} (h : Ext m G₁ w₁ G₂ w₂) (h' : Ext m G₂ w₂ G₃ w₃) : Ext m G₁ w₁ G₃ w₃ where
  K := h.K.trans h'.K
  new x v e := by
    rcases h'.new x v e with e | ⟨p, e⟩ | e
    · exact h.new x v e
    · rcases Nat.lt_or_ge x.block w₁.heap.size with hb | hb
      · cases hO : G₁.O x.block with
        | none => rw [(h.others _ hb hO).2] at e; cases e
        | some q => exact .inr (.inl ⟨q, rfl⟩)
      · exact .inr (.inr hb)
    · exact .inr (.inr (Nat.le_trans h.size e))
  others b hb hO := by
    obtain ⟨h1, h2⟩ := h.others b hb hO
    obtain ⟨h3, h4⟩ := h'.others b (Nat.lt_of_lt_of_le hb h.size) h2
    exact ⟨h3.trans h1, h4⟩
  size := Nat.le_trans h.size h'.size
  β i hi := (h'.β i hi).trans (h.β i hi)
  io := ⟨h'.io.1.trans h.io.1, h'.io.2.1.trans h.io.2.1, fun a => (h'.io.2.2 a).trans (h.io.2.2 a)⟩
end Go.Am
