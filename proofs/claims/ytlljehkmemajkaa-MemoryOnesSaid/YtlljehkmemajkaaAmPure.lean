/- Own text: AmPure. -/
import Derived.WalkKit
import Derived.RangeFuncIn
import Derived.OrdersIn
namespace Go.Am
theorem zp1 {α:Type _} {l:List α} {i:Nat} (h:i<l.length):l[i]?=some l[i]:=List.getElem?_eq_getElem h
theorem zp2 {α:Type _} {i:Nat} {a:α} {l:List α}:l[i]?=some a↔∃h:i<l.length,l[i]=a:=List.getElem?_eq_some_iff
theorem zp3 {α:Type _} (a b:α):(some a=some b)=(a=b):=Option.some.injEq a b
theorem zp4 (a b:Bool):((a&&b)=true)=(a=true/\b=true):=Bool.and_eq_true a b
theorem zp5 {α:Type _} {xs:Array α} {i:Nat} {d:α}:xs.getD i d=xs[i]?.getD d:=Array.getD_eq_getD_getElem?
theorem zp6 {α:Type _} {l:List α} {n:Nat} (h:n<l.length):l[n]∈l:=List.getElem_mem h
theorem zp7 {α:Type _} {l₁ l₂:List α} {i:Nat} (h:i<l₁.length):(l₁++l₂)[i]?=l₁[i]?:=List.getElem?_append_left h
theorem zp8 {α:Type _} {l₁ l₂:List α} {i:Nat} (h:l₁.length<=i):(l₁++l₂)[i]?=l₂[i-l₁.length]?:=List.getElem?_append_right h
theorem zp9 {a:Int} (h:0<=a):∃n:Nat,a=n:=Int.eq_ofNat_of_zero_le h
inductive D where
 | bool (b:Bool)
 | int (k:IntKind) (n:Int)
 | str (s:ByteArray)
 | list (k:Nat) (l:List D)
 | agg (l:List D)
 | iface (z:Int)
 | ref (cs:List D)
def D.cells:D->List D
 | .agg l=>l
 | x=>[x]
def D.flat (l:List D):List D:=l.flatMap D.cells
inductive AV where
 | undef
 | abool
 | d (x:D)
 | ptr (a off:Nat)
 | nilptr
 | iptr (cs:List D)
 | lbox (cs:List AV)
 | place (r off:Nat)
 | own (k:Nat) (l:List D)
 | lim (k:Nat) (l:List D)
 | tail (k:Nat) (l:List D)
 | func (f:FuncId) (first caps:List AV)
 | nilfunc
 | yield (l:Nat)
 | map (a:Nat)
 | nilmap
 | mref (a k:Nat) (lo n:Int)
 | mcap (a k:Nat) (lo n c:Int)
 | gref (a k:Nat)
 | fresh (k:Nat) (l:List D)
 | junk
 | eptr (a k:Nat) (i:Int) (j:Nat)
 | vptr (a k:Nat) (i:Int) (j m:Nat) (z:Int)
 | agg (cs:List AV)
 | tuple (vs:List AV)
def AV.copy:AV->AV
 | .own k l => .d (.list k l)
 | .lim k l => .d (.list k l)
 | .tail k l => .d (.list k l)
 | .lbox _ => .undef
 | .place .. => .undef
 | .fresh .. => .junk
 | x=>x
def AV.isUndef:AV->Bool
 | .undef=>true
 | _=>false
def AV.isBox:AV->Bool
 | .lbox _=>true
 | _=>false
def AV.isAggr:AV->Bool
 | .d (.agg _) | .agg _=>true
 | _=>false
def AV.isCell:AV->Bool
 | .d (.agg _) | .agg _ | .tuple _ | .lbox _ | .undef | .place _ _=>false
 | _=>true
def dataOf:List AV->Option (List D)
 | []=>some []
 | .d x::r=>(dataOf r).map (x :: ·)
 | .own k l::r=>(dataOf r).map (.list k l :: ·)
 | .lim k l::r=>(dataOf r).map (.list k l :: ·)
 | .tail k l::r=>(dataOf r).map (.list k l :: ·)
 | _=>none
def mkAgg (cs:List AV):AV :=
 match dataOf cs with
 | some ds => .d (.agg ds)
 | none => .agg (cs.map AV.copy)
def AV.nilLim:AV->AV
 | .own k [] => .lim k []
 | c=>c.copy
def mkNil (cs:List AV):AV := .agg (cs.map AV.nilLim)
def AV.unlim:AV->AV
 | .lim k [] => .own k []
 | c=>c
def AV.cells:AV->List AV
 | .d (.agg l)=>l.map .d
 | .agg l=>l
 | x=>[x]
inductive CK where
 | int (k:IntKind)
 | bool
 | str
 deriving DecidableEq
structure ALoop where
 st:LoopState
 pending:Option Code
 env:List (Nat×AV)
 n:Nat
 params:Array Tmp
 assign:Code
 body:Code
inductive Obj where
 | cells (cs:List AV)
 | arr (k:Nat) (l:List D)
 | map (agg:Bool) (ks:List CK) (es:List (D×D))
 | loop (L:ALoop)
 | gro (k:Nat) (l:List D)
 | dead
inductive TU where
 | slice (e:TypeId)
 | array (n:Nat) (e:TypeId)
 | struct (fs:List (TypeId×Nat))
 | map (k e:TypeId)
 | int (k:IntKind)
 | bool
 | string
 | pointer
 | iface
 | meth (ms:List (String×FuncId))
 | other
structure TD where
 size:Nat
 u:TU
 zero:List AV
def TD.isAgg (t:TD):Bool :=
 match t.u with
 | .array .. | .struct _ | .meth _=>true
 | _=>false
abbrev Types:=TypeId->Option TD
def CK.fits:CK->D->Bool
 | .int k,.int k' _=>decide (k=k')
 | .bool,.bool _=>true
 | .str,.str _=>true
 | _,_=>false
def confD:List CK->List D->Bool
 | [],[]=>true
 | k::ks,x::xs=>k.fits x&&confD ks xs
 | _,_=>false
def ksFs (f:TypeId->Option (List CK)):Nat->List (TypeId×Nat)->Option (List CK)
 | _,[]=>some []
 | o,(t,off)::r =>
   if off=o then
    match f t with
    | some ks=>match ksFs f (o+ks.length) r with
      | some ks'=>some (ks++ks')
      | none=>none
    | none=>none
   else none
def ksU (f:TypeId->Option (List CK)):TU->Option (List CK)
 | .int k=>some [.int k]
 | .bool=>some [.bool]
 | .string=>some [.str]
 | .array m e=>match f e with
   | some ks=>some (List.replicate m ks).flatten
   | none=>none
 | .struct fs=>ksFs f 0 fs
 | _=>none
def ksOf (T:Types):Nat->TypeId->Option (List CK)
 | 0,_=>none
 | n+1,t =>
   match T t with
   | some td =>
     match ksU (ksOf T n) td.u with
     | some ks=>if ks.length=td.size then some ks else none
     | none=>none
   | none=>none
structure St where
 env:List (Nat×AV)
 heap:List Obj
 n:Nat
def eget:List (Nat×AV)->Nat->AV
 | [],_ => .undef
 | (s,v)::r,t=>if s=t then v else eget r t
def eset:List (Nat×AV)->Nat->AV->List (Nat×AV)
 | [],t,v=>[(t,v)]
 | (s,u)::r,t,v=>if s=t then (s,v)::r else (s,u)::eset r t v
def St.get (σ:St) (t:Nat):AV:=eget σ.env t
theorem eget_eset (e:List (Nat×AV)) (t s:Nat) (v:AV):eget (eset e t v) s=if t=s then v else eget e s:=by
 induction e with
 | nil=>simp [eset,eget]
 | cons p r ih =>
   obtain ⟨q,u⟩:=p
   simp only [eset]
   split
   ·subst q;simp only [eget];split <;> simp_all
   ·rename_i hq;simp only [eget,ih];by_cases h1:q=s
    ·subst h1;have h2 : ¬ t=q:=fun h=>hq h.symm;simp [h2]
    ·simp [h1]
theorem eset_eset (e:List (Nat×AV)) (t:Nat) (v w:AV):eset (eset e t v) t w=eset e t w:=by
 induction e with
 | nil=>simp [eset]
 | cons p r ih =>
   obtain ⟨q,u⟩:=p
   simp only [eset]
   split
   ·rename_i h;subst h;simp [eset]
   ·rename_i h;simp [eset,h,ih]
structure Ann where
 esc:List Nat:=[]
 tk:List Nat:=[]
 arr:List Nat:=[]
 nl:List Nat:=[]
 th:List Nat:=[]
 gr:List Nat:=[]
 vx:List Nat:=[]
def mkL (an:Ann) (dst:Option Tmp) (k:Nat) (l:List D):AV :=
 match dst,l with
 | some d,[]=>if an.nl.contains d then .lim k [] else .own k []
 | _,l => .own k l
def mkB (an:Ann) (dst:Option Tmp):List AV->AV :=
 match dst with
 | some d=>if an.nl.contains d then mkNil else mkAgg
 | none=>mkAgg
structure Upd where
 sets:List (Nat×AV)
 heap:Option (List Obj)
 rd:List Nat
 hr:Bool
 ho:List Nat
def esets (e:List (Nat×AV)) (l:List (Nat×AV)):List (Nat×AV):=l.foldl (fun e p=>eset e p.1 p.2) e
def St.app (σ:St) (u:Upd):St:={ σ with env:=esets σ.env u.sets,heap:=u.heap.getD σ.heap }
def D.isOne:D->Bool
 | .agg _=>false
 | _=>true
def elemSize (T:Types) (t:TypeId):Option Nat :=
 match T t with
 | some { u := .slice e,.. }=>(T e).map (·.size)
 | _=>none
def mlook:List (String×FuncId)->String->Option FuncId
 | [],_=>none
 | (s,f)::r,n=>if s=n then some f else mlook r n
def constD:Value->Option D
 | .bool b=>some (.bool b)
 | .int k n=>some (.int k n)
 | .string s=>some (.str s)
 | .nilIface=>some (.iface (-1))
 | _=>none
def constDs:List Value->Option (List D)
 | []=>some []
 | v::r =>
   match constD v,constDs r with
   | some d,some l=>some (d::l)
   | _,_=>none
def constAV (T:Types) (t:TypeId):Value->Option AV
 | .bool b=>some (.d (.bool b))
 | .int k n=>some (.d (.int k n))
 | .string s=>some (.d (.str s))
 | .slice none 0 0=>(elemSize T t).map fun k => .own k []
 | .pointer none=>some .nilptr
 | .map none=>some .nilmap
 | .nilFunc=>some .nilfunc
 | .nilIface=>some (.d (.iface (-1)))
 | .agg vs=>(constDs vs.toList).map fun l => .d (.agg l)
 | _=>none
def opv (T:Types) (g:Nat->AV) (t:TypeId):Operand->Option AV
 | .tmp i=>some (g i).copy
 | .const v=>constAV T t v
 | .func f=>some (.func f [] [])
 | .global _=>none
def slotOf:Operand->List Nat
 | .tmp i=>[i]
 | _=>[]
def cut {α:Type} (cs:List α) (off n:Nat):Option (List α):=if off+n<=cs.length then some ((cs.drop off).take n) else none
def readAt (td:TD) (cs:List AV) (off:Nat):Option AV :=
 match cut cs off td.size with
 | some l=>if td.isAgg then some (mkAgg l) else l.head?.map AV.copy
 | none=>none
def writeAt (cs:List AV) (off:Nat) (vs:List AV):List AV:=cs.take off++vs++cs.drop (off+vs.length)
inductive Adr where
 | slot (r off:Nat) (cs:List AV)
 | obj (a off:Nat)
 | cells (cs:List D)
def adr (g:Nat->AV):Operand->Option Adr
 | .tmp i =>
   match g i with
   | .lbox cs=>some (.slot i 0 cs)
   | .place r off=>match g r with
     | .lbox cs=>some (.slot r off cs)
     | _=>none
   | .ptr a off=>some (.obj a off)
   | .iptr cs=>some (.cells cs)
   | .d (.ref cs)=>some (.cells cs)
   | _=>none
 | _=>none
def Adr.up (n:Nat):Adr->AV
 | .slot r off _ => .place r (off+n)
 | .obj a off => .ptr a (off+n)
 | .cells cs => .iptr (cs.drop n)
def listOf (T:Types) (g:Nat->AV) (t:TypeId) (x:Operand):Option (Nat×List D) :=
 match opv T g t x with
 | some (.d (.list k l)) | some (.own k l)=>some (k,l)
 | _=>none
open Classical in
noncomputable def mget:List (D×D)->D->Option D
 | [],_=>none
 | p::r,k=>if p.1=k then some p.2 else mget r k
open Classical in
noncomputable def mput:List (D×D)->D->D->List (D×D)
 | [],k,v=>[(k,v)]
 | p::r,k,v=>if p.1=k then (k,v)::r else p::mput r k v
open Classical in
noncomputable def midx:List (D×D)->D->Nat
 | [],_=>0
 | p::r,k=>if p.1=k then 0 else midx r k+1
def keyConf (agg:Bool) (ks:List CK) (d:D):Bool :=
 confD ks d.cells&&(match d with | .agg _=>agg | _ => !agg)
structure Ar where
 zle:Int->Int->Bool
 zlt:Int->Int->Bool
 zeq:Int->Int->Bool
 wrp:IntKind->Int->Int
 zadd:Int->Int->Int
 zsub:Int->Int->Int
 zmul:Int->Int->Int
 nat:Int->Nat
 len:List D->Int
 lget:List D->Nat->Option D
 fits:Int->Bool
 sub:List D->Int->Int->List D
 app:List D->List D->List D
 quo:IntKind->Int->Int->Int
 rem:Int->Int->Int
 shl:IntKind->Int->Int->Int
 shr:IntKind->Int->Int->Int
 bits:BinOp->IntKind->Int->Int->Int
 deq:List D->List D->Bool
 beq:Bool->Bool->Bool
 zmin:Int->Int->Int
 zmax:Int->Int->Int
 mget:List (D×D)->D->Option D
 mput:List (D×D)->D->D->List (D×D)
 midx:List (D×D)->D->Int
 mhas:List (D×D)->Int->Bool
 mset:List (D×D)->Int->D->List (D×D)
 lset:List D->Nat->D->List D
 fill:List D->Int->Int->D->List D
 rep:Int->D->List D
 spl:List D->Int->List D->List D
 ones:List D->Bool
 conf:List CK->List D->Bool
 flat:List D->List D
def bitsStd (op:BinOp) (k:IntKind) (x y:Int):Int :=
 let a:=BitVec.ofInt k.bits x
 let b:=BitVec.ofInt k.bits y
 match op with
 | .and=>k.wrap (a &&& b).toNat
 | .or=>k.wrap (a ||| b).toNat
 | .xor=>k.wrap (a ^^^ b).toNat
 | _=>k.wrap (a &&& ~~~b).toNat
def fillStd (l:List D) (lo n:Int) (x:D):List D:=l.take lo.toNat++List.replicate n.toNat x++l.drop (lo.toNat+n.toNat)
open Classical in
noncomputable def Ar.std:Ar where
 zle x y:=decide (x<=y)
 zlt x y:=decide (x<y)
 zeq x y:=decide (x=y)
 wrp k x:=k.wrap x
 zadd x y:=x+y
 zsub x y:=x-y
 zmul x y:=x*y
 nat x:=x.toNat
 len l:=(l.length:Int)
 lget l i:=l[i]?
 fits n:=decide (n<4294967296)
 sub l lo hi:=(l.drop lo.toNat).take (hi.toNat-lo.toNat)
 app l m:=l++m
 quo k x y:=k.wrap (x.tdiv y)
 rem x y:=x.tmod y
 shl k x y:=k.wrap (x*2 ^ (min y.toNat k.bits))
 shr k x y:=x.fdiv (2 ^ (min y.toNat k.bits))
 bits:=bitsStd
 deq a b:=decide (a=b)
 beq a b:=a == b
 zmin x y:=if y<x then y else x
 zmax x y:=if y>x then y else x
 mget:=Am.mget
 mput:=Am.mput
 midx es k:=(Am.midx es k:Int)
 mhas es z:=decide (0<=z/\z<es.length)
 mset es z v:=es.modify z.toNat fun p=>(p.1,v)
 lset l i x:=l.set i x
 fill:=fillStd
 rep n x:=List.replicate n.toNat x
 spl l p m:=l.take p.toNat++m++l.drop (p.toNat+m.length)
 ones l:=l.all D.isOne
 conf:=confD
 flat:=D.flat
def keyConfA (A:Ar) (td:TD) (agg:Bool) (ks:List CK) (d:D):Bool :=
 match d with
 | .agg cs=>if td.size<=16 then keyConf agg ks (.agg cs) else agg&&A.conf ks cs
 | d=>keyConf agg ks d
theorem keyConfA_std (td:TD) (agg:Bool) (ks:List CK) (d:D):keyConfA Ar.std td agg ks d=keyConf agg ks d:=by
 unfold keyConfA
 split
 ·split
  ·rfl
  ·simp [keyConf,Ar.std,D.cells,Bool.and_comm]
 ·rfl
def intOp (A:Ar) (op:BinOp) (k:IntKind) (x y:Int):Option D :=
 match op with
 | .add=>some (.int k (A.wrp k (A.zadd x y)))
 | .sub=>some (.int k (A.wrp k (A.zsub x y)))
 | .mul=>some (.int k (A.wrp k (A.zmul x y)))
 | .eql=>some (.bool (A.zeq x y))
 | .neq=>some (.bool (!A.zeq x y))
 | .lss=>some (.bool (A.zlt x y))
 | .leq=>some (.bool (A.zle x y))
 | .gtr=>some (.bool (A.zlt y x))
 | .geq=>some (.bool (A.zle y x))
 | .quo=>if A.zeq y 0 then none else some (.int k (A.quo k x y))
 | .rem=>if A.zeq y 0 then none else some (.int k (A.rem x y))
 | .and | .or | .xor | .andNot=>some (.int k (A.bits op k x y))
 | _=>none
def shiftOp (A:Ar) (op:BinOp) (k:IntKind) (x y:Int):Option D :=
 if A.zlt y 0 then none else
 match op with
 | .shl=>some (.int k (A.shl k x y))
 | .shr=>some (.int k (A.shr k x y))
 | _=>none
end Go.Am
namespace Go.Am
abbrev Sets:=List (Nat×AV)
abbrev Res:=Option (Sets×Option (List Obj))
def put (n:Nat) (g:Nat->AV) (dst:Option Tmp) (v:AV):Res :=
 match dst with
 | some d=>if decide (d<n) && !(g d).isBox then some ([(d,v)],none) else none
 | none=>some ([],none)
def putO (n:Nat) (g:Nat->AV) (dst:Option Tmp) (v:Option AV):Res :=
 match v with
 | some v=>put n g dst v
 | none=>none
def pickAV (t:Bool):AV->AV->AV
 | .d (.bool x),.d (.bool y) => .d (.bool (bif t then x else y))
 | a,b=>bif t then a else b
def fieldOf (T:Types) (t:TypeId) (f:Nat):Option (TypeId×Nat×Nat) :=
 match T t with
 | some { u := .struct fs,.. } =>
   match fs[f]? with
   | some (ft,off)=>(T ft).map fun td=>(ft,off,td.size)
   | none=>none
 | _=>none
def partOf (T:Types) (t:TypeId) (i:Nat):Option (TypeId×Nat×Nat) :=
 match T t with
 | some { u := .struct fs,.. } =>
   match fs[i]? with
   | some (ft,off)=>(T ft).map fun td=>(ft,off,td.size)
   | none=>none
 | some { u := .array m e,.. }=>if i<m then (T e).map fun td=>(e,i*td.size,td.size) else none
 | _=>none
def partsKnown (T:Types):TU->Bool
 | .struct fs=>fs.all fun p=>(T p.1).isSome
 | .array _ e=>(T e).isSome
 | .meth _=>true
 | _=>false
def fillIn (T:Types) (g:Nat->AV) (t:TypeId):List (Nat×Operand)->List AV->Option (List AV)
 | [],cs=>some cs
 | (i,x)::r,cs =>
   match partOf T t i with
   | some (ft,off,sz) =>
     match opv T g ft x with
     | some v=>if v.cells.length=sz/\off+sz<=cs.length/\v.cells.all AV.isCell then fillIn T g t r (writeAt cs off v.cells) else none
     | none=>none
   | none=>none
def fitsD (A:Ar) (y:D) (sz:Nat):Bool :=
 if sz<=16 then decide (y.cells.length=sz) else match y with
  | .agg cs=>A.zeq (A.len cs) (Int.ofNat sz)
  | _=>false
theorem fitsD_std {y:D} {sz:Nat} (h:fitsD Ar.std y sz=true):y.cells.length=sz:=by
 unfold fitsD at h
 split at h
 ·simpa using h
 ·split at h
  ·simp [Ar.std] at h;simp only [D.cells];omega
  ·cases h
def elemsOf (A:Ar) (T:Types) (g:Nat->AV) (e:TypeId) (sz:Nat):List (Nat×Operand)->Nat->Option (List D)
 | [],_=>some []
 | (j,x)::r,i =>
   match opv T g e x with
   | some v =>
     match dataOf [v],elemsOf A T g e sz r (i+1) with
     | some [y],some l=>if j=i/\fitsD A y sz=true then some (y::l) else none
     | _,_=>none
   | none=>none
def objCells:Obj->Option (List AV)
 | .cells cs=>some cs
 | .arr _ l=>some ((D.flat l).map .d)
 | _=>none
def D.upd (x:D) (off:Nat) (vs:List D):D :=
 match x with
 | .agg cs => .agg (cs.take off++vs++cs.drop (off+vs.length))
 | x=>match vs with
   | [v]=>v
   | _=>x
def writeObj (o:Obj) (off:Nat) (vs:List AV):Option Obj :=
 match o with
 | .cells cs=>if off+vs.length<=cs.length then some (.cells (writeAt cs off vs)) else none
 | _=>none
def taken (T:Types) (an:Ann) (g:Nat->AV) (t:TypeId) (x:Operand):Option (AV×Sets) :=
 match x with
 | .tmp s =>
   if an.tk.contains s then
    match g s with
    | .own k l=>some (.own k l,[(s,.d (.list k l))])
    | v=>some (v.copy,[])
   else some ((g s).copy,[])
 | x=>(opv T g t x).map (·,[])
def bound (g:Nat->AV) (T:Types) (d:Int):Option Operand->Option Int
 | none=>some d
 | some x =>
   match opv T g 0 x with
   | some (.d (.int _ n))=>some n
   | _=>none
def isCons:List D->Bool
 | []=>false
 | _::_=>true
def idxLo (A:Ar) (i:Operand) (z:Int):Bool :=
 match i with
 | .const _=>decide (0<=z)
 | _=>A.zle 0 z
def idxHi (A:Ar) (i:Operand) (z m:Int):Bool :=
 match i with
 | .const _=>decide (z<m)
 | _=>A.zlt z m
def idxNat (A:Ar) (i:Operand) (z:Int):Nat :=
 match i with
 | .const _=>z.toNat
 | _=>A.nat z
theorem idxLo_std (i:Operand) (z:Int):idxLo Ar.std i z=decide (0<=z):=by cases i <;> rfl
theorem idxHi_std (i:Operand) (z m:Int):idxHi Ar.std i z m=decide (z<m):=by cases i <;> rfl
def blk {α:Type} (n:Nat) (f:Nat->α):α :=
 match n with
 | 0=>f 0
 | n+1=>f (n+1)
theorem blk_eq {α:Type} (n:Nat) (f:Nat->α):blk n f=f n:=by cases n <;> rfl
theorem idxNat_std (i:Operand) (z:Int):idxNat Ar.std i z=z.toNat:=by cases i <;> rfl
def heapy (an:Ann) (g:Nat->AV) (o:Oper):Bool :=
 (match o.op with
  | .alloc _ | .box .. => match o.dst with | some d=>an.esc.contains d||an.arr.contains d | none=>false
  | .makeMap .. | .makeSlice .. => true
  | .buildSlice .. => match o.dst with | some d=>an.gr.contains d | none=>false
  | .load _ x | .store _ x _ | .indexAddr _ x _ | .slice _ x _ _ _ | .lookup _ x _ _ | .mapUpdate _ x _ _ | .insert _ x _ _ | .mapEntry _ x _ | .entryStore _ x _ _ =>
    match x with
    | .tmp i=>match g i with | .ptr .. | .map _ | .mref .. | .eptr .. | .gref .. | .vptr .. => true | _=>false
    | _=>false
  | .call { callee := .builtin b,args,.. }=>(args.toList.any fun
    | .tmp i=>match g i with | .map _ | .mref .. | .mcap .. | .gref .. => true | _=>false
    | _=>false)||(match b,o.dst with | .append,some d=>an.th.contains d | _,_=>false)
  | _=>false)
def evBase (A:Ar) (T:Types) (an:Ann) (n:Nat) (g:Nat->AV) (H:List Obj) (o:Oper):Res :=
 match o.op with
 | .move x | .assign x =>
   match taken T an g o.type x,o.dst with
   | some (v,ss),some d=>if decide (d<n) && !(g d).isBox && !(slotOf x).contains d then some (ss++[(d,v)],none) else none
   | _,_=>none
 | .pick c a b =>
   match opv T g o.type c,opv T g o.type a,opv T g o.type b with
   | some (.d (.bool t)),some x,some y=>put n g o.dst (pickAV t x.copy y.copy)
   | _,_,_=>none
 | .alloc t =>
   match T t,o.dst with
   | some td,some d =>
     if decide (d<n)&&(g d).isUndef then
      if an.esc.contains d then some ([(d,.ptr H.length 0)],some (H++[.cells td.zero]))
      else some ([(d,.lbox td.zero)],none)
     else none
   | _,_=>none
 | .box t x =>
   match T t,opv T g t x,o.dst with
   | some td,some v,some d =>
     if decide (d<n)&&(g d).isUndef&&decide (v.cells.length=td.size)&&v.cells.all AV.isCell then
      if an.esc.contains d then some ([(d,.ptr H.length 0)],some (H++[.cells (v.cells.map AV.unlim)]))
      else some ([(d,.lbox (v.cells.map AV.unlim))],none)
     else none
   | _,_,_=>none
 | .build t parts =>
   match T t with
   | some td=>if td.isAgg&&partsKnown T td.u then putO n g o.dst ((fillIn T g t parts.toList td.zero).map (mkB an o.dst)) else none
   | none=>none
 | .buildSlice t cnt parts =>
   match T t with
   | some { u := .slice e,.. } =>
     match T e with
     | some td =>
       if decide (parts.size=cnt)&&decide (0<td.size)&&decide (cnt*td.size<=4096)&&o.dst.isSome then
        match elemsOf A T g e td.size parts.toList 0 with
        | some l=>put n g o.dst (mkL an o.dst td.size l)
        | none=>none
       else none
     | none=>none
   | _=>none
 | .load t x =>
   match T t,adr g x with
   | some td,some (.slot r off cs) =>
     match o.dst,cs[off]? with
     | some d,some (.own k l) =>
       if an.tk.contains d && !td.isAgg then (put n g o.dst (.own k l)).map fun p=>([(r,.lbox (cs.set off (.d (.list k l))))]++p.1,p.2)
       else putO n g o.dst (readAt td cs off)
     | _,_=>putO n g o.dst (readAt td cs off)
   | some td,some (.obj a off) =>
     match H[a]? with
     | some (.cells cs) =>
       match o.dst,cs[off]? with
       | some d,some (.own k l) =>
         if an.tk.contains d && !td.isAgg then (put n g o.dst (.own k l)).map fun p=>(p.1,some (H.set a (.cells (cs.set off (.d (.list k l))))))
         else putO n g o.dst (readAt td cs off)
       | _,_=>putO n g o.dst (readAt td cs off)
     | some ob=>putO n g o.dst ((objCells ob).bind (readAt td · off))
     | none=>none
   | some td,some (.cells cs)=>putO n g o.dst (readAt td (cs.map .d) 0)
   | _,_=>none
 | .store t x y =>
   match T t,adr g x,taken T an g t y with
   | some td,some (.slot r off cs),some (v,ss) =>
     if v.cells.length=td.size/\off+td.size<=cs.length/\v.cells.all AV.isCell/\o.dst=none then some (ss++[(r,.lbox (writeAt cs off (v.cells.map AV.unlim)))],none) else none
   | some td,some (.obj a off),some (v,ss) =>
     match H[a]? with
     | some ob =>
       if v.cells.length=td.size/\v.cells.all AV.isCell/\o.dst=none then (writeObj ob off (v.cells.map AV.unlim)).map fun ob'=>(ss,some (H.set a ob')) else none
     | none=>none
   | _,_,_=>none
 | .fieldAddr t x f =>
   match fieldOf T t f,adr g x with
   | some (_,off,sz),some a=>if sz=0 then none else put n g o.dst (a.up off)
   | _,_=>none
 | .indexAddr t x i =>
   match T t,opv T g 0 i with
   | some { u := .array m e,.. },some (.d (.int _ z)) =>
     match T e,adr g x with
     | some td,some a=>if idxLo A i z&&idxHi A i z m then blk (idxNat A i z) (fun j=>put n g o.dst (a.up (j*td.size))) else none
     | _,_=>none
   | some { u := .slice e,.. },some (.d (.int _ z)) =>
     match T e with
     | some td =>
       match (match x with | .tmp i=>g i | _ => .undef) with
       | .d (.list k l) | .own k l =>
         if idxLo A i z&&decide (k=td.size) then
          match A.lget l (idxNat A i z) with
          | some y=>put n g o.dst (.iptr y.cells)
          | none=>none
         else none
       | _=>none
     | none=>none
   | _,_=>none
 | .field t x f =>
   match fieldOf T t f with
   | some (ft,off,_) =>
     match T ft,opv T g t x with
     | some td,some v=>if v.isAggr then putO n g o.dst (readAt td v.cells off) else none
     | _,_=>none
   | none=>none
 | .binOp op _ x y _ =>
   match opv T g 0 x,opv T g 0 y with
   | some (.d (.int k a)),some (.d (.int k' b)) =>
     match op with
     | .shl | .shr=>putO n g o.dst ((shiftOp A op k a b).map .d)
     | op=>if k=k' then putO n g o.dst ((intOp A op k a b).map .d) else none
   | _,_=>none
 | .unOp .not _ x =>
   match opv T g 0 x with
   | some (.d (.bool b))=>put n g o.dst (.d (.bool !b))
   | _=>none
 | .convert src dst x =>
   match T src,T dst,opv T g 0 x with
   | some _,some { u := .int k,.. },some (.d (.int _ z))=>put n g o.dst (.d (.int k (A.wrp k z)))
   | _,_,_=>none
 | .extract x i =>
   match opv T g 0 x with
   | some (.tuple vs)=>putO n g o.dst (vs[i]?.map AV.copy)
   | _=>none
 | .makeFunc (.func f) first caps =>
   match first.toList.mapM (opv T g 0),caps.toList.mapM (opv T g 0) with
   | some a,some b=>put n g o.dst (.func f (a.map AV.copy) (b.map AV.copy))
   | _,_=>none
 | .slice t x lo hi mx =>
   match elemSize T t with
   | some es =>
     match listOf T g t x with
     | some (k,l) =>
       if k≠es then none else
       match bound g T (A.len l) hi,bound g T 0 lo with
       | some h,some lw =>
         if A.zle 0 lw&&A.zle lw h&&A.zle h (A.len l)&&(mx.isNone||hi.isSome) then
          match mx with
          | none=>put n g o.dst (.d (.list k (A.sub l lw h)))
          | some m =>
            match bound g T 0 (some m) with
            | some m=>if A.zeq m h then put n g o.dst (.lim k (A.sub l lw h)) else none
            | none=>none
         else none
       | _,_=>none
     | none=>none
   | none =>
     match T t,adr g x,lo,hi,mx with
     | some { u := .array m e,.. },some (.cells cs),none,none,none =>
       match T e with
       | some td=>if td.size=1/\m<=cs.length/\(cs.take m).all D.isOne=true then put n g o.dst (.d (.list 1 (cs.take m))) else none
       | none=>none
     | _,_,_,_,_=>none
 | .call { callee := .builtin .len,args,argTypes } =>
   match args.toList,argTypes.toList with
   | [x],[t] =>
     match T t with
     | some { u := .slice _,.. } =>
       match listOf T g t x with
       | some (_,l)=>put n g o.dst (.d (.int .i64 (A.len l)))
       | none=>none
     | _=>none
   | _,_=>none
 | .call { callee := .builtin .append,args,argTypes } =>
   match args.toList,argTypes.toList with
   | [x,y],[t,u] =>
     match elemSize T t,elemSize T u,listOf T g u y,x,o.dst with
     | some k,some k1,some (k2,ys),.tmp s,some d =>
       match g s with
       | .own k' l=>if decide (k'=k)&&decide (k1=k)&&decide (k2=k)&&decide (0<k)&&decide (d<n) && !(g d).isBox&&decide (s≠d)&&A.fits (A.zadd (A.len l) (A.len ys)) then some ([(s,.d (.list k l)),(d,.own k (A.app l ys))],none) else none
       | .lim k' l=>if isCons ys&&decide (k'=k)&&decide (k1=k)&&decide (k2=k)&&decide (0<k)&&decide (d<n) && !(g d).isBox&&decide (s≠d)&&A.fits (A.zadd (A.len l) (A.len ys)) then some ([(s,.d (.list k l)),(d,.own k (A.app l ys))],none) else none
       | _=>none
     | _,_,_,_,_=>none
   | _,_=>none
 | _=>none
def slotAV (g:Nat->AV):Operand->AV
 | .tmp i=>g i
 | _ => .undef
def zeroD (td:TD):Option D :=
 if td.isAgg then (dataOf td.zero).map .agg else match dataOf td.zero with
  | some [x]=>some x
  | _=>none
def opD (T:Types) (g:Nat->AV) (t:TypeId) (x:Operand):Option D :=
 match opv T g t x with
 | some (.d y)=>some y
 | _=>none
def eqD (A:Ar):D->D->Option Bool
 | .bool x,.bool y=>some (A.beq x y)
 | .agg a,.agg b=>some (A.deq a b)
 | _,_=>none
def evEq (A:Ar) (T:Types) (n:Nat) (g:Nat->AV) (dst:Option Tmp) (t:TypeId) (a b:D) (neg:Bool):Res :=
 match T t,ksOf T 8 t,eqD A a b with
 | some td,some ks,some r=>if keyConf td.isAgg ks a&&keyConf td.isAgg ks b then put n g dst (.d (.bool (bif neg then !r else r))) else none
 | _,_,_=>none
def slotE (g:Nat->AV) (H:List Obj) (x:Operand):AV :=
 match slotAV g x with
 | .ptr a off=>match H[a]? with
   | some (.arr 1 _) => .eptr a 1 0 off
   | _ => .ptr a off
 | v=>v
def eI (A:Ar) (k:Nat) (i:Int) (j:Nat):Int:=bif decide (k=1)&&decide (j≠0) then A.zadd i j else i
def eJ (k j:Nat):Nat:=bif decide (k=1) then 0 else j
def eIdx (A:Ar) (x:Operand) (a:Nat) (i0:Int) (j0:Nat) (z:Int) (sz:Nat):AV :=
 match x with
 | .const _ => .eptr a 1 i0 (j0+z.toNat*sz)
 | _ => .eptr a 1 (A.zadd i0 (A.zmul z sz)) j0
def evObj (A:Ar) (T:Types) (n:Nat) (g:Nat->AV) (H:List Obj) (o:Oper):Option Res :=
 match o.op with
 | .indexAddr t x i =>
   match slotE g H x with
   | .mref a k lo ln=>some <|
     match T t,opv T g 0 i with
     | some { u := .slice e,.. },some (.d (.int _ z)) =>
       match T e with
       | some td=>if A.zle 0 z&&A.zlt z ln&&decide (k=td.size) then put n g o.dst (.eptr a k (A.zadd lo z) 0) else none
       | none=>none
     | _,_=>none
   | .eptr a k i0 j0=>some <|
     match T t,opv T g 0 i with
     | some { u := .array m e,.. },some (.d (.int _ z)) =>
       match T e with
       | some td=>if idxLo A i z&&idxHi A i z m&&decide (k=1) then put n g o.dst (eIdx A i a i0 j0 z td.size) else none
       | none=>none
     | _,_=>none
   | _=>none
 | .fieldAddr t x f =>
   match slotAV g x with
   | .eptr a k i j=>some <|
     match fieldOf T t f with
     | some (_,off,sz)=>if sz=0 then none else put n g o.dst (.eptr a k i (j+off))
     | none=>none
   | _=>none
 | .load t x =>
   match slotE g H x with
   | .eptr a k i j=>some <|
     match T t,H[a]? with
     | some td,some (.arr k' l) =>
       if k'=k then
        if decide (k=1)&&td.isAgg then
         if A.zle (A.zadd (A.zadd i j) td.size) (A.len l)&&A.ones (A.sub l (A.zadd i j) (A.zadd (A.zadd i j) td.size)) then put n g o.dst (.d (.agg (A.sub l (A.zadd i j) (A.zadd (A.zadd i j) td.size)))) else none
        else match A.lget l (A.nat (eI A k i j)) with
        | some y=>putO n g o.dst (readAt td (y.cells.map .d) (eJ k j))
        | none=>none
       else none
     | _,_=>none
   | _=>none
 | .store t x y =>
   match slotE g H x with
   | .eptr a k i j=>some <|
     match T t,H[a]?,opD T g t y,o.dst with
     | some td,some (.arr k' l),some v,none =>
       if k'=k/\0<td.size then
        if decide (k=1)&&td.isAgg then
         match v with
         | .agg cs=>if A.zle (A.zadd (A.zadd i j) td.size) (A.len l)&&A.zeq (A.len cs) td.size then some ([],some (H.set a (.arr k (A.spl l (A.zadd i j) cs)))) else none
         | _=>none
        else if v.cells.length=td.size then match A.lget l (A.nat (eI A k i j)) with
        | some y0 =>
          if eJ k j=0/\td.size=k then some ([],some (H.set a (.arr k (A.lset l (A.nat (eI A k i j)) v))))
          else match y0 with
           | .agg cs=>if eJ k j+td.size<=cs.length then some ([],some (H.set a (.arr k (A.lset l (A.nat (eI A k i j)) (.agg (cs.take (eJ k j)++v.cells++cs.drop (eJ k j+td.size))))))) else none
           | _=>none
        | none=>none
        else none
       else none
     | _,_,_,_=>none
   | _=>none
 | .slice t x lo hi mx =>
   match slotAV g x with
   | .mref a k l0 ln=>some <|
     match elemSize T t,bound g T ln hi,bound g T 0 lo with
     | some es,some h,some lw =>
       if decide (es=k)&&A.zle 0 lw&&A.zle lw h&&A.zle h ln&&mx.isNone then put n g o.dst (.mref a k (A.zadd l0 lw) (A.zsub h lw)) else none
     | _,_,_=>none
   | _=>none
 | .makeSlice t ln cp=>some <|
   match T t,opD T g 0 ln,opD T g 0 cp,o.dst with
   | some { u := .slice e,.. },some (.int _ z),some (.int _ z'),some d =>
     match T e with
     | some td =>
       match zeroD td with
       | some y =>
         if decide (d<n) && !(g d).isBox&&decide (0<td.size)&&A.zeq z z'&&A.zle 0 z&&A.fits z then
          some ([(d,.mref H.length td.size 0 z)],some (H++[.arr td.size (A.rep z y)]))
         else none
       | none=>none
     | none=>none
   | _,_,_,_=>none
 | .makeMap t rs=>some <|
   match T t,rs,o.dst with
   | some { u := .map kt _,.. },none,some d =>
     match ksOf T 8 kt,T kt with
     | some ks,some tk=>if decide (d<n) && !(g d).isBox then some ([(d,.map H.length)],some (H++[.map tk.isAgg ks []])) else none
     | _,_=>none
   | _,_,_=>none
 | .lookup t x ix ok=>some <|
   match T t,slotAV g x with
   | some { u := .map kt et,.. },.map a =>
     match ksOf T 8 kt,T kt,T et,H[a]?,opD T g kt ix with
     | some ks,some tk,some te,some (.map ag ks' es),some k =>
       if decide (ag=tk.isAgg)&&keyConfA A tk ag ks k&&decide (ks'=ks) then
        match A.mget es k with
        | some v=>put n g o.dst (bif ok then .tuple [.d v,.d (.bool true)] else .d v)
        | none=>match zeroD te with
          | some v=>put n g o.dst (bif ok then .tuple [.d v,.d (.bool false)] else .d v)
          | none=>none
       else none
     | _,_,_,_,_=>none
   | _,_=>none
 | .mapEntry t x ix=>some <|
   match T t,slotAV g x with
   | some { u := .map kt _,.. },.map a =>
     match ksOf T 8 kt,T kt,H[a]?,opD T g kt ix with
     | some ks,some tk,some (.map ag ks' es),some k =>
       if decide (ag=tk.isAgg)&&keyConfA A tk ag ks k&&decide (ks'=ks) then
        match A.mget es k with
        | some v=>put n g o.dst (.tuple [.d v,.d (.int .i64 (A.midx es k))])
        | none=>none
       else none
     | _,_,_,_=>none
   | _,_=>none
 | .entryStore t x s y=>some <|
   match T t,slotAV g x,o.dst with
   | some { u := .map _ et,.. },.map a,none =>
     match H[a]?,opD T g 0 s,opD T g et y with
     | some (.map ag ks es),some (.int .i64 z),some v=>if A.mhas es z then some ([],some (H.set a (.map ag ks (A.mset es z v)))) else none
     | _,_,_=>none
   | _,_,_=>none
 | .mapUpdate t x ix y | .insert t x ix y=>some <|
   match T t,slotAV g x,o.dst with
   | some { u := .map kt et,.. },.map a,none =>
     match ksOf T 8 kt,T kt,H[a]?,opD T g kt ix,opD T g et y with
     | some ks,some tk,some (.map ag ks' es),some k,some v =>
       if decide (ag=tk.isAgg)&&keyConfA A tk ag ks k&&decide (ks'=ks) then some ([],some (H.set a (.map ag ks (A.mput es k v)))) else none
     | _,_,_,_,_=>none
   | _,_,_=>none
 | .makeInterface t x=>some <|
   match T t,opD T g t x with
   | some { u := .meth _,.. },some (.agg [])=>put n g o.dst (.d (.iface (Int.ofNat t)))
   | _,_=>none
 | .binOp .eql t x y _ =>
   match y with
   | .const .nilIface =>
     match T t,opD T g t x with
     | some { u := .iface,.. },some (.iface z)=>some (put n g o.dst (.d (.bool (A.zlt z 0))))
     | _,_=>none
   | .const (.slice none 0 0) =>
     match T t,opD T g t x with
     | some { u := .slice _,.. },some (.list _ l)=>some (put n g o.dst (bif A.zlt 0 (A.len l) then .d (.bool false) else .abool))
     | _,_=>none
   | y =>
     match opD T g 0 x,opD T g 0 y with
     | some (.bool a),some (.bool b)=>some (evEq A T n g o.dst t (.bool a) (.bool b) false)
     | some (.agg a),some (.agg b)=>some (evEq A T n g o.dst t (.agg a) (.agg b) false)
     | _,_=>none
 | .binOp .neq t x y _ =>
   match opD T g 0 x,opD T g 0 y with
   | some (.bool a),some (.bool b)=>some (evEq A T n g o.dst t (.bool a) (.bool b) true)
   | some (.agg a),some (.agg b)=>some (evEq A T n g o.dst t (.agg a) (.agg b) true)
   | _,_=>none
 | .call { callee := .builtin .len,args,argTypes } =>
   match args.toList,argTypes.toList with
   | [x],[t] =>
     match slotAV g x,T t with
     | .mref _ _ _ ln,some { u := .slice _,.. }=>some (put n g o.dst (.d (.int .i64 ln)))
     | _,_=>none
   | _,_=>none
 | .call { callee := .builtin .clear,args,argTypes }=>some <|
   match args.toList,argTypes.toList with
   | [x],[t] =>
     match slotAV g x,T t with
     | .mref a k lo ln,some { u := .slice e,.. } =>
       match T e,H[a]? with
       | some td,some (.arr k' l) =>
         match zeroD td with
         | some y=>if decide (k'=k)&&decide (td.size=k)&&A.zle (A.zadd lo ln) (A.len l) then (put n g o.dst (.tuple [])).map fun p=>(p.1,some (H.set a (.arr k (A.fill l lo ln y)))) else none
         | none=>none
       | _,_=>none
     | _,_=>none
   | _,_=>none
 | .call { callee := .builtin .min,args,.. }=>some <|
   match args.toList with
   | [x,y]=>match opD T g 0 x,opD T g 0 y with
     | some (.int k a),some (.int k' b)=>if k=k' then put n g o.dst (.d (.int k (A.zmin a b))) else none
     | _,_=>none
   | _=>none
 | .call { callee := .builtin .max,args,.. }=>some <|
   match args.toList with
   | [x,y]=>match opD T g 0 x,opD T g 0 y with
     | some (.int k a),some (.int k' b)=>if k=k' then put n g o.dst (.d (.int k (A.zmax a b))) else none
     | _,_=>none
   | _=>none
 | _=>none
def sameZ:D->AV->Bool
 | .int k n,.d (.int k' m)=>decide (k=k')&&decide (n=m)
 | .bool b,.d (.bool c)=>b == c
 | _,_=>false
def zrep:List AV->Option D
 | .d z::r=>if r.all (sameZ z) then some z else none
 | _=>none
def arrZ (A:Ar) (td:TD):Option (List D) :=
 match zrep td.zero with
 | some z=>some (A.rep td.size z)
 | none=>dataOf td.zero
def partD (A:Ar) (td:TD) (cs:List D) (p:Nat) (i j:Int):Option D :=
 if td.isAgg then some (.agg (A.sub cs i j)) else A.lget cs p
def putD (n:Nat) (g:Nat->AV) (dst:Option Tmp) (v:Option D):Res :=
 match v with
 | some v=>put n g dst (.d v)
 | none=>none
def AV.ownZ (z:Bool) (k:Nat) (l:List D):AV:=if z then .own k l else .tail k l
def AV.tailOf:AV->Option (Nat×List D)
 | .own k l=>some (k,l)
 | .tail k l=>some (k,l)
 | _=>none
def AV.emptyOf:AV->Option Nat
 | .own k []=>some k
 | .lim k []=>some k
 | _=>none
def AV.tailOnly:AV->Option (Nat×List D)
 | .tail k l=>some (k,l)
 | _=>none
def evTail (A:Ar) (T:Types) (an:Ann) (n:Nat) (g:Nat->AV) (o:Oper):Option Res :=
 match o.dst with
 | some d=>if an.arr.contains d then
   match o.op with
   | .move (.tmp s) | .assign (.tmp s) =>
     match (g s).tailOnly with
     | some (k,l)=>some <| if decide (d<n) && !(g d).isBox&&decide (s≠d) then some ([(s,.d (.list k l)),(d,.tail k l)],none) else none
     | none=>none
   | .slice t (.tmp s) (some lo) none none =>
     match (g s).tailOf,elemSize T t,bound g T 0 (some lo) with
     | some (k,l),some es,some lw=>some <|
       if decide (k=es)&&A.zle 0 lw&&A.zle lw (A.len l)&&decide (d<n) && !(g d).isBox&&decide (s≠d) then some ([(s,.d (.list k l)),(d,.tail k (A.sub l lw (A.len l)))],none) else none
     | _,_,_=>none
   | .call { callee := .builtin .append,args,argTypes } =>
     match args.toList,argTypes.toList with
     | [.tmp s,y],[t,u] =>
       match (g s).tailOnly,elemSize T t,elemSize T u,listOf T g u y with
       | some (k',l),some k,some k1,some (k2,ys)=>some <|
         if isCons ys&&decide (k'=k)&&decide (k1=k)&&decide (k2=k)&&decide (0<k)&&decide (d<n) && !(g d).isBox&&decide (s≠d)&&A.fits (A.zadd (A.len l) (A.len ys)) then some ([(s,.d (.list k l)),(d,.tail k (A.app l ys))],none) else none
       | _,_,_,_=>none
     | _,_=>none
   | _=>none
   else none
 | none=>none
def evArr (A:Ar) (T:Types) (an:Ann) (n:Nat) (g:Nat->AV) (H:List Obj) (o:Oper):Option Res :=
 match o.op with
 | .nilCheck x=>some <|
   match slotAV g x with
   | .eptr a k i j=>put n g o.dst (.eptr a k i j)
   | _=>match adr g x with
     | some a=>put n g o.dst (a.up 0)
     | none=>none
 | .index t x i=>some <|
   match T t,opD T g t x,opD T g 0 i with
   | some { u := .array m e,.. },some (.agg cs),some (.int _ z) =>
     match T e with
     | some te=>if idxLo A i z&&idxHi A i z m&&(te.isAgg||decide (te.size=1)) then putD n g o.dst (partD A te cs (idxNat A i z) (A.zmul z te.size) (A.zadd (A.zmul z te.size) te.size)) else none
     | none=>none
   | _,_,_=>none
 | .field t x f =>
   match o.dst with
   | some d=>if an.arr.contains d then some <|
     match fieldOf T t f,opD T g t x with
     | some (ft,off,sz),some (.agg cs) =>
       match T ft with
       | some td=>putD n g o.dst (partD A td cs off off (off+sz:Nat))
       | none=>none
     | _,_=>none
     else none
   | none=>none
 | .alloc t =>
   match o.dst with
   | some d=>if an.arr.contains d then some <|
     match T t with
     | some td=>if decide (d<n)&&(g d).isUndef then (arrZ A td).map fun ds=>([(d,.ptr H.length 0)],some (H++[.arr 1 ds])) else none
     | none=>none
     else none
   | none=>none
 | .box t x =>
   match o.dst with
   | some d=>if an.arr.contains d then some <|
     match T t,opD T g t x with
     | some td,some (.agg cs)=>if decide (d<n)&&(g d).isUndef&&A.zeq (A.len cs) td.size then some ([(d,.ptr H.length 0)],some (H++[.arr 1 cs])) else none
     | _,_=>none
     else none
   | none=>none
 | .call { callee := .builtin .append,args,argTypes } =>
   match o.dst with
   | some d=>if an.th.contains d then some <|
     match args.toList,argTypes.toList with
     | [.tmp s,y],[t,u] =>
       match g s,elemSize T t,elemSize T u,listOf T g u y with
       | .lim k' l,some k,some k1,some (k2,ys) =>
         if A.zlt 0 (A.len ys)&&decide (k'=k)&&decide (k1=k)&&decide (k2=k)&&decide (0<k)&&decide (d<n) && !(g d).isBox&&decide (s≠d)&&A.fits (A.zadd (A.len l) (A.len ys)) then
          some ([(d,.mref H.length k 0 (A.zadd (A.len l) (A.len ys)))],some (H++[.arr k (A.app l ys)])) else none
       | _,_,_,_=>none
     | _,_=>none
     else none
   | none=>none
 | _=>none
def evCap (A:Ar) (T:Types) (an:Ann) (n:Nat) (g:Nat->AV) (H:List Obj) (o:Oper):Option Res :=
 match o.op with
 | .slice t (.tmp s) none (some hi) none =>
   match o.dst,g s with
   | some d,.mref a k lo ln=>if an.th.contains d then some <|
     match elemSize T t,bound g T 0 (some hi) with
     | some es,some h=>if decide (es=k)&&A.zle 0 h&&A.zle h ln&&A.zlt 0 ln then put n g o.dst (.mcap a k lo h ln) else none
     | _,_=>none
     else none
   | _,_=>none
 | .slice t (.tmp s) (some lo) (some hi) none =>
   match g s with
   | .mcap a k l0 _ c=>some <|
     match elemSize T t,bound g T 0 (some lo),bound g T 0 (some hi) with
     | some es,some lw,some h=>if decide (es=k)&&A.zle 0 lw&&A.zle lw h&&A.zle h c then put n g o.dst (.mref a k (A.zadd l0 lw) (A.zsub h lw)) else none
     | _,_,_=>none
   | _=>none
 | .call { callee := .builtin .len,args,argTypes } =>
   match args.toList,argTypes.toList with
   | [.tmp s],[t] =>
     match g s with
     | .mcap _ _ _ ln _=>some <|
       match T t with
       | some { u := .slice _,.. }=>put n g o.dst (.d (.int .i64 ln))
       | _=>none
     | _=>none
   | _,_=>none
 | .slice t (.tmp s) (some lo) (some hi) (some mx) =>
   match g s with
   | .mref a k l0 ln=>some <|
     match elemSize T t,bound g T 0 (some lo),bound g T 0 (some hi),bound g T 0 (some mx) with
     | some es,some lw,some h,some m=>if decide (es=k)&&A.zle 0 lw&&A.zle lw h&&A.zle h m&&A.zle m ln then put n g o.dst (.mref a k (A.zadd l0 lw) (A.zsub h lw)) else none
     | _,_,_,_=>none
   | _=>none
 | .call { callee := .builtin .append,args,argTypes } =>
   match args.toList,argTypes.toList with
   | [.tmp s,.tmp y],[t,u] =>
     match g s,g y with
     | .mcap a k lo n1 c,.mref a' k' lo2 n2=>some <|
       match elemSize T t,elemSize T u,H[a]? with
       | some es,some es',some (.arr k'' l) =>
         if decide (a'=a)&&decide (k'=k)&&decide (k''=k)&&decide (es=k)&&decide (es'=k)&&decide (0<k)&&A.zle (A.zadd n1 n2) c&&A.zle (A.zadd lo2 n2) (A.len l)&&A.zle (A.zadd lo (A.zadd n1 n2)) (A.len l) then
          (put n g o.dst (.mcap a k lo (A.zadd n1 n2) c)).map fun p=>(p.1,some (H.set a (.arr k (A.spl l (A.zadd lo n1) (A.sub l lo2 (A.zadd lo2 n2))))))
         else none
       | _,_,_=>none
     | _,_=>none
   | _,_=>none
 | .slice t (.tmp s) none none none =>
   match g s with
   | .ptr a 0=>some <|
     match T t with
     | some { u := .array m e,.. } =>
       match T e with
       | some td=>put n g o.dst (.mref a td.size 0 (Int.ofNat m))
       | none=>none
     | _=>none
   | _=>none
 | .call { callee := .builtin .copy,args,argTypes } =>
   match args.toList,argTypes.toList with
   | [.tmp s,y],[t,u] =>
     match g s,listOf T g u y with
     | .mref a k lo n1,some (k2,ys)=>some <|
       match elemSize T t,H[a]? with
       | some es,some (.arr 1 l) =>
         if decide (es=k)&&decide (k2=k)&&decide (0<k)&&A.zle (A.len ys) n1&&A.zle (A.zmul (A.zadd lo n1) (Int.ofNat k)) (A.len l) then
          (put n g o.dst (.d (.int .i64 (A.len ys)))).map fun p=>(p.1,some (H.set a (.arr 1 (A.spl l (A.zmul lo (Int.ofNat k)) (A.flat ys)))))
         else none
       | _,_=>none
     | _,_=>none
   | _,_=>none
 | _=>none
def plainOf:List AV->Option (List D)
 | []=>some []
 | .d x::r=>match plainOf r with | some y=>some (x::y) | none=>none
 | _=>none
def pickI (A:Ar) (z:Int) (i:Nat) (x r:D):D :=
 match x,r with
 | .int k a,.int k' b=>if k=k' then .int k (bif A.zeq z (Int.ofNat i) then a else b) else bif A.zeq z (Int.ofNat i) then x else r
 | _,_=>bif A.zeq z (Int.ofNat i) then x else r
def pickL (A:Ar) (z:Int) (x:D):Nat->List D->List D
 | _,[]=>[]
 | i,r::rs=>pickI A z i x r::pickL A z x (i+1) rs
def winOf (A:Ar) (ob:Obj) (k:Nat) (i:Int) (j m:Nat):Option (List D) :=
 match ob with
 | .cells cs=>if k=0/\j+m<=cs.length then plainOf ((cs.drop j).take m) else none
 | .gro k' l=>if k'=k then match A.lget l (A.nat i) with
   | some (.agg cs)=>if j+m<=cs.length then some ((cs.drop j).take m) else none
   | _=>none
   else none
 | _=>none
def setWin (A:Ar) (ob:Obj) (k:Nat) (i:Int) (j m:Nat) (z:Int) (v:D):Option Obj :=
 match ob with
 | .cells cs=>if k=0/\j+m<=cs.length then match plainOf ((cs.drop j).take m) with
   | some ds=>some (.cells (cs.take j++(pickL A z v 0 ds).map .d++cs.drop (j+m)))
   | none=>none
   else none
 | .gro k' l=>if k'=k then match A.lget l (A.nat i) with
   | some (.agg cs)=>if j+m<=cs.length then some (.gro k (A.lset l (A.nat i) (.agg (cs.take j++pickL A z v 0 ((cs.drop j).take m)++cs.drop (j+m))))) else none
   | _=>none
   else none
 | _=>none
def evVar (A:Ar) (T:Types) (an:Ann) (n:Nat) (g:Nat->AV) (H:List Obj) (o:Oper):Option Res :=
 match o.op with
 | .indexAddr t (.tmp s) i =>
   match o.dst with
   | some d=>if an.vx.contains d then some <|
     match T t,opv T g 0 i with
     | some { u := .array m e,.. },some (.d (.int _ z)) =>
       match T e with
       | some td=>if decide (td.size=1)&&A.zle 0 z&&A.zlt z (Int.ofNat m) then
         match g s with
         | .ptr a off=>put n g o.dst (.vptr a 0 0 off m z)
         | .eptr a k i0 j0=>put n g o.dst (.vptr a k i0 j0 m z)
         | _=>none
         else none
       | none=>none
     | _,_=>none
     else none
   | none=>none
 | .load t (.tmp s) =>
   match g s with
   | .vptr a k i j m z=>some <|
     match T t,H[a]? with
     | some td,some ob =>
       if td.size=1/\td.isAgg=false then
        match winOf A ob k i j m with
        | some ds=>match A.lget ds (A.nat z) with
          | some y=>put n g o.dst (.d y)
          | none=>none
        | none=>none
       else none
     | _,_=>none
   | _=>none
 | .store t (.tmp s) y =>
   match g s with
   | .vptr a k i j m z=>some <|
     match T t,H[a]?,opD T g t y,o.dst with
     | some td,some ob,some v,none =>
       if td.size=1/\v.isOne=true then (setWin A ob k i j m z v).map fun ob'=>([],some (H.set a ob')) else none
     | _,_,_,_=>none
   | _=>none
 | _=>none
def AV.nilP:AV->Option Bool
 | .nilptr=>some true
 | .ptr .. => some false
 | .iptr _=>some false
 | .d (.ref _)=>some false
 | .eptr .. => some false
 | _=>none
def wholeOf (td:TD) (k j:Nat) (y:D):Option D :=
 match y with
 | .agg _=>if td.isAgg&&decide (j=0)&&decide (td.size=k) then some y else none
 | _=>none
def evGro (A:Ar) (T:Types) (an:Ann) (n:Nat) (g:Nat->AV) (H:List Obj) (o:Oper):Option Res :=
 match o.op with
 | .call { callee := .builtin .len,args,argTypes } =>
   match args.toList,argTypes.toList with
   | [.tmp s],[t] =>
     match g s with
     | .gref a k=>some <|
       match T t,H[a]? with
       | some { u := .slice _,.. },some (.gro k' l)=>if k'=k then put n g o.dst (.d (.int .i64 (A.len l))) else none
       | _,_=>none
     | _=>none
   | _,_=>none
 | .indexAddr t (.tmp s) i =>
   match g s with
   | .gref a k=>some <|
     match T t,opv T g 0 i,H[a]? with
     | some { u := .slice e,.. },some (.d (.int _ z)),some (.gro k' l) =>
       match T e with
       | some td=>if decide (td.size=k)&&decide (k'=k)&&idxLo A i z&&A.zlt z (A.len l) then put n g o.dst (.eptr a k z 0) else none
       | none=>none
     | _,_,_=>none
   | .eptr a k i0 j0 =>
     match H[a]? with
     | some (.gro _ _)=>some <|
       match T t,opv T g 0 i with
       | some { u := .array m e,.. },some (.d (.int _ z)) =>
         match T e with
         | some td=>if idxLo A i z&&idxHi A i z m then blk (idxNat A i z) (fun j=>put n g o.dst (.eptr a k i0 (j0+j*td.size))) else none
         | none=>none
       | _,_=>none
     | _=>none
   | _=>none
 | .load t (.tmp s) =>
   match g s with
   | .eptr a k i j =>
     match H[a]? with
     | some (.gro k' l)=>some <|
       match T t with
       | some td =>
         if k'=k then
          match A.lget l (A.nat i) with
          | some y=>match wholeOf td k j y with
            | some v=>put n g o.dst (.d v)
            | none=>putO n g o.dst (readAt td (y.cells.map .d) j)
          | none=>none
         else none
       | none=>none
     | _=>none
   | _=>none
 | .store t (.tmp s) y =>
   match g s with
   | .ptr a off =>
     match y with
     | .tmp q =>
       match g q with
       | .fresh k l=>some <|
         match T t,H[a]?,o.dst with
         | some td,some (.cells cs),none=>if td.size=1/\td.isAgg=false/\off<cs.length then some ([(q,.undef)],some (H.set a (.cells (cs.set off (.fresh k l))))) else none
         | _,_,_=>none
       | _=>none
     | _=>none
   | .eptr a k i j =>
     match H[a]? with
     | some (.gro k' l)=>some <|
       match T t,opD T g t y,o.dst with
       | some td,some v,none =>
         if k'=k/\0<td.size/\v.cells.length=td.size then
          match A.lget l (A.nat i) with
          | some y0 =>
            if j=0/\td.size=k then some ([],some (H.set a (.gro k (A.lset l (A.nat i) v))))
            else match y0 with
             | .agg cs=>if j+td.size<=cs.length then some ([],some (H.set a (.gro k (A.lset l (A.nat i) (.agg (cs.take j++v.cells++cs.drop (j+td.size))))))) else none
             | _=>none
          | none=>none
         else none
       | _,_,_=>none
     | _=>none
   | _=>none
 | .binOp op t (.tmp s) (.const (.pointer none)) _ =>
   match (g s).nilP with
   | some b=>some <|
     match T t with
     | some { u := .pointer,.. } =>
       match op with
       | .eql=>put n g o.dst (.d (.bool b))
       | .neq=>put n g o.dst (.d (.bool !b))
       | _=>none
     | _=>none
   | none=>none
 | .slice t (.tmp s) none (some hi) none =>
   match g s with
   | .gref a k=>some <|
     match elemSize T t,bound g T 0 (some hi),H[a]?,o.dst with
     | some es,some h,some (.gro k' l),some d =>
       if decide (es=k)&&decide (k'=k)&&A.zle 0 h&&A.zle h (A.len l)&&decide (d<n) && !(g d).isBox then
        some ([(d,.fresh k (A.sub l 0 h))],some (H.set a .dead)) else none
     | _,_,_,_=>none
   | _=>none
 | .call { callee := .builtin .append,args,argTypes } =>
   match args.toList,argTypes.toList,o.dst with
   | [.tmp s,y],[t,u],some d =>
     match g s with
     | .gref a k=>some <|
       match elemSize T t,elemSize T u,listOf T g u y,H[a]? with
       | some es,some es',some (k2,ys),some (.gro k' l) =>
         if decide (es=k)&&decide (es'=k)&&decide (k2=k)&&decide (k'=k)&&decide (0<k)&&decide (d<n) && !(g d).isBox&&A.fits (A.zadd (A.len l) (A.len ys)) then
          if an.gr.contains d then some ([(d,.gref H.length k)],some (H.set a .dead++[.gro k (A.app l ys),.dead,.dead]))
          else some ([(d,.fresh k (A.app l ys))],some (H.set a .dead)) else none
       | _,_,_,_=>none
     | v=>if an.gr.contains d then
        match v.emptyOf with
        | some k=>some <|
          match elemSize T t,elemSize T u,listOf T g u y with
          | some es,some es',some (k2,ys) =>
            if decide (es=k)&&decide (es'=k)&&decide (k2=k)&&decide (0<k)&&decide (d<n) && !(g d).isBox&&decide (s≠d)&&A.fits (A.zadd (A.len []) (A.len ys)) then
             some ([(s,.d (.list k [])),(d,.fresh k (A.app [] ys))],none) else none
          | _,_,_=>none
        | none=>none
       else none
   | _,_,_=>none
 | .buildSlice t cnt parts =>
   match o.dst with
   | some d=>if an.gr.contains d then some <|
     match T t with
     | some { u := .slice e,.. } =>
       match T e with
       | some td =>
         if decide (parts.size=cnt)&&decide (0<td.size)&&decide (cnt*td.size<=4096)&&decide (d<n) && !(g d).isBox then
          match elemsOf A T g e td.size parts.toList 0 with
          | some l=>some ([(d,.gref H.length td.size)],some (H++[.gro td.size l,.dead,.dead]))
          | none=>none
         else none
       | none=>none
     | _=>none
     else none
   | none=>none
 | .makeSlice t ln cp =>
   match o.dst with
   | some d=>if an.gr.contains d then some <|
     match T t,opD T g 0 ln,opD T g 0 cp with
     | some { u := .slice e,.. },some (.int _ z),some (.int _ z') =>
       match T e with
       | some td =>
         match zeroD td with
         | some y =>
           if decide (d<n) && !(g d).isBox&&decide (0<td.size)&&(if an.th.contains d then A.zle z z'&&A.fits z' else A.zeq z z'&&A.fits z)&&A.zle 0 z then
            some ([(d,.gref H.length td.size)],some (H++[.gro td.size (A.rep z y),.dead,.dead]))
           else none
         | none=>none
       | none=>none
     | _,_,_=>none
     else none
   | none=>none
 | _=>none
def cellBase (v:AV) (lo hi:Option Operand):Option (Nat×Int×Nat) :=
 match v with
 | .eptr a 1 i j=>some (a,i,j)
 | .ptr a off=>if off=0/\lo=none/\hi=none then none else some (a,0,off)
 | _=>none
def AV.ownOf:AV->Option (Nat×List D)
 | .own k l=>some (k,l)
 | .lim k []=>some (k,[])
 | _=>none
def evMor (A:Ar) (T:Types) (n:Nat) (g:Nat->AV) (H:List Obj) (o:Oper):Option Res :=
 match o.op with
 | .indexAddr t (.tmp s) i =>
   match g s with
   | .mref a k lo ln =>
     match H[a]? with
     | some (.arr 1 _)=>if k=1 then none else some <|
       match T t,opv T g 0 i with
       | some { u := .slice e,.. },some (.d (.int _ z)) =>
         match T e with
         | some td=>if A.zle 0 z&&A.zlt z ln&&decide (k=td.size) then put n g o.dst (.eptr a 1 (A.zmul (A.zadd lo z) (Int.ofNat k)) 0) else none
         | none=>none
       | _,_=>none
     | _=>none
   | _=>none
 | .slice t (.tmp s) lo hi none =>
   match cellBase (g s) lo hi with
   | some (a,i,j) =>
     match H[a]? with
     | some (.arr 1 _)=>some <|
       match T t with
       | some { u := .array m e,.. } =>
         match T e,bound g T (Int.ofNat m) hi,bound g T 0 lo with
         | some td,some h,some lw =>
           if A.zle 0 lw&&A.zle lw h&&A.zle h (Int.ofNat m)&&A.zle 0 (A.zadd i (Int.ofNat j))&&decide (0<td.size) then
            if td.size=1 then put n g o.dst (.mref a 1 (A.zadd (A.zadd i (Int.ofNat j)) lw) (A.zsub h lw))
            else if A.zle 0 (A.quo .i64 (A.zadd i (Int.ofNat j)) (Int.ofNat td.size))&&A.zeq (A.zmul (A.quo .i64 (A.zadd i (Int.ofNat j)) (Int.ofNat td.size)) (Int.ofNat td.size)) (A.zadd i (Int.ofNat j)) then
             put n g o.dst (.mref a td.size (A.zadd (A.quo .i64 (A.zadd i (Int.ofNat j)) (Int.ofNat td.size)) lw) (A.zsub h lw))
            else none
           else none
         | _,_,_=>none
       | _=>none
     | _=>none
   | none=>none
 | .slice t (.tmp s) none (some hi) (some mx) =>
   match g s with
   | .mref _ k _ _=>some <|
     match elemSize T t,bound g T 1 (some hi),bound g T 1 (some mx) with
     | some es,some h,some m=>if decide (es=k)&&decide (h=0)&&decide (m=0) then put n g o.dst (.lim k []) else none
     | _,_,_=>none
   | _=>none
 | .binOp .eql t (.tmp s) (.const (.slice none 0 0)) _ =>
   match g s with
   | .mref .. => some <|
     match T t with
     | some { u := .slice _,.. }=>put n g o.dst (.d (.bool false))
     | _=>none
   | _=>none
 | .call { callee := .builtin .copy,args,argTypes } =>
   match args.toList,argTypes.toList with
   | [.tmp s,.tmp y],[t,_] =>
     match g s,g y with
     | .mref a k lo n1,.mref a' k' lo2 n2=>some <|
       match elemSize T t,H[a]? with
       | some es,some (.arr 1 l) =>
         if decide (a'=a)&&decide (k'=k)&&decide (es=k)&&decide (0<k)&&A.zle n2 n1&&A.zle (A.zmul (A.zadd lo n1) (Int.ofNat k)) (A.len l)&&A.zle (A.zmul (A.zadd lo2 n2) (Int.ofNat k)) (A.len l) then
          (put n g o.dst (.d (.int .i64 n2))).map fun p=>(p.1,some (H.set a (.arr 1 (A.spl l (A.zmul lo (Int.ofNat k)) (A.sub l (A.zmul lo2 (Int.ofNat k)) (A.zmul (A.zadd lo2 n2) (Int.ofNat k)))))))
         else none
       | _,_=>none
     | _,_=>none
   | _,_=>none
 | .call { callee := .builtin .append,args,argTypes } =>
   match args.toList,argTypes.toList,o.dst with
   | [.tmp s,.tmp y],[t,u],some d =>
     match (g s).ownOf,g y with
     | some (k',l),.mref a k2 lo ln=>some <|
       match elemSize T t,elemSize T u,H[a]? with
       | some k,some k1,some (.arr k3 ll) =>
         if decide (k'=k)&&decide (k1=k)&&decide (k2=k)&&decide (k3=k)&&decide (0<k)&&decide (d<n) && !(g d).isBox&&decide (s≠d)&&A.zle (A.zadd lo ln) (A.len ll)&&A.fits (A.zadd (A.len l) (A.len (A.sub ll lo (A.zadd lo ln)))) then
          some ([(s,.d (.list k l)),(d,.own k (A.app l (A.sub ll lo (A.zadd lo ln))))],none) else none
       | _,_,_=>none
     | _,_=>none
   | _,_,_=>none
 | _=>none
def evCore (A:Ar) (T:Types) (an:Ann) (n:Nat) (g:Nat->AV) (H:List Obj) (o:Oper):Res :=
 match evTail A T an n g o with
 | some r=>r
 | none=>match evMor A T n g H o with
   | some r=>r
   | none=>match evCap A T an n g H o with
   | some r=>r
   | none=>match evVar A T an n g H o with
   | some r=>r
   | none=>match evGro A T an n g H o with
   | some r=>r
   | none=>match evArr A T an n g H o with
     | some r=>r
     | none=>match evObj A T n g H o with
       | some r=>r
       | none=>evBase A T an n g H o
def operSlots (ops:List Oper) (o:Oper):List Nat :=
 o.op.operands.toList.flatMap slotOf++o.dst.toList ++
 (match o.guard with
  | some (j,_)=>((ops[j]?).bind (·.dst)).toList
  | none=>[])
def rdOf (g:Nat->AV) (ops:List Oper) (o:Oper):List Nat :=
 operSlots ops o++(operSlots ops o).flatMap fun t=>match g t with | .place r _=>[r] | _=>[]
def only (rd:List Nat) (g:Nat->AV):Nat->AV:=fun t=>if rd.contains t then g t else .undef
def hoOf (g:Nat->AV) (o:Oper):Option Nat :=
 match o.op with
 | .load _ (.tmp i)=>match g i with
   | .ptr a _=>some a
   | _=>none
 | _=>none
def evOp (A:Ar) (T:Types) (an:Ann) (ops:List Oper) (σ:St) (o:Oper):Option Upd :=
 let rd:=rdOf σ.get ops o
 match hoOf (only rd σ.get) o with
 | some a =>
   match evCore A T an σ.n (only rd σ.get) σ.heap o with
   | some (ss,none)=>some { sets:=ss,heap:=none,rd,hr:=false,ho:=[a] }
   | some (ss,some h)=>some { sets:=ss,heap:=some h,rd,hr:=true,ho:=[] }
   | none=>none
 | none =>
   let hr:=heapy an (only rd σ.get) o
   match evCore A T an σ.n (only rd σ.get) (if hr then σ.heap else []) o with
   | some (ss,h)=>if hr||h.isNone then some { sets:=ss,heap:=h,rd,hr,ho:=[] } else none
   | none=>none
end Go.Am

namespace Go.Am
inductive Root where
 | s (t:Nat)
 | o (i:Nat)
 | ret
 | df
 | no
 deriving DecidableEq
inductive Loc where
 | s (t:Nat)
 | sc (t j:Nat)
 | o (i:Nat)
 | oc (i j:Nat)
 | ret
 | df
 | no
 deriving DecidableEq
def Loc.root:Loc->Root
 | .s t | .sc t _ => .s t
 | .o i | .oc i _ => .o i
 | .ret => .ret
 | .df => .df
 | .no => .no
structure Gh where
 K:Addr->Option Value
 O:Nat->Option (Loc×Nat)
 β:Root->Nat
 nh:Nat
def uniform (k:Nat) (l:List D):Prop := ∀ x∈l,x.cells.length=k
def ifaceV (z:Int):Value:=if z<0 then .nilIface else .iface z.toNat (.agg #[])
theorem ifaceV_one (z:Int):(ifaceV z).oneCell'=true:=by unfold ifaceV;split <;> rfl
inductive RepD (K:Addr->Option Value):D->Value->Prop
 | bool (b:Bool):RepD K (.bool b) (.bool b)
 | int (k:IntKind) (n:Int):RepD K (.int k n) (.int k n)
 | str (s:ByteArray):RepD K (.str s) (.string s)
 | iface (z:Int):RepD K (.iface z) (ifaceV z)
 | agg (cs:List D) (vs:Array Value) (hs:vs.size=cs.length) (h : ∀ (i:Nat) (hi:i<cs.length),RepD K cs[i] (vs.getD i undef)) (h1 : ∀ v∈vs,v.oneCell'=true):RepD K (.agg cs) (.agg vs)
 | ref (cs:List D) (b off:Nat) (vs:Nat->Value) (hK : ∀ j,j<cs.length->K ⟨b,off+j,none⟩=some (vs j)) (h1 : ∀ j,j<cs.length->(vs j).oneCell'=true)
   (h : ∀ (j:Nat) (hj:j<cs.length),RepD K cs[j] (vs j)):RepD K (.ref cs) (.pointer (some ⟨b,off,none⟩))
 | nil (k:Nat):RepD K (.list k []) (.slice none 0 0)
 | none0 (k:Nat) (a:Addr):RepD K (.list k []) (.slice (some a) 0 0)
 | list (k:Nat) (l:List D) (b off cap:Nat) (vs:Nat->Value) (hu:uniform k l) (hc:l.length<=cap)
   (hK : ∀ j,j<(D.flat l).length->K ⟨b,off+j,none⟩=some (vs j)) (h1 : ∀ j,j<(D.flat l).length->(vs j).oneCell'=true) (h : ∀ (j:Nat) (hj:j<(D.flat l).length),RepD K (D.flat l)[j] (vs j)) :
   RepD K (.list k l) (.slice (some ⟨b,off,none⟩) l.length cap)
def KLe (K K':Addr->Option Value):Prop := ∀ x v,K x=some v->K' x=some v
theorem KLe.refl (K:Addr->Option Value):KLe K K:=fun _ _ h=>h
theorem KLe.trans {K K' K'':Addr->Option Value} (h:KLe K K') (h':KLe K' K''):KLe K K'':=fun x v e=>h' x v (h x v e)
theorem RepD.mono {K K':Addr->Option Value} (hK:KLe K K') {x:D} {v:Value} (h:RepD K x v):RepD K' x v:=by
 induction h with
 | bool b=>exact .bool b
 | int k n=>exact .int k n
 | str s=>exact .str s
 | iface z=>exact .iface z
 | agg cs vs hs _ h1 ih=>exact .agg cs vs hs ih h1
 | ref cs b off vs hk h1 _ ih=>exact .ref cs b off vs (fun j hj=>hK _ _ (hk j hj)) h1 ih
 | nil k=>exact .nil k
 | none0 k a=>exact .none0 k a
 | list k l b off cap vs hu hc hk h1 _ ih=>exact .list k l b off cap vs hu hc (fun j hj=>hK _ _ (hk j hj)) h1 ih
theorem RepD.zero (K:Addr->Option Value) (k:Nat) (a:Option Addr):RepD K (.list k []) (.slice a 0 0):=by
 cases a with
 | none=>exact .nil k
 | some a=>exact .none0 k a
def Tail (G:Gh) (w:World) (ℓ:Loc) (k:Nat) (v:Value):Prop :=
 ∀ (a:Addr) (n cap:Nat),v = .slice (some a) n cap->0<cap ->
   ∃ f c e,G.O a.block=some (ℓ,f)/\f<=a.off+n*k/\w.heap[a.block]?=some (.cells c e (0,0))/\a.off+cap*k<=c.size/\a.off=0
def TailZ (z:Bool) (G:Gh) (w:World) (ℓ:Loc) (k:Nat) (v:Value):Prop :=
 ∀ (a:Addr) (n cap:Nat),v = .slice (some a) n cap->0<cap ->
   ∃ f c e,G.O a.block=some (ℓ,f)/\f<=a.off+n*k/\w.heap[a.block]?=some (.cells c e (0,0))/\a.off+cap*k<=c.size/\(z=true->a.off=0)
def AV.free:AV->Bool
 | .own .. | .lim .. | .tail .. | .lbox _ | .place .. | .fresh .. => false
 | _=>true
def AV.frl:AV->Bool
 | .lim .. => true
 | c=>c.free
theorem AV.frl_of {c:AV} (h:c.free=true):c.frl=true:=by cases c <;> first | exact h | rfl
def AV.isLocal:AV->Bool
 | .place .. | .lbox _=>true
 | _=>false
def Fresh (G:Gh) (w:World) (ℓ:Loc) (k:Nat) (l:List D) (v:Value):Prop :=
 ∃ (p:Option Addr) (cap:Nat),v = .slice p l.length cap/\uniform k l/\l.length<=cap/\(0<cap -> ∃ (b:Nat) (vs:Array Value) (e:TypeId),p=some ⟨b,0,none⟩/\G.O b=some (ℓ,0) /\
   w.heap[b]?=some (.cells vs e (0,0))/\cap*k<=vs.size/\(∀ j,j<(D.flat l).length->(vs.getD j Go.undef).oneCell'=true) /\ ∀ (j:Nat) (hj:j<(D.flat l).length),RepD G.K (D.flat l)[j] (vs.getD j Go.undef))
theorem Fresh.mono {G G':Gh} {w w':World} {ℓ ℓ':Loc} {k:Nat} {l:List D} {v:Value} (h:Fresh G w ℓ k l v) (hK:KLe G.K G'.K) (hO : ∀ b,G.O b=some (ℓ,0)->G'.O b=some (ℓ',0)/\w'.heap[b]?=w.heap[b]?):Fresh G' w' ℓ' k l v:=by
 obtain ⟨p,cap,h1,h2,h3,h4⟩:=h
 refine ⟨p,cap,h1,h2,h3,fun hc => ?_⟩
 obtain ⟨b,vs,e,h5,h6,h7,h8,h9,h10⟩:=h4 hc
 obtain ⟨q1,q2⟩:=hO b h6
 exact ⟨b,vs,e,h5,q1,q2.trans h7,h8,h9,fun j hj=>(h10 j hj).mono hK⟩
inductive RepV (G:Gh) (w:World):Loc->AV->Value->Prop
 | undef (ℓ:Loc) (v:Value):RepV G w ℓ .undef v
 | abool (ℓ:Loc) (b:Bool):RepV G w ℓ .abool (.bool b)
 | d (ℓ:Loc) (x:D) (v:Value) (h:RepD G.K x v):RepV G w ℓ (.d x) v
 | ptr (ℓ:Loc) (a off:Nat) (ha:a<G.nh):RepV G w ℓ (.ptr a off) (.pointer (some ⟨G.β (.o a),off,none⟩))
 | nilptr (ℓ:Loc):RepV G w ℓ .nilptr (.pointer none)
 | iptr (ℓ:Loc) (cs:List D) (b off:Nat) (vs:Nat->Value) (hK : ∀ j,j<cs.length->G.K ⟨b,off+j,none⟩=some (vs j))
   (h1 : ∀ j,j<cs.length->(vs j).oneCell'=true) (h : ∀ (j:Nat) (hj:j<cs.length),RepD G.K cs[j] (vs j)):RepV G w ℓ (.iptr cs) (.pointer (some ⟨b,off,none⟩))
 | own (ℓ:Loc) (k:Nat) (l:List D) (v:Value) (h:RepD G.K (.list k l) v) (ht:Tail G w ℓ k v):RepV G w ℓ (.own k l) v
 | lim (ℓ:Loc) (k:Nat) (l:List D) (v:Value) (h:RepD G.K (.list k l) v) (ht : ∀ a n cap,v = .slice a n cap->n=cap):RepV G w ℓ (.lim k l) v
 | tail (ℓ:Loc) (k:Nat) (l:List D) (v:Value) (h:RepD G.K (.list k l) v) (ht:TailZ false G w ℓ k v):RepV G w ℓ (.tail k l) v
 | func (ℓ:Loc) (f:FuncId) (as bs:List AV) (va vb:Array Value) (ha:va.size=as.length) (hb:vb.size=bs.length)
   (h : ∀ (i:Nat) (hi:i<as.length),RepV G w .no as[i] (va.getD i Go.undef)) (h' : ∀ (i:Nat) (hi:i<bs.length),RepV G w .no bs[i] (vb.getD i Go.undef))
   (hc : ∀ c∈as,c.isLocal=false) (hc' : ∀ c∈bs,c.isLocal=false) :
   RepV G w ℓ (.func f as bs) (.func (.func f) va vb)
 | nilfunc (ℓ:Loc):RepV G w ℓ .nilfunc .nilFunc
 | yield (ℓ:Loc) (l:Nat) (hl:l<G.nh):RepV G w ℓ (.yield l) (.func (.yield (G.β (.o l))) #[] #[])
 | map (ℓ:Loc) (a:Nat) (ha:a<G.nh):RepV G w ℓ (.map a) (.map (some (G.β (.o a))))
 | nilmap (ℓ:Loc):RepV G w ℓ .nilmap (.map none)
 | lbox (t:Nat) (cs:List AV) (vs:Array Value) (e:TypeId) (hO:G.O (G.β (.s t))=some (.s t,0)) (hw:w.heap[G.β (.s t)]?=some (.cells vs e (0,0)))
   (hs:vs.size=cs.length) (h : ∀ (j:Nat) (hj:j<cs.length),RepV G w (.sc t j) cs[j] (vs.getD j Go.undef)) (hc : ∀ c∈cs,c.isCell=true) :
   RepV G w (.s t) (.lbox cs) (.pointer (some ⟨G.β (.s t),0,none⟩))
 | place (ℓ:Loc) (r off:Nat):RepV G w ℓ (.place r off) (.pointer (some ⟨G.β (.s r),off,none⟩))
 | mref (ℓ:Loc) (a k:Nat) (lo n:Int) (b off cap:Nat) (ha:a<G.nh) (hlo:0<=lo) (hn:0<=n) (hc:n.toNat<=cap) (hb:0<n->b=G.β (.o a)/\off=lo.toNat*k):RepV G w ℓ (.mref a k lo n) (.slice (some ⟨b,off,none⟩) n.toNat cap)
 | mcap (ℓ:Loc) (a k:Nat) (lo n c:Int) (b off cap:Nat) (ha:a<G.nh) (hlo:0<=lo) (hn:0<=n) (hc:n<=c) (hcc:c<=(cap:Int)) (hb:0<c->b=G.β (.o a)/\off=lo.toNat*k):RepV G w ℓ (.mcap a k lo n c) (.slice (some ⟨b,off,none⟩) n.toNat cap)
 | gref (ℓ:Loc) (a k:Nat) (p:Option Addr) (ha:a+2<G.nh) (hc:G.β (.o (a+2))<=G.β (.o (a+1))) (hp:0<G.β (.o (a+1))->p=some ⟨G.β (.o a),0,none⟩):RepV G w ℓ (.gref a k) (.slice p (G.β (.o (a+2))) (G.β (.o (a+1))))
 | fresh (ℓ:Loc) (k:Nat) (l:List D) (v:Value) (h:Fresh G w ℓ k l v):RepV G w ℓ (.fresh k l) v
 | junk (ℓ:Loc) (v:Value) (h:v.oneCell'=true):RepV G w ℓ .junk v
 | eptr (ℓ:Loc) (a k:Nat) (i:Int) (j:Nat) (ha:a<G.nh) (hi:0<=i):RepV G w ℓ (.eptr a k i j) (.pointer (some ⟨G.β (.o a),i.toNat*k+j,none⟩))
 | vptr (ℓ:Loc) (a k:Nat) (i:Int) (j m:Nat) (z:Int) (ha:a<G.nh) (hi:0<=i) (hz:0<=z) (hm:z<(m:Int)):RepV G w ℓ (.vptr a k i j m z) (.pointer (some ⟨G.β (.o a),i.toNat*k+(j+z.toNat),none⟩))
 | agg (ℓ:Loc) (cs:List AV) (vs:Array Value) (hs:vs.size=cs.length) (h : ∀ (i:Nat) (hi:i<cs.length),RepV G w .no cs[i] (vs.getD i Go.undef))
   (hc : ∀ c∈cs,c.isCell=true) (hf : ∀ c∈cs,c.frl=true):RepV G w ℓ (.agg cs) (.agg vs)
 | tuple (ℓ:Loc) (cs:List AV) (vs:Array Value) (hs:vs.size=cs.length) (h : ∀ (i:Nat) (hi:i<cs.length),RepV G w .no cs[i] (vs.getD i Go.undef))
   (hc : ∀ c∈cs,c.isLocal=false) :
   RepV G w ℓ (.tuple cs) (.tuple vs)
theorem ownZ_rep {z:Bool} {G:Gh} {w:World} {ℓ:Loc} {k:Nat} {l:List D} {v:Value}:RepV G w ℓ (.ownZ z k l) v↔RepD G.K (.list k l) v/\TailZ z G w ℓ k v:=by
 cases z with
 | true =>
   simp only [AV.ownZ,if_true]
   constructor
   ·intro h
    cases h with | own _ _ _ _ h ht =>
    exact ⟨h,fun a n cap e hc=>by obtain ⟨f,c,e,h1,h2,h3,h4,h5⟩:=ht a n cap e hc;exact ⟨f,c,e,h1,h2,h3,h4,fun _=>h5⟩⟩
   ·rintro ⟨h,ht⟩
    exact .own _ _ _ _ h fun a n cap e hc=>by obtain ⟨f,c,e,h1,h2,h3,h4,h5⟩:=ht a n cap e hc;exact ⟨f,c,e,h1,h2,h3,h4,h5 rfl⟩
 | false =>
   simp only [AV.ownZ,Bool.false_eq_true,if_false]
   constructor
   ·intro h;cases h with | tail _ _ _ _ h ht=>exact ⟨h,ht⟩
   ·rintro ⟨h,ht⟩;exact .tail _ _ _ _ h ht
theorem TailZ.weak {z:Bool} {G:Gh} {w:World} {ℓ:Loc} {k:Nat} {v:Value} (h:TailZ z G w ℓ k v):TailZ false G w ℓ k v:=by
 intro a n cap e hc
 obtain ⟨f,c,e,h1,h2,h3,h4,h5⟩:=h a n cap e hc
 exact ⟨f,c,e,h1,h2,h3,h4,fun h=>by cases h⟩
def D.sval:D->Value
 | .int k n => .int k n
 | .bool b => .bool b
 | .str s => .string s
 | _=>Go.undef
def mkV (agg:Bool) (xs:List D):Value :=
 if agg then .agg (xs.map D.sval).toArray else match xs with
 | x::_=>x.sval
 | []=>Go.undef
inductive EntRep (K:Addr->Option Value) (agg:Bool) (ks:List CK):List (D×D)->List MapEntry->Prop
 | nil:EntRep K agg ks [] []
 | cons {p:D×D} {m:MapEntry} {es:List (D×D)} {ms:List MapEntry} (hp:keyConf agg ks p.1=true/\m.key=mkV agg p.1.cells/\RepD K p.2 m.val) (h:EntRep K agg ks es ms):EntRep K agg ks (p::es) (m::ms)
theorem EntRep.mono {K K':Addr->Option Value} (hK:KLe K K') {agg:Bool} {ks:List CK} {es:List (D×D)} {ms:List MapEntry} (h:EntRep K agg ks es ms):EntRep K' agg ks es ms:=by
 induction h with
 | nil=>exact .nil
 | cons hp _ ih=>exact .cons ⟨hp.1,hp.2.1,hp.2.2.mono hK⟩ ih
structure Pres (G G':Gh) (w w':World) (S:Loc->Prop):Prop where
 K:KLe G.K G'.K
 O : ∀ (b:Nat) (ℓ:Loc) (f:Nat),S ℓ->G.O b=some (ℓ,f)->G'.O b=some (ℓ,f)/\w'.heap[b]?=w.heap[b]?
 β : ∀ a,a<G.nh->G'.β (.o a)=G.β (.o a)
 nh:G.nh<=G'.nh
theorem Tail.pres {G G':Gh} {w w':World} {S:Loc->Prop} {ℓ:Loc} (hp:Pres G G' w w' S) (hS:S ℓ) {k:Nat} {v:Value} (h:Tail G w ℓ k v):Tail G' w' ℓ k v:=by
 intro a n cap hv hn
 obtain ⟨f,c,e,h1,h2,h3,h4⟩:=h a n cap hv hn
 obtain ⟨h5,h6⟩:=hp.O _ _ _ hS h1
 exact ⟨f,c,e,h5,h2,h6.trans h3,h4⟩
theorem TailZ.pres {z:Bool} {G G':Gh} {w w':World} {S:Loc->Prop} {ℓ:Loc} (hp:Pres G G' w w' S) (hS:S ℓ) {k:Nat} {v:Value} (h:TailZ z G w ℓ k v):TailZ z G' w' ℓ k v:=by
 intro a n cap hv hn
 obtain ⟨f,c,e,h1,h2,h3,h4⟩:=h a n cap hv hn
 obtain ⟨h5,h6⟩:=hp.O _ _ _ hS h1
 exact ⟨f,c,e,h5,h2,h6.trans h3,h4⟩
structure Sane (G:Gh):Prop where
 no : ∀ b ℓ f,G.O b=some (ℓ,f)->ℓ.root ≠ .no
theorem Pres.no {G G':Gh} {w w':World} {S:Loc->Prop} (hG:Sane G) (h:Pres G G' w w' S):Pres G G' w w' (· = .no) :=
 ⟨h.K,fun b ℓ f hr hO=>absurd (hr▸rfl) (hG.no b ℓ f hO),h.β,h.nh⟩
theorem AV.isLocal_of_isCell {c:AV} (h:c.isCell=true):c.isLocal=false:=by
 cases c <;> first | rfl | (simp [AV.isCell] at h)
theorem AV.not_place {c:AV} (h:c.isLocal=false) (r off:Nat):c ≠ .place r off:=by
 rintro rfl;simp [AV.isLocal] at h
theorem RepV.pres {G G':Gh} {w w':World} (hG:Sane G) {ℓ:Loc} {av:AV} {v:Value} (h:RepV G w ℓ av v) :
  ∀ {S:Loc->Prop},Pres G G' w w' S->S ℓ->(∀ r off,av = .place r off->G'.β (.s r)=G.β (.s r)) ->
    (∀ t,ℓ = .s t->av.isBox=true->G'.β (.s t)=G.β (.s t) /\ ∀ j,S (.sc t j))->RepV G' w' ℓ av v:=by
 induction h with
 | undef ℓ v=>exact fun _ _ _ _ => .undef ℓ v
 | abool ℓ b=>exact fun _ _ _ _ => .abool ℓ b
 | d ℓ x v h=>exact fun hp _ _ _ => .d ℓ x v (h.mono hp.K)
 | ptr ℓ a off ha=>intro S hp _ _ _;rw [<-hp.β a ha];exact .ptr ℓ a off (Nat.lt_of_lt_of_le ha hp.nh)
 | nilptr ℓ=>exact fun _ _ _ _ => .nilptr ℓ
 | iptr ℓ cs b off vs hK h1 h=>exact fun hp _ _ _ => .iptr ℓ cs b off vs (fun j hj=>hp.K _ _ (hK j hj)) h1 (fun j hj=>(h j hj).mono hp.K)
 | own ℓ k l v h ht=>exact fun hp hS _ _ => .own ℓ k l v (h.mono hp.K) (ht.pres hp hS)
 | lim ℓ k l v h ht=>exact fun hp _ _ _ => .lim ℓ k l v (h.mono hp.K) ht
 | tail ℓ k l v h ht=>exact fun hp hS _ _ => .tail ℓ k l v (h.mono hp.K) (ht.pres hp hS)
 | func ℓ f as bs va vb ha hb _ _ hc hc' ih ih' =>
   intro S hp _ _ _
   exact .func ℓ f as bs va vb ha hb
    (fun i hi=>ih i hi (hp.no hG) rfl (fun r off e=>absurd e (AV.not_place (hc _ (zp6 hi)) r off)) (fun t e=>by cases e))
    (fun i hi=>ih' i hi (hp.no hG) rfl (fun r off e=>absurd e (AV.not_place (hc' _ (zp6 hi)) r off)) (fun t e=>by cases e)) hc hc'
 | nilfunc ℓ=>exact fun _ _ _ _ => .nilfunc ℓ
 | yield ℓ l hl=>intro S hp _ _ _;rw [<-hp.β l hl];exact .yield ℓ l (Nat.lt_of_lt_of_le hl hp.nh)
 | map ℓ a ha=>intro S hp _ _ _;rw [<-hp.β a ha];exact .map ℓ a (Nat.lt_of_lt_of_le ha hp.nh)
 | nilmap ℓ=>exact fun _ _ _ _ => .nilmap ℓ
 | lbox t cs vs e hO hw hs _ hc ih =>
   intro S hp hS _ hb
   obtain ⟨hβ,hSc⟩:=hb t rfl rfl
   obtain ⟨h1,h2⟩:=hp.O _ _ _ hS hO
   rw [<-hβ] at h1 h2 hw ⊢
   refine .lbox t cs vs e h1 (h2.trans hw) hs (fun j hj=>ih j hj hp (hSc j) ?_ (fun t e=>by cases e)) hc
   exact fun r off e=>absurd e (AV.not_place (AV.isLocal_of_isCell (hc _ (zp6 hj))) r off)
 | place ℓ r off=>intro S _ _ hpl _;rw [<-hpl r off rfl];exact .place ℓ r off
 | mref ℓ a k lo n b off cap ha hlo hn hc hb=>intro S hp _ _ _;exact .mref ℓ a k lo n b off cap (Nat.lt_of_lt_of_le ha hp.nh) hlo hn hc (fun h=>by rw [hp.β a ha];exact hb h)
 | mcap ℓ a k lo n c b off cap ha hlo hn hc hcc hb=>intro S hp _ _ _;exact .mcap ℓ a k lo n c b off cap (Nat.lt_of_lt_of_le ha hp.nh) hlo hn hc hcc (fun h=>by rw [hp.β a ha];exact hb h)
 | gref ℓ a k p ha hc hq=>intro S hp _ _ _;rw [<-hp.β _ ha,<-hp.β _ (by omega:a+1<_)] at hc;rw [<-hp.β _ ha,<-hp.β _ (by omega:a+1<_)];exact .gref ℓ a k p (Nat.lt_of_lt_of_le ha hp.nh) hc (fun h=>by rw [hp.β _ (by omega:a<_)];exact hq (by rw [<-hp.β _ (by omega:a+1<_)];exact h))
 | fresh ℓ k l v h=>exact fun hp hS _ _ => .fresh ℓ k l v (h.mono hp.K (fun b hO=>hp.O b ℓ 0 hS hO))
 | junk ℓ v h=>exact fun _ _ _ _ => .junk ℓ v h
 | eptr ℓ a k i j ha hi=>intro S hp _ _ _;rw [<-hp.β a ha];exact .eptr ℓ a k i j (Nat.lt_of_lt_of_le ha hp.nh) hi
 | vptr ℓ a k i j m z ha hi hz hm=>intro S hp _ _ _;rw [<-hp.β a ha];exact .vptr ℓ a k i j m z (Nat.lt_of_lt_of_le ha hp.nh) hi hz hm
 | agg ℓ cs vs hs _ hc hf ih =>
   intro S hp _ _ _
   exact .agg ℓ cs vs hs (fun i hi=>ih i hi (hp.no hG) rfl (fun r off e=>absurd e (AV.not_place (AV.isLocal_of_isCell (hc _ (zp6 hi))) r off)) (fun t e=>by cases e)) hc hf
 | tuple ℓ cs vs hs _ hc ih =>
   intro S hp _ _ _
   exact .tuple ℓ cs vs hs (fun i hi=>ih i hi (hp.no hG) rfl (fun r off e=>absurd e (AV.not_place (hc _ (zp6 hi)) r off)) (fun t e=>by cases e)) hc
def Born (ms:Array MapEntry) (clock:Nat):Prop:=clock=ms.size /\ ∀ (j:Nat) (e:MapEntry),ms[j]?=some e->e.born=j
def RepObj (G:Gh) (w:World) (i:Nat):Obj->Prop
 | .cells cs => ∃ vs e,G.O (G.β (.o i))=some (.o i,0)/\w.heap[G.β (.o i)]?=some (.cells vs e (0,0))/\vs.size=cs.length /\
   (∀ (j:Nat) (hj:j<cs.length),RepV G w (.oc i j) cs[j] (vs.getD j Go.undef)) /\ ∀ c∈cs,c.isCell=true
 | .arr k l => ∃ vs e,G.O (G.β (.o i))=some (.o i,0)/\w.heap[G.β (.o i)]?=some (.cells vs e (0,0))/\uniform k l/\(D.flat l).length<=vs.size/\(∀ j,j<(D.flat l).length->(vs.getD j Go.undef).oneCell'=true) /\
   ∀ (j:Nat) (hj:j<(D.flat l).length),RepD G.K (D.flat l)[j] (vs.getD j Go.undef)
 | .map agg ks es => ∃ ms clock,G.O (G.β (.o i))=some (.o i,0)/\w.heap[G.β (.o i)]?=some (.map ms clock)/\EntRep G.K agg ks es ms.toList/\Born ms clock
 | .loop L => ∃ fn tmps D,G.O (G.β (.o i))=some (.o i,0)/\w.heap[G.β (.o i)]?=some (.loop { state:=L.st,pending:=L.pending,fn,tmps,params:=L.params,assign:=L.assign,body:=L.body,defers:=D }) /\
   tmps.size=L.n/\(∀ t,RepV G w .no (eget L.env t) (tmps.getD t Go.undef)) /\ ∀ t,(eget L.env t).free=true
 | .gro k l=>i+2<G.nh/\l.length=G.β (.o (i+2))/\l.length<=G.β (.o (i+1))/\uniform k l/\(0<G.β (.o (i+1)) -> ∃ vs e,G.O (G.β (.o i))=some (.o i,0)/\w.heap[G.β (.o i)]?=some (.cells vs e (0,0))/\G.β (.o (i+1))*k<=vs.size /\
   (∀ j,j<(D.flat l).length->(vs.getD j Go.undef).oneCell'=true) /\ ∀ (j:Nat) (hj:j<(D.flat l).length),RepD G.K (D.flat l)[j] (vs.getD j Go.undef))
 | .dead=>True
theorem RepObj.pres {G G':Gh} {w w':World} (hG:Sane G) {i:Nat} {ob:Obj} (h:RepObj G w i ob) (hi:i<G.nh) {S:Loc->Prop} (hp:Pres G G' w w' S) (hS:S (.o i)) (hSc : ∀ j,S (.oc i j)):RepObj G' w' i ob:=by
 cases ob with
 | cells cs =>
   obtain ⟨vs,e,h1,h2,h3,h4,h5⟩:=h
   obtain ⟨h6,h7⟩:=hp.O _ _ _ hS h1
   have hβ:=hp.β i hi
   rw [<-hβ] at h2 h6 h7
   exact ⟨vs,e,h6,h7.trans h2,h3,fun j hj=>(h4 j hj).pres hG hp (hSc j) (fun r off e=>absurd e (AV.not_place (AV.isLocal_of_isCell (h5 _ (zp6 hj))) r off)) (fun t e=>by cases e),h5⟩
 | arr k l =>
   obtain ⟨vs,e,h1,h2,h3,h4,h8,h5⟩:=h
   obtain ⟨h6,h7⟩:=hp.O _ _ _ hS h1
   have hβ:=hp.β i hi
   rw [<-hβ] at h2 h6 h7
   exact ⟨vs,e,h6,h7.trans h2,h3,h4,h8,fun j hj=>(h5 j hj).mono hp.K⟩
 | map agg ks es =>
   obtain ⟨ms,clock,h1,h2,h3⟩:=h
   obtain ⟨h6,h7⟩:=hp.O _ _ _ hS h1
   have hβ:=hp.β i hi
   rw [<-hβ] at h2 h6 h7
   exact ⟨ms,clock,h6,h7.trans h2,h3.1.mono hp.K,h3.2⟩
 | loop L =>
   obtain ⟨fn,tmps,D,h1,h2,h3,h4,h5⟩:=h
   obtain ⟨h6,h7⟩:=hp.O _ _ _ hS h1
   have hβ:=hp.β i hi
   rw [<-hβ] at h2 h6 h7
   refine ⟨fn,tmps,D,h6,h7.trans h2,h3,fun t=>(h4 t).pres hG (hp.no hG) rfl (fun r off e => ?_) (fun t e=>by cases e),h5⟩
   have:=h5 t;rw [e] at this;simp [AV.free] at this
 | gro k l =>
   obtain ⟨g0,g1,g2,g3,g4⟩:=h
   have b0:=hp.β i hi
   have b1:=hp.β (i+1) (by omega)
   have b2:=hp.β (i+2) g0
   refine ⟨Nat.lt_of_lt_of_le g0 hp.nh,by rw [b2];exact g1,by rw [b1];exact g2,g3,fun hc => ?_⟩
   rw [b1] at hc
   obtain ⟨vs,e,h1,h2,h3,h8,h5⟩:=g4 hc
   obtain ⟨h6,h7⟩:=hp.O _ _ _ hS h1
   rw [<-b0] at h2 h6 h7
   exact ⟨vs,e,h6,h7.trans h2,by rw [b1];exact h3,h8,fun j hj=>(h5 j hj).mono hp.K⟩
 | dead=>trivial
structure RelH (G:Gh) (H:List Obj) (w:World):Prop where
 sane:Sane G
 nh:H.length=G.nh
 objs : ∀ (i:Nat) (ob:Obj),H[i]?=some ob->RepObj G w i ob
 kept : ∀ x v,G.K x=some v->w.cell? x=some v
 disj : ∀ b ℓ f,G.O b=some (ℓ,f)->b<w.heap.size /\ ∀ j,f<=j->G.K ⟨b,j,none⟩=none
def RelF (G:Gh) (ds:List Deferred) (w:World):Prop :=
 (ds.map fun d=>match d.target with | .collected r=>r | _=>0).Nodup /\
 ∀ d∈ds,∃ r,d={ target := .collected r,args := #[] }/\G.O r=some (.df,0)/\w.heap[r]?=some (.deferred (some []))
structure Rel (G:Gh) (σ:St) (a:Act) (w:World):Prop where
 h:RelH G σ.heap w
 size:a.tmps.size=σ.n
 slots : ∀ t,RepV G w (.s t) (σ.get t) (a.tmps.getD t Go.undef)
 places : ∀ t r off,σ.get t = .place r off -> ∃ cs,σ.get r = .lbox cs
 df:RelF G a.defers w
structure Ext (m:Nat) (G:Gh) (w:World) (G':Gh) (w':World):Prop where
 K:KLe G.K G'.K
 new : ∀ x v,G'.K x=some v->G.K x=some v\/(∃ p,G.O x.block=some p)\/w.heap.size<=x.block
 others : ∀ b,b<w.heap.size->G.O b=none->w'.heap[b]?=w.heap[b]?/\G'.O b=none
 size:w.heap.size<=w'.heap.size
 β : ∀ i,i<m->G'.β (.o i)=G.β (.o i)
 io:w'.os=w.os/\w'.output=w.output/\(∀ a,a.block<w.heap.size->w'.frozen? a=w.frozen? a)/\w'.tape=w.tape/\w.drawn<=w'.drawn
theorem Ext.refl (m:Nat) (G:Gh) (w:World):Ext m G w G w:=⟨KLe.refl _,fun _ _ h => .inl h,fun _ _ h=>⟨rfl,h⟩,Nat.le_refl _,fun _ _=>rfl,rfl,rfl,fun _ _=>rfl,rfl,Nat.le_refl _⟩
theorem Ext.trans {m:Nat} {G₁ G₂ G₃:Gh} {w₁ w₂ w₃:World} (h:Ext m G₁ w₁ G₂ w₂) (h':Ext m G₂ w₂ G₃ w₃):Ext m G₁ w₁ G₃ w₃ where
 K:=h.K.trans h'.K
 new x v e:=by
  rcases h'.new x v e with e | ⟨p,e⟩ | e
  ·exact h.new x v e
  ·rcases Nat.lt_or_ge x.block w₁.heap.size with hb | hb
   ·cases hO:G₁.O x.block with
    | none=>rw [(h.others _ hb hO).2] at e;cases e
    | some q=>exact .inr (.inl ⟨q,rfl⟩)
   ·exact .inr (.inr hb)
  ·exact .inr (.inr (Nat.le_trans h.size e))
 others b hb hO:=by
  obtain ⟨h1,h2⟩:=h.others b hb hO
  obtain ⟨h3,h4⟩:=h'.others b (Nat.lt_of_lt_of_le hb h.size) h2
  exact ⟨h3.trans h1,h4⟩
 size:=Nat.le_trans h.size h'.size
 β i hi:=(h'.β i hi).trans (h.β i hi)
 io:=⟨h'.io.1.trans h.io.1,h'.io.2.1.trans h.io.2.1,fun a ha=>(h'.io.2.2.1 a (Nat.lt_of_lt_of_le ha h.size)).trans (h.io.2.2.1 a ha),h'.io.2.2.2.1.trans h.io.2.2.2.1,Nat.le_trans h.io.2.2.2.2 h'.io.2.2.2.2⟩
end Go.Am

namespace Go.Am
open Go
def zeroCell:AV->Value->Bool
 | .d (.int k n),.int k' n'=>decide (k=k'/\n=n')
 | .d (.bool b),.bool b'=>b == b'
 | .d (.str s),.string s'=>decide (s.data=s'.data)
 | .d (.iface z),.nilIface=>decide (z<0)
 | .own _ [],.slice none 0 0=>true
 | .nilptr,.pointer none=>true
 | .nilmap,.map none=>true
 | .nilfunc,.nilFunc=>true
 | _,_=>false
theorem zeroCell_ok {c:AV} {v:Value} (h:zeroCell c v=true):(∀ G w ℓ,RepV G w ℓ c v)/\c.isCell=true/\v.oneCell'=true:=by
 unfold zeroCell at h
 split at h <;> simp at h
 case h_1=>obtain ⟨rfl,rfl⟩:=h;exact ⟨fun G w ℓ => .d _ _ _ (.int _ _),rfl,rfl⟩
 case h_2=>subst h;exact ⟨fun G w ℓ => .d _ _ _ (.bool _),rfl,rfl⟩
 case h_3 s s'=>obtain rfl:s=s':=by cases s;cases s';simp_all
                exact ⟨fun G w ℓ => .d _ _ _ (.str _),rfl,rfl⟩
 case h_4 z=>exact ⟨fun G w ℓ => .d _ _ _ (by have:=RepD.iface (K:=G.K) z;unfold ifaceV at this;rwa [if_pos h] at this),rfl,rfl⟩
 case h_5=>exact ⟨fun G w ℓ => .own _ _ _ _ (.nil _) (fun a n cap e=>by cases e),rfl,rfl⟩
 case h_6=>exact ⟨fun G w ℓ => .nilptr _,rfl,rfl⟩
 case h_7=>exact ⟨fun G w ℓ => .nilmap _,rfl,rfl⟩
 case h_8=>exact ⟨fun G w ℓ => .nilfunc _,rfl,rfl⟩
def uOk:TU->TypeDesc->Bool
 | .slice e,.slice e'=>e == e'
 | .array n e,.array n' e'=>n == n'&&e == e'
 | .struct fs,.struct fields=>fields.toList.map (fun f=>(f.type,f.offset)) == fs
 | .map k e,.map k' e'=>k == k'&&e == e'
 | .int k,.int k'=>decide (k=k')
 | .bool,.bool=>true
 | .string,.string=>true
 | .pointer,.pointer _=>true
 | .iface,.interface _=>true
 | .meth _,.struct fields=>fields.isEmpty
 | .other,d => !(d matches .struct _ | .array _ _)
 | _,_=>false
def zKind (agg:Bool):Value->Bool
 | .agg _=>agg
 | .tuple _=>false
 | _ => !agg
def eqKnown (P:Program) (t:TypeId) (d:TypeDesc):Bool :=
 decide (8<=P.depth) &&
 match d with
 | .struct fields => !P.stoodInHeld t&&fields.all fun f=>f.name != "_"
 | _=>true
theorem mlook_mem : ∀ {ms:List (String×FuncId)} {n:String} {f:FuncId},mlook ms n=some f->(n,f)∈ms
 | [],_,_,h=>by cases h
 | (s,g)::r,n,f,h=>by
   unfold mlook at h
   split at h
   ·rename_i e;subst e;cases h;simp
   ·exact List.mem_cons_of_mem _ (mlook_mem h)
def methOk (i:TypeInfo):TU->Bool
 | .meth ms=>ms.all fun p=>match i.methods.find? (fun m=>m.name == p.1) with
   | some m=>m.path.isEmpty&&decide (m.func=some (p.2,false))
   | none=>false
 | _=>true
def tdOk (P:Program) (t:TypeId) (td:TD):Bool :=
 match P.info? t,P.underlying t with
 | some i,some d =>
   (i.size == td.size&&decide (i.bytes<=4096)&&(uOk td.u d&&methOk i td.u)&&eqKnown P t d) &&
   (match i.zero with
    | some z=>z.cells.size == td.size&&td.zero.length == td.size&&((td.zero.zip z.cells.toList).all fun p=>zeroCell p.1 p.2)&&zKind td.isAgg z
    | none=>false)
 | _,_=>false
structure TOk (P:Program) (T:Types):Prop where
 ok : ∀ t td,T t=some td->tdOk P t td=true
def tlook:List (TypeId×TD)->Types
 | [],_=>none
 | (s,d)::r,t=>if s=t then some d else tlook r t
theorem TOk.of_list {P:Program} {l:List (TypeId×TD)} (h:l.all (fun p=>tdOk P p.1 p.2)=true):TOk P (tlook l):=by
 refine ⟨?_⟩
 induction l with
 | nil=>intro t td h;simp [tlook] at h
 | cons p r ih =>
   intro t td ht
   simp only [List.all_cons,zp4] at h
   obtain ⟨s,d⟩:=p
   simp only [tlook] at ht
   split at ht
   ·cases ht;rename_i hs;subst hs;exact h.1
   ·exact ih h.2 t td ht
section
variable {P:Program} {T:Types} (hT:TOk P T)
include hT
theorem TOk.info {t:TypeId} {td:TD} (h:T t=some td) :
  ∃ i d,P.info? t=some i/\P.underlying t=some d/\i.size=td.size/\i.bytes<=4096/\uOk td.u d=true /\
    ∃ z,i.zero=some z/\z.cells.size=td.size/\td.zero.length=td.size /\ ∀ (j:Nat) (hj:j<td.zero.length),zeroCell td.zero[j] (z.cells.getD j Go.undef)=true:=by
 have h:=hT.ok t td h
 unfold tdOk at h
 split at h
 ·rename_i i d hi hd
  split at h
  ·rename_i z hz
   simp only [zp4,beq_iff_eq,decide_eq_true_eq,List.all_eq_true] at h
   obtain ⟨⟨⟨⟨h1,h2⟩,h3,_⟩,_⟩,⟨⟨h4,h5⟩,h6⟩,_⟩:=h
   refine ⟨i,d,hi,hd,h1,h2,h3,z,hz,h4,h5,fun j hj => ?_⟩
   have hj':j<z.cells.size:=by omega
   have:=h6 (td.zero[j],z.cells[j]) (by
    refine List.mem_iff_getElem.2 ⟨j,by simp;omega,?_⟩
    simp)
   simpa [Array.getD,hj'] using this
  ·simp at h
 ·simp at h
theorem TOk.zeroKind {t:TypeId} {td:TD} (h:T t=some td) {i:TypeInfo} (hi:P.info? t=some i) {z:Value} (hz:i.zero=some z):zKind td.isAgg z=true:=by
 have h:=hT.ok t td h
 unfold tdOk at h
 split at h
 ·rename_i i' d hi' hd
  rw [hi] at hi';cases hi'
  rw [hz] at h
  simp only [zp4] at h
  exact h.2.2
 ·simp at h
theorem TOk.eqKnown {t:TypeId} {td:TD} (h:T t=some td) : ∃ d,P.underlying t=some d/\Am.eqKnown P t d=true:=by
 have h:=hT.ok t td h
 unfold tdOk at h
 split at h
 ·rename_i i d hi hd
  simp only [zp4] at h
  exact ⟨d,hd,h.1.2⟩
 ·simp at h
theorem TOk.meth {t:TypeId} {ms:List (String×FuncId)} {sz:Nat} {z:List AV} (h:T t=some ⟨sz,.meth ms,z⟩) : ∃ i,P.info? t=some i/\methOk i (.meth ms)=true /\ ∃ fs,P.underlying t=some (.struct fs):=by
 have h:=hT.ok t _ h
 unfold tdOk at h
 split at h
 ·rename_i i d hi hd
  simp only [zp4] at h
  refine ⟨i,hi,h.1.1.2.2,?_⟩
  have hu:=h.1.1.2.1
  cases d <;> simp [uOk] at hu
  exact ⟨_,hd⟩
 ·simp at h
theorem TOk.iface {t:TypeId} {sz:Nat} {z:List AV} (h:T t=some ⟨sz,.iface,z⟩) : ∃ ms,P.underlying t=some (.interface ms):=by
 have h:=hT.ok t _ h
 unfold tdOk at h
 split at h
 ·rename_i i d hi hd
  simp only [zp4] at h
  have hu:=h.1.1.2.1
  cases d <;> simp [uOk] at hu
  exact ⟨_,hd⟩
 ·simp at h
theorem TOk.method {t:TypeId} {ms:List (String×FuncId)} {sz:Nat} {z:List AV} (h:T t=some ⟨sz,.meth ms,z⟩) {name:String} {f:FuncId} (hf:mlook ms name=some f) (n:Nat) (w:World) :
  (Go.method (n+1) t (.agg #[]) name).run P w = .ok (f,.agg #[]) w:=by
 obtain ⟨i,hi,hm,fs,hu⟩:=hT.meth h
 unfold methOk at hm
 rw [List.all_eq_true] at hm
 have h1:=hm _ (mlook_mem hf)
 dsimp only at h1
 split at h1
 ·rename_i m hfind
  rw [zp4,decide_eq_true_eq] at h1
  obtain ⟨h2,h3⟩:=h1
  have hp:m.path.toList=[]:=by rw [Array.isEmpty_iff] at h2;rw [h2]
  have hti:(typeInfo t).run P w = .ok i w:=by simp [typeInfo,hi]
  unfold Go.method
  simp [hti,hfind,hp,follow,h3,receiverAt,run_underlying hu,Place.get,Result.andThen]
 ·cases h1
theorem TOk.size {t:TypeId} {td:TD} (h:T t=some td) (w:World):(sizeOf t).run P w = .ok td.size w:=by
 obtain ⟨i,d,hi,_,hs,_⟩:=hT.info h
 simp [sizeOf,typeInfo,hi,hs]
theorem TOk.under {t:TypeId} {td:TD} (h:T t=some td) : ∃ d,P.underlying t=some d/\uOk td.u d=true:=by
 obtain ⟨i,d,_,hd,_,_,hu,_⟩:=hT.info h
 exact ⟨d,hd,hu⟩
theorem TOk.slice {t e:TypeId} {sz:Nat} {z:List AV} (h:T t=some ⟨sz,.slice e,z⟩):P.underlying t=some (.slice e):=by
 obtain ⟨d,hd,hu⟩:=hT.under h
 cases d <;> simp [uOk] at hu
 subst hu;exact hd
theorem TOk.pointer {t:TypeId} {sz:Nat} {z:List AV} (h:T t=some ⟨sz,.pointer,z⟩) : ∃ e,P.underlying t=some (.pointer e):=by
 obtain ⟨d,hd,hu⟩:=hT.under h
 cases d <;> simp [uOk] at hu
 exact ⟨_,hd⟩
theorem TOk.array {t e:TypeId} {n sz:Nat} {z:List AV} (h:T t=some ⟨sz,.array n e,z⟩):P.underlying t=some (.array n e):=by
 obtain ⟨d,hd,hu⟩:=hT.under h
 cases d <;> simp [uOk] at hu
 obtain ⟨rfl,rfl⟩:=hu;exact hd
theorem TOk.int {t:TypeId} {sz:Nat} {k:IntKind} {z:List AV} (h:T t=some ⟨sz,.int k,z⟩):P.underlying t=some (.int k):=by
 obtain ⟨d,hd,hu⟩:=hT.under h
 cases d <;> simp [uOk] at hu
 subst hu;exact hd
theorem TOk.struct {t:TypeId} {sz:Nat} {fs:List (TypeId×Nat)} {z:List AV} (h:T t=some ⟨sz,.struct fs,z⟩) :
  ∃ fields,P.underlying t=some (.struct fields)/\fields.toList.map (fun f=>(f.type,f.offset))=fs:=by
 obtain ⟨d,hd,hu⟩:=hT.under h
 cases d <;> simp [uOk] at hu
 exact ⟨_,hd,hu⟩
theorem TOk.isAgg {t:TypeId} {td:TD} (h:T t=some td) (w:World):(isAgg t).run P w = .ok td.isAgg w:=by
 obtain ⟨d,hd,hu⟩:=hT.under h
 unfold Go.isAgg Go.underlying
 simp only [Sem.run_bind,run_program,Result.andThen_ok,hd,Sem.run_pure]
 obtain ⟨sz,u,z⟩:=td
 cases u <;> cases d <;> simp [uOk] at hu <;> simp [TD.isAgg]
end
theorem RepD.oneCell {K:Addr->Option Value} {x:D} {v:Value} (h:RepD K x v) (hx : ∀ l,x ≠ .agg l):v.oneCell'=true:=by
 cases h <;> first | rfl | (exact ifaceV_one _) | (exact absurd rfl (hx _))
theorem RepV.oneCell {G:Gh} {w:World} {ℓ:Loc} {c:AV} {v:Value} (h:RepV G w ℓ c v) (hc:c.isCell=true):v.oneCell'=true:=by
 cases h <;> first | rfl | (simp [AV.isCell] at hc;done) | skip
 case d x h=>exact h.oneCell (by rintro l rfl;simp [AV.isCell] at hc)
 case own k l h ht=>exact h.oneCell (by rintro l h;cases h)
 case lim k l h ht=>exact h.oneCell (by rintro l h;cases h)
 case tail k l h ht=>exact h.oneCell (by rintro l h;cases h)
 case fresh k l h=>obtain ⟨p,cap,rfl,_⟩:=h;rfl
 case junk h=>exact h
theorem AV.copy_isLocal (c:AV):c.copy.isLocal=false:=by cases c <;> rfl
theorem AV.copy_isCell {c:AV} (h:c.isCell=true):c.copy.isCell=true:=by cases c <;> first | exact h | rfl | (simp [AV.isCell] at h)
theorem RepV.copy {G:Gh} {w:World} {ℓ:Loc} {c:AV} {v:Value} (h:RepV G w ℓ c v) (ℓ':Loc):RepV G w ℓ' c.copy v:=by
 cases h with
 | undef=>exact .undef _ _
 | abool _ b=>exact .abool _ b
 | d _ x v h=>exact .d _ _ _ h
 | ptr _ a off ha=>exact .ptr _ _ _ ha
 | nilptr=>exact .nilptr _
 | iptr _ cs b off vs hK h1 h=>exact .iptr _ _ _ _ _ hK h1 h
 | own _ k l v h ht=>exact .d _ _ _ h
 | lim _ k l v h ht=>exact .d _ _ _ h
 | tail _ k l v h ht=>exact .d _ _ _ h
 | func _ f as bs va vb ha hb h h' hc hc'=>exact .func _ _ _ _ _ _ ha hb h h' hc hc'
 | nilfunc=>exact .nilfunc _
 | yield _ l hl=>exact .yield _ _ hl
 | map _ a ha=>exact .map _ _ ha
 | nilmap=>exact .nilmap _
 | lbox=>exact .undef _ _
 | place=>exact .undef _ _
 | mref _ a k lo n b off cap ha h1 h2 h3 h4=>exact .mref _ _ _ _ _ _ _ _ ha h1 h2 h3 h4
 | mcap _ a k lo n c b off cap ha h1 h2 h3 h4 h5=>exact .mcap _ _ _ _ _ _ _ _ _ ha h1 h2 h3 h4 h5
 | gref _ a k p ha hc hq=>exact .gref _ _ _ _ ha hc hq
 | fresh _ k l v h=>obtain ⟨p,cap,rfl,_⟩:=h;exact .junk _ _ rfl
 | junk _ v h=>exact .junk _ _ h
 | eptr _ a k i j ha hi=>exact .eptr _ _ _ _ _ ha hi
 | vptr _ a k i j m z ha hi hz hm=>exact .vptr _ _ _ _ _ _ _ ha hi hz hm
 | agg _ cs vs hs h hc hf=>exact .agg _ _ _ hs h hc hf
 | tuple _ cs vs hs h hc=>exact .tuple _ _ _ hs h hc
theorem AV.copy_free (c:AV):c.copy.free=true:=by cases c <;> rfl
theorem AV.copy_of_free {c:AV} (h:c.free=true):c.copy=c:=by cases c <;> first | rfl | (simp [AV.free] at h)
theorem RepV.anywhere {G:Gh} {w:World} {ℓ:Loc} {c:AV} {v:Value} (h:RepV G w ℓ c v) (hc:c.free=true) (ℓ':Loc):RepV G w ℓ' c v:=by
 have:=h.copy ℓ'
 rwa [AV.copy_of_free hc] at this
theorem RepV.anywhereL {G:Gh} {w:World} {ℓ:Loc} {c:AV} {v:Value} (h:RepV G w ℓ c v) (hc:c.frl=true) (ℓ':Loc):RepV G w ℓ' c v:=by
 cases c <;> first
  | exact h.anywhere hc ℓ'
  | (cases h with | lim _ _ _ _ h ht=>exact .lim _ _ _ _ h ht)
def Less (g:Nat->AV) (σ:St):Prop := ∀ t,g t=σ.get t\/g t = .undef
theorem Less.rep {g:Nat->AV} {σ:St} {G:Gh} {a:Act} {w:World} (hg:Less g σ) (R:Rel G σ a w) (t:Nat):RepV G w (.s t) (g t) (a.tmps.getD t Go.undef):=by
 rcases hg t with h | h
 ·rw [h];exact R.slots t
 ·rw [h];exact .undef _ _
theorem Less.eq {g:Nat->AV} {σ:St} (hg:Less g σ) {t:Nat} {c:AV} (h:g t=c) (hc:c ≠ .undef):σ.get t=c:=by
 rcases hg t with h' | h'
 ·rw [<-h',h]
 ·rw [h'] at h;exact absurd h.symm hc
theorem constD_ok {v:Value} {d:D} (h:constD v=some d) {K:Addr->Option Value}:RepD K d v/\v.oneCell'=true:=by
 unfold constD at h
 split at h <;> simp at h <;> subst h
 ·exact ⟨.bool _,rfl⟩
 ·exact ⟨.int _ _,rfl⟩
 ·exact ⟨.str _,rfl⟩
 ·exact ⟨RepD.iface (-1),rfl⟩
theorem constDs_get : ∀ {vs:List Value} {l:List D},constDs vs=some l->vs.length=l.length /\ ∀ (K:Addr->Option Value) (i:Nat) (v:Value) (d:D),vs[i]?=some v->l[i]?=some d->RepD K d v/\v.oneCell'=true
 | [],l,h=>by cases h;exact ⟨rfl,fun K i v d h=>by simp at h⟩
 | v::r,l,h=>by
   unfold constDs at h
   split at h
   ·rename_i d l' h1 h2
    cases h
    obtain ⟨e1,e2⟩:=constDs_get h2
    refine ⟨by simp [e1],fun K i v' d' hv hd => ?_⟩
    cases i with
    | zero=>simp at hv hd;subst hv hd;exact constD_ok h1
    | succ i=>exact e2 K i v' d' (by simpa using hv) (by simpa using hd)
   ·cases h
theorem constDs_ok {vs:Array Value} {l:List D} (h:constDs vs.toList=some l) {K:Addr->Option Value}:RepD K (.agg l) (.agg vs):=by
 obtain ⟨e1,e2⟩:=constDs_get h
 refine .agg _ _ (by simpa using e1) (fun i hi => ?_) (fun v hv => ?_)
 ·have hi':i<vs.size:=by simp at e1;omega
  have:=(e2 K i vs[i] l[i] (by simp [hi']) (by simp [hi])).1
  simpa [Array.getD,hi'] using this
 ·obtain ⟨i,hi,rfl⟩:=Array.getElem_of_mem hv
  have hi':i<l.length:=by simp at e1;omega
  exact (e2 K i vs[i] l[i] (by simp [hi]) (by simp [hi'])).2
theorem constAV_ok {T:Types} {t:TypeId} {v:Value} {c:AV} (h:constAV T t v=some c) (G:Gh) (w:World) (ℓ:Loc):RepV G w ℓ c v/\c.isLocal=false:=by
 unfold constAV at h
 split at h <;> simp at h
 case h_1=>subst h;exact ⟨.d _ _ _ (.bool _),rfl⟩
 case h_2=>subst h;exact ⟨.d _ _ _ (.int _ _),rfl⟩
 case h_3=>subst h;exact ⟨.d _ _ _ (.str _),rfl⟩
 case h_4=>obtain ⟨k,_,rfl⟩:=h;exact ⟨.own _ _ _ _ (.nil _) (fun a n cap e=>by cases e),rfl⟩
 case h_5=>subst h;exact ⟨.nilptr _,rfl⟩
 case h_6=>subst h;exact ⟨.nilmap _,rfl⟩
 case h_7=>subst h;exact ⟨.nilfunc _,rfl⟩
 case h_8=>subst h;exact ⟨.d _ _ _ (RepD.iface (-1)),rfl⟩
 case h_9 vs=>obtain ⟨l,hl,rfl⟩:=h;exact ⟨.d _ _ _ (constDs_ok hl),rfl⟩
theorem opv_ok {T:Types} {g:Nat->AV} {σ:St} {G:Gh} {a:Act} {w:World} (hg:Less g σ) (R:Rel G σ a w) {t:TypeId} {x:Operand} {c:AV} (h:opv T g t x=some c) (ℓ:Loc) :
  RepV G w ℓ c (a.eval x)/\c.isLocal=false:=by
 cases x with
 | tmp i=>simp [opv] at h;subst h;exact ⟨(hg.rep R i).copy ℓ,AV.copy_isLocal _⟩
 | const v=>exact constAV_ok h G w ℓ
 | func f=>simp [opv] at h;subst h;exact ⟨.func _ _ _ _ #[] #[] rfl rfl (fun i hi=>by simp at hi) (fun i hi=>by simp at hi) (by simp) (by simp),rfl⟩
 | global k=>simp [opv] at h
theorem dataOf_some : ∀ {cs:List AV} {ds:List D},dataOf cs=some ds->ds.length=cs.length /\
  ∀ (i:Nat) (hi:i<cs.length) (hi':i<ds.length) (G:Gh) (w:World) (ℓ:Loc) (v:Value),RepV G w ℓ cs[i] v->RepD G.K ds[i] v
 | [],ds,h=>by simp [dataOf] at h;subst h;exact ⟨rfl,fun i hi=>by simp at hi⟩
 | c::r,ds,h=>by
   unfold dataOf at h
   split at h
   ·rename_i heq;cases heq
   ·rename_i x r' heq;cases heq
    cases hr:dataOf r with
    | none=>simp [hr] at h
    | some es =>
      simp [hr] at h;subst h
      obtain ⟨h1,h2⟩:=dataOf_some hr
      refine ⟨by simp [h1],fun i hi hi' G w ℓ v hv => ?_⟩
      cases i with
      | zero=>cases hv;assumption
      | succ i=>exact h2 i (by simpa using hi) (by simpa using hi') G w ℓ v hv
   ·rename_i k l r' heq;cases heq
    cases hr:dataOf r with
    | none=>simp [hr] at h
    | some es =>
      simp [hr] at h;subst h
      obtain ⟨h1,h2⟩:=dataOf_some hr
      refine ⟨by simp [h1],fun i hi hi' G w ℓ v hv => ?_⟩
      cases i with
      | zero=>cases hv;assumption
      | succ i=>exact h2 i (by simpa using hi) (by simpa using hi') G w ℓ v hv
   ·rename_i k l r' heq;cases heq
    cases hr:dataOf r with
    | none=>simp [hr] at h
    | some es =>
      simp [hr] at h;subst h
      obtain ⟨h1,h2⟩:=dataOf_some hr
      refine ⟨by simp [h1],fun i hi hi' G w ℓ v hv => ?_⟩
      cases i with
      | zero=>cases hv;assumption
      | succ i=>exact h2 i (by simpa using hi) (by simpa using hi') G w ℓ v hv
   ·rename_i k l r' heq;cases heq
    cases hr:dataOf r with
    | none=>simp [hr] at h
    | some es =>
      simp [hr] at h;subst h
      obtain ⟨h1,h2⟩:=dataOf_some hr
      refine ⟨by simp [h1],fun i hi hi' G w ℓ v hv => ?_⟩
      cases i with
      | zero=>cases hv;assumption
      | succ i=>exact h2 i (by simpa using hi) (by simpa using hi') G w ℓ v hv
   ·simp at h
theorem mkAgg_ok {cs:List AV} {G:Gh} {w:World} {vs:Array Value} (hs:vs.size=cs.length) (h : ∀ (i:Nat) (hi:i<cs.length),∃ ℓ,RepV G w ℓ cs[i] (vs.getD i Go.undef))
  (hc : ∀ c∈cs,c.isCell=true) (ℓ:Loc):RepV G w ℓ (mkAgg cs) (.agg vs)/\(mkAgg cs).free=true:=by
 unfold mkAgg
 cases hd:dataOf cs with
 | some ds =>
   obtain ⟨h1,h2⟩:=dataOf_some hd
   refine ⟨.d _ _ _ (.agg _ _ (by omega) (fun i hi => ?_) ?_),rfl⟩
   ·obtain ⟨ℓ',hv⟩:=h i (by omega)
    exact h2 i (by omega) hi G w ℓ' _ hv
   ·intro v hv
    obtain ⟨i,hi,rfl⟩:=Array.mem_iff_getElem.1 hv
    obtain ⟨ℓ',hv⟩:=h i (by omega)
    have:=hv.oneCell (hc _ (zp6 (by omega)))
    simpa [Array.getD,hi] using this
 | none =>
   refine ⟨.agg _ _ _ (by simpa using hs) (fun i hi => ?_) ?_ ?_,rfl⟩
   ·obtain ⟨ℓ',hv⟩:=h i (by simpa using hi)
    simpa using hv.copy .no
   ·intro c hc'
    obtain ⟨c',h1,rfl⟩:=List.mem_map.1 hc'
    exact AV.copy_isCell (hc _ h1)
   ·intro c hc'
    obtain ⟨c',h1,rfl⟩:=List.mem_map.1 hc'
    exact AV.frl_of (AV.copy_free _)
theorem RepV.cells {G:Gh} {w:World} {ℓ:Loc} {c:AV} {v:Value} (h:RepV G w ℓ c v) (hfree:c.free=true) (hundef:c ≠ .undef) (ht : ∀ l,c ≠ .tuple l) :
  v.cells.size=c.cells.length /\ ∀ (i:Nat) (hi:i<c.cells.length) (ℓ':Loc),RepV G w ℓ' c.cells[i] (v.cells.getD i Go.undef):=by
 have one : ∀ {c:AV} {v:Value},RepV G w ℓ c v->c.free=true->c.cells=[c]->v.cells = #[v]->v.cells.size=c.cells.length /\ ∀ (i:Nat) (hi:i<c.cells.length) (ℓ':Loc),RepV G w ℓ' c.cells[i] (v.cells.getD i Go.undef):=by
  intro c v h hf h1 h2
  refine ⟨by rw [h1,h2];rfl,fun i hi ℓ' => ?_⟩
  have:i=0:=by rw [h1] at hi;simpa using hi
  subst this
  simp only [h1,h2]
  exact h.anywhere hf ℓ'
 cases h with
 | undef=>exact absurd rfl hundef
 | abool _ b=>exact one (.abool _ b) rfl rfl rfl
 | d _ x v h =>
   cases h with
   | agg cs vs hs h h1 =>
     refine ⟨by simpa [Value.cells,AV.cells] using hs,fun i hi ℓ' => ?_⟩
     simp only [AV.cells,List.length_map] at hi
     simpa [AV.cells,Value.cells] using RepV.d ℓ' _ _ (h i hi)
   | bool b=>exact one (.d _ _ _ (.bool b)) rfl rfl rfl
   | int k n=>exact one (.d _ _ _ (.int k n)) rfl rfl rfl
   | str s=>exact one (.d _ _ _ (.str s)) rfl rfl rfl
   | iface z=>exact one (.d _ _ _ (.iface z)) rfl rfl (by unfold ifaceV;split <;> rfl)
   | ref cs b off vs hK h1 h=>exact one (.d _ _ _ (.ref cs b off vs hK h1 h)) rfl rfl rfl
   | nil k=>exact one (.d _ _ _ (.nil k)) rfl rfl rfl
   | none0 k a=>exact one (.d _ _ _ (.none0 k a)) rfl rfl rfl
   | list k l b off cap vs hu hc hK h1 h=>exact one (.d _ _ _ (.list k l b off cap vs hu hc hK h1 h)) rfl rfl rfl
 | ptr _ a off ha=>exact one (.ptr _ a off ha) rfl rfl rfl
 | nilptr=>exact one (.nilptr _) rfl rfl rfl
 | iptr _ cs b off vs hK h1 h=>exact one (.iptr _ cs b off vs hK h1 h) rfl rfl rfl
 | own=>simp [AV.free] at hfree
 | lim=>simp [AV.free] at hfree
 | tail=>simp [AV.free] at hfree
 | func _ f as bs va vb ha hb h h' hc hc'=>exact one (.func _ f as bs va vb ha hb h h' hc hc') rfl rfl rfl
 | nilfunc=>exact one (.nilfunc _) rfl rfl rfl
 | yield _ l hl=>exact one (.yield _ l hl) rfl rfl rfl
 | map _ a ha=>exact one (.map _ a ha) rfl rfl rfl
 | nilmap=>exact one (.nilmap _) rfl rfl rfl
 | lbox=>simp [AV.free] at hfree
 | place=>simp [AV.free] at hfree
 | mref _ a k lo n b off cap ha h1 h2 h3 h4=>exact one (.mref _ a k lo n b off cap ha h1 h2 h3 h4) rfl rfl rfl
 | mcap _ a k lo n c b off cap ha h1 h2 h3 h4 h5=>exact one (.mcap _ a k lo n c b off cap ha h1 h2 h3 h4 h5) rfl rfl rfl
 | gref _ a k p ha hc hq=>exact one (.gref _ a k p ha hc hq) rfl rfl rfl
 | fresh=>simp [AV.free] at hfree
 | junk _ v h =>
   have hv:v.cells = #[v]:=by cases v <;> first | rfl | (simp [Value.oneCell'] at h)
   exact one (.junk _ v h) rfl rfl hv
 | eptr _ a k i j ha hi=>exact one (.eptr _ a k i j ha hi) rfl rfl rfl
 | vptr _ a k i j m z ha hi hz hm=>exact one (.vptr _ a k i j m z ha hi hz hm) rfl rfl rfl
 | agg _ cs vs hs h hc hf =>
   refine ⟨by simpa [Value.cells,AV.cells] using hs,fun i hi ℓ' => ?_⟩
   simp only [AV.cells] at hi
   exact (h i hi).anywhereL (hf _ (zp6 hi)) ℓ'
 | tuple=>exact absurd rfl (ht _)
theorem isCell_of_rep {K:Addr->Option Value} {cs:List D} {vs:Nat->Value} (h1 : ∀ j,j<cs.length->(vs j).oneCell'=true) (hh : ∀ (j:Nat) (hj:j<cs.length),RepD K cs[j] (vs j)) :
  ∀ c∈cs.map AV.d,c.isCell=true:=by
 intro c hc
 obtain ⟨x,hx,rfl⟩:=List.mem_map.1 hc
 obtain ⟨j,hj,rfl⟩:=List.mem_iff_getElem.1 hx
 have e1:=h1 j hj
 have e2:=hh j hj
 generalize cs[j]=x at e2
 generalize vs j=v at e1 e2
 cases x <;> first | rfl | skip
 cases e2
 simp [Value.oneCell'] at e1
theorem Addr.add_none (b off n:Nat):(⟨b,off,none⟩:Addr).add n=⟨b,off+n,none⟩:=by
 unfold Addr.add
 split <;> simp_all
theorem cut_some {α:Type} {cs:List α} {off n:Nat} {l:List α} (h:cut cs off n=some l):off+n<=cs.length/\l.length=n /\
  ∀ (i:Nat) (hi:i<l.length) (hi':off+i<cs.length),l[i]=cs[off+i]:=by
 unfold cut at h
 split at h
 ·rename_i hle
  simp at h;subst h
  refine ⟨hle,by simp;omega,fun i hi hi' => ?_⟩
  simp
 ·simp at h
section
variable {P:Program} {T:Types} (hT:TOk P T)
include hT
theorem loadVar_ok {t:TypeId} {td:TD} (ht:T t=some td) {G:Gh} {w:World} {b o off:Nat} {cs:List AV} {vs:Nat->Value}
  (hw : ∀ j,j<cs.length->w.cell? ⟨b,o+j,none⟩=some (vs j)) (hr : ∀ (j:Nat) (hj:j<cs.length),∃ ℓ,RepV G w ℓ cs[j] (vs j)) (hc : ∀ c∈cs,c.isCell=true)
  {av:AV} (h:readAt td cs off=some av) :
  ∃ v,(loadVar t ⟨b,o+off,none⟩).run P w = .ok v w/\av.free=true /\ ∀ ℓ,RepV G w ℓ av v:=by
 unfold readAt at h
 cases hcut:cut cs off td.size with
 | none=>simp [hcut] at h
 | some l =>
   simp only [hcut] at h
   obtain ⟨h1,h2,h3⟩:=cut_some hcut
   unfold loadVar
   simp only [Sem.run_bind,hT.isAgg ht,Result.andThen_ok]
   by_cases hagg:td.isAgg=true
   ·simp only [hagg,if_true,zp3] at h
    subst h
    have hl:=run_loadCells (P:=P) w ⟨b,o+off,none⟩ td.size (fun j=>vs (off+j)) (fun j hj=>by
     rw [Addr.add_none,show o+off+j=o+(off+j) by omega];exact hw _ (by omega))
    simp only [hagg,if_true,Sem.run_bind,hT.size ht,Result.andThen_ok,hl,Sem.run_pure]
    refine ⟨_,rfl,?_⟩
    have:=fun ℓ=>mkAgg_ok (G:=G) (w:=w) (cs:=l) (vs:=((List.range td.size).map fun j=>vs (off+j)).toArray) (by simp [h2]) (fun i hi=>by
     obtain ⟨ℓ',hv⟩:=hr (off+i) (by omega)
     refine ⟨ℓ',?_⟩
     rw [h3 i hi (by omega)]
     simpa [show i<td.size by omega] using hv) (fun c hm=>by
      obtain ⟨i,hi,rfl⟩:=List.mem_iff_getElem.1 hm
      rw [h3 i hi (by omega)]
      exact hc _ (zp6 _)) ℓ
    exact ⟨(this .no).2,fun ℓ=>(this ℓ).1⟩
   ·simp only [hagg,Bool.false_eq_true,if_false] at h ⊢
    cases l with
    | nil=>simp at h
    | cons c r =>
      simp at h;subst h
      have hoff:off<cs.length:=by simp at h2;omega
      have h0:=h3 0 (by simp) hoff
      simp at h0
      refine ⟨vs off,by simp [hw off hoff],AV.copy_free _,fun ℓ => ?_⟩
      obtain ⟨ℓ',hv⟩:=hr off hoff
      rw [h0]
      exact hv.copy ℓ
theorem part_ok {t:TypeId} {td:TD} (ht:T t=some td) {G:Gh} {w:World} {off:Nat} {cs:List AV} {vs:Array Value} (hs:vs.size=cs.length)
  (hr : ∀ (j:Nat) (hj:j<cs.length),∃ ℓ,RepV G w ℓ cs[j] (vs.getD j Go.undef)) (hc : ∀ c∈cs,c.isCell=true)
  {av:AV} (h:readAt td cs off=some av) :
  ∃ v,(part t vs off).run P w = .ok v w/\av.free=true /\ ∀ ℓ,RepV G w ℓ av v:=by
 unfold readAt at h
 cases hcut:cut cs off td.size with
 | none=>simp [hcut] at h
 | some l =>
   simp only [hcut] at h
   obtain ⟨h1,h2,h3⟩:=cut_some hcut
   unfold part
   simp only [Sem.run_bind,hT.isAgg ht,Result.andThen_ok]
   by_cases hagg:td.isAgg=true
   ·simp only [hagg,if_true,zp3] at h
    subst h
    simp only [hagg,if_true,Sem.run_bind,hT.size ht,Result.andThen_ok,Sem.run_pure]
    refine ⟨_,rfl,?_⟩
    have:=fun ℓ=>mkAgg_ok (G:=G) (w:=w) (cs:=l) (vs:=vs.extract off (off+td.size)) (by simp [h2];omega) (fun i hi=>by
     obtain ⟨ℓ',hv⟩:=hr (off+i) (by omega)
     refine ⟨ℓ',?_⟩
     rw [h3 i hi (by omega)]
     rw [zp5] at hv ⊢
     rw [Array.getElem?_extract,if_pos (by omega)]
     exact hv) (fun c hm=>by
      obtain ⟨i,hi,rfl⟩:=List.mem_iff_getElem.1 hm
      rw [h3 i hi (by omega)]
      exact hc _ (zp6 _)) ℓ
    exact ⟨(this .no).2,fun ℓ=>(this ℓ).1⟩
   ·simp only [hagg,Bool.false_eq_true,if_false] at h ⊢
    cases l with
    | nil=>simp at h
    | cons c r =>
      simp at h;subst h
      have hoff:off<cs.length:=by simp at h2;omega
      have h0:=h3 0 (by simp) hoff
      simp at h0
      obtain ⟨ℓ',hv⟩:=hr off hoff
      have hget:vs[off]?=some (vs.getD off Go.undef):=by simp [zp5,show off<vs.size by omega]
      refine ⟨vs.getD off Go.undef,by rw [hget];simp,AV.copy_free _,fun ℓ => ?_⟩
      rw [h0]
      exact hv.copy ℓ
end
theorem RepV.unlim {G:Gh} {w:World} {ℓ:Loc} {c:AV} {v:Value} (h:RepV G w ℓ c v):RepV G w ℓ c.unlim v:=by
 unfold AV.unlim
 split
 ·cases h with | lim _ _ _ _ h ht =>
  refine .own _ _ _ _ h fun a n cap hv hc => ?_
  have h1:=ht _ _ _ hv
  subst hv
  generalize hv':Value.slice (some a) n cap=v at h
  cases h with
  | nil=>cases hv'
  | none0=>injection hv' with _ h2 h3;omega
  | list _ _ b off cap' vs=>injection hv' with _ h2 h3;simp at h2;omega
 ·exact h
theorem AV.unlim_isCell {c:AV} (h:c.isCell=true):c.unlim.isCell=true:=by
 unfold AV.unlim
 split
 ·rfl
 ·exact h
theorem unlim_isCell {cs:List AV} (h : ∀ c∈cs,c.isCell=true) : ∀ c∈cs.map AV.unlim,c.isCell=true:=by
 intro c hc
 obtain ⟨c',h1,rfl⟩:=List.mem_map.1 hc
 exact AV.unlim_isCell (h _ h1)
theorem unlim_len (cs:List AV):(cs.map AV.unlim).length=cs.length:=List.length_map ..
end Go.Am
