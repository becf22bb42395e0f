import Derived.WalkKit
import Derived.RangeFuncIn
import Derived.OrdersIn
namespace Go.Am
theorem zp1 {α:Type _} {l:List α} {i:Nat} (h:i<l.length):l[i]?=some l[i]:=List.getElem?_eq_getElem h
theorem zp2 {α:Type _} {i:Nat} {a:α} {l:List α}:l[i]?=some a↔∃h:i<l.length,l[i]=a:=List.getElem?_eq_some_iff
theorem zp3 {α:Type _} (a b:α):(some a=some b)=(a=b):=Option.some.injEq a b
theorem zp4 (a b:Bool):((a&&b)=true)=(a=true/\b=true):=Bool.and_eq_true a b
theorem zp5 {α:Type _} {xs:Array α} {i:Nat} {d:α}:xs.getD i d=xs[i]?.getD d:=Array.getD_eq_getD_getElem?
theorem zp6 {α:Type _} {l:List α} {n:Nat} (h:n<l.length):l[n]∈l:=List.getElem_mem h
theorem zp7 {α:Type _} {l₁ l₂:List α} {i:Nat} (h:i<l₁.length):(l₁++l₂)[i]?=l₁[i]?:=List.getElem?_append_left h
theorem zp8 {α:Type _} {l₁ l₂:List α} {i:Nat} (h:l₁.length<=i):(l₁++l₂)[i]?=l₂[i-l₁.length]?:=List.getElem?_append_right h
theorem zp9 {a:Int} (h:0<=a):∃n:Nat,a=n:=Int.eq_ofNat_of_zero_le h
inductive D where
 | bool (b:Bool)
 | int (k:IntKind) (n:Int)
 | str (s:ByteArray)
 | list (k:Nat) (l:List D)
 | agg (l:List D)
 | iface (z:Int)
 | ref (cs:List D)
def D.cells:D->List D
 | .agg l=>l
 | x=>[x]
def D.flat (l:List D):List D:=l.flatMap D.cells
inductive AV where
 | undef
 | abool
 | d (x:D)
 | ptr (a off:Nat)
 | nilptr
 | iptr (cs:List D)
 | lbox (cs:List AV)
 | place (r off:Nat)
 | own (k:Nat) (l:List D)
 | lim (k:Nat) (l:List D)
 | tail (k:Nat) (l:List D)
 | func (f:FuncId) (first caps:List AV)
 | nilfunc
 | yield (l:Nat)
 | map (a:Nat)
 | nilmap
 | mref (a k:Nat) (lo n:Int)
 | mcap (a k:Nat) (lo n c:Int)
 | gref (a k:Nat)
 | fresh (k:Nat) (l:List D)
 | junk
 | eptr (a k:Nat) (i:Int) (j:Nat)
 | vptr (a k:Nat) (i:Int) (j m:Nat) (z:Int)
 | agg (cs:List AV)
 | tuple (vs:List AV)
def AV.copy:AV->AV
 | .own k l => .d (.list k l)
 | .lim k l => .d (.list k l)
 | .tail k l => .d (.list k l)
 | .lbox _ => .undef
 | .place .. => .undef
 | .fresh .. => .junk
 | x=>x
def AV.isUndef:AV->Bool
 | .undef=>true
 | _=>false
def AV.isBox:AV->Bool
 | .lbox _=>true
 | _=>false
def AV.isAggr:AV->Bool
 | .d (.agg _) | .agg _=>true
 | _=>false
def AV.isCell:AV->Bool
 | .d (.agg _) | .agg _ | .tuple _ | .lbox _ | .undef | .place _ _=>false
 | _=>true
def a0N:List AV->Option (List D)
 | []=>some []
 | .d x::r=>(a0N r).map (x :: ·)
 | .own k l::r=>(a0N r).map (.list k l :: ·)
 | .lim k l::r=>(a0N r).map (.list k l :: ·)
 | .tail k l::r=>(a0N r).map (.list k l :: ·)
 | _=>none
def a5w (cs:List AV):AV :=
 match a0N cs with
 | some ds => .d (.agg ds)
 | none => .agg (cs.map AV.copy)
def AV.nilLim:AV->AV
 | .own k [] => .lim k []
 | c=>c.copy
def b7P (cs:List AV):AV := .agg (cs.map AV.nilLim)
def AV.unlim:AV->AV
 | .lim k [] => .own k []
 | c=>c
def AV.cells:AV->List AV
 | .d (.agg l)=>l.map .d
 | .agg l=>l
 | x=>[x]
inductive CK where
 | int (k:IntKind)
 | bool
 | str
 deriving DecidableEq
structure ALoop where
 st:LoopState
 pending:Option Code
 env:List (Nat×AV)
 n:Nat
 params:Array Tmp
 assign:Code
 body:Code
inductive Obj where
 | cells (cs:List AV)
 | arr (k:Nat) (l:List D)
 | map (agg:Bool) (ks:List CK) (es:List (D×D))
 | loop (L:ALoop)
 | gro (k:Nat) (l:List D)
 | jag (k:Nat) (l:List D) (o:Option (Int×AV))
 | dead
inductive TU where
 | slice (e:TypeId)
 | array (n:Nat) (e:TypeId)
 | struct (fs:List (TypeId×Nat))
 | map (k e:TypeId)
 | int (k:IntKind)
 | bool
 | string
 | pointer
 | iface
 | meth (ms:List (String×FuncId))
 | other
structure TD where
 size:Nat
 u:TU
 zero:List AV
def TD.isAgg (t:TD):Bool :=
 match t.u with
 | .array .. | .struct _ | .meth _=>true
 | _=>false
abbrev a0i:=TypeId->Option TD
def CK.fits:CK->D->Bool
 | .int k,.int k' _=>decide (k=k')
 | .bool,.bool _=>true
 | .str,.str _=>true
 | _,_=>false
def a1i:List CK->List D->Bool
 | [],[]=>true
 | k::ks,x::xs=>k.fits x&&a1i ks xs
 | _,_=>false
def b5f (f:TypeId->Option (List CK)):Nat->List (TypeId×Nat)->Option (List CK)
 | _,[]=>some []
 | o,(t,off)::r =>
   if off=o then
    match f t with
    | some ks=>match b5f f (o+ks.length) r with
      | some ks'=>some (ks++ks')
      | none=>none
    | none=>none
   else none
def ksU (f:TypeId->Option (List CK)):TU->Option (List CK)
 | .int k=>some [.int k]
 | .bool=>some [.bool]
 | .string=>some [.str]
 | .array m e=>match f e with
   | some ks=>some (List.replicate m ks).flatten
   | none=>none
 | .struct fs=>b5f f 0 fs
 | _=>none
def a6o (T:a0i):Nat->TypeId->Option (List CK)
 | 0,_=>none
 | n+1,t =>
   match T t with
   | some td =>
     match ksU (a6o T n) td.u with
     | some ks=>if ks.length=td.size then some ks else none
     | none=>none
   | none=>none
structure St where
 env:List (Nat×AV)
 heap:List Obj
 n:Nat
def a1V:List (Nat×AV)->Nat->AV
 | [],_ => .undef
 | (s,v)::r,t=>if s=t then v else a1V r t
def a2A:List (Nat×AV)->Nat->AV->List (Nat×AV)
 | [],t,v=>[(t,v)]
 | (s,u)::r,t,v=>if s=t then (s,v)::r else (s,u)::a2A r t v
def St.get (σ:St) (t:Nat):AV:=a1V σ.env t
theorem a0d (e:List (Nat×AV)) (t s:Nat) (v:AV):a1V (a2A e t v) s=if t=s then v else a1V e s:=by
 induction e with
 | nil=>simp [a2A,a1V]
 | cons p r ih =>
   obtain ⟨q,u⟩:=p;simp only [a2A];split
   ·subst q;simp only [a1V];split <;> simp_all
   rename_i hq;simp only [a1V,ih];by_cases h1:q=s
   ·subst h1;have h2 : ¬ t=q:=fun h=>hq h.symm;simp [h2]
   simp [h1]
theorem a5x (e:List (Nat×AV)) (t:Nat) (v w:AV):a2A (a2A e t v) t w=a2A e t w:=by
 induction e with
 | nil=>simp [a2A]
 | cons p r ih =>
   obtain ⟨q,u⟩:=p;simp only [a2A];split
   ·rename_i h;subst h;simp [a2A]
   rename_i h;simp [a2A,h,ih]
structure Ann where
 esc:List Nat:=[]
 tk:List Nat:=[]
 arr:List Nat:=[]
 nl:List Nat:=[]
 th:List Nat:=[]
 gr:List Nat:=[]
 vx:List Nat:=[]
 jg:List Nat:=[]
def mkL (an:Ann) (dst:Option Tmp) (k:Nat) (l:List D):AV :=
 match dst,l with
 | some d,[]=>if an.nl.contains d then .lim k [] else .own k []
 | _,l => .own k l
def mkB (an:Ann) (dst:Option Tmp):List AV->AV :=
 match dst with
 | some d=>if an.nl.contains d then b7P else a5w
 | none=>a5w
structure Upd where
 sets:List (Nat×AV)
 heap:Option (List Obj)
 rd:List Nat
 hr:Bool
 ho:List Nat
def a0r (e:List (Nat×AV)) (l:List (Nat×AV)):List (Nat×AV):=l.foldl (fun e p=>a2A e p.1 p.2) e
def St.app (σ:St) (u:Upd):St:={ σ with env:=a0r σ.env u.sets,heap:=u.heap.getD σ.heap }
def D.isOne:D->Bool
 | .agg _=>false
 | _=>true
def a0h (T:a0i) (t:TypeId):Option Nat :=
 match T t with
 | some { u := .slice e,.. }=>(T e).map (·.size)
 | _=>none
def b2I:List (String×FuncId)->String->Option FuncId
 | [],_=>none
 | (s,f)::r,n=>if s=n then some f else b2I r n
def b2J:Value->Option D
 | .bool b=>some (.bool b)
 | .int k n=>some (.int k n)
 | .string s=>some (.str s)
 | .nilIface=>some (.iface (-1))
 | _=>none
def a5y:List Value->Option (List D)
 | []=>some []
 | v::r =>
   match b2J v,a5y r with
   | some d,some l=>some (d::l)
   | _,_=>none
def a9j (T:a0i) (t:TypeId):Value->Option AV
 | .bool b=>some (.d (.bool b))
 | .int k n=>some (.d (.int k n))
 | .string s=>some (.d (.str s))
 | .slice none 0 0=>(a0h T t).map fun k => .own k []
 | .pointer none=>some .nilptr
 | .map none=>some .nilmap
 | .nilFunc=>some .nilfunc
 | .nilIface=>some (.d (.iface (-1)))
 | .agg vs=>(a5y vs.toList).map fun l => .d (.agg l)
 | _=>none
def opv (T:a0i) (g:Nat->AV) (t:TypeId):Operand->Option AV
 | .tmp i=>some (g i).copy
 | .const v=>a9j T t v
 | .func f=>some (.func f [] [])
 | .global _=>none
def a3Z:Operand->List Nat
 | .tmp i=>[i]
 | _=>[]
def cut {α:Type} (cs:List α) (off n:Nat):Option (List α):=if off+n<=cs.length then some ((cs.drop off).take n) else none
def a0O (td:TD) (cs:List AV) (off:Nat):Option AV :=
 match cut cs off td.size with
 | some l=>if td.isAgg then some (a5w l) else l.head?.map AV.copy
 | none=>none
def a0Q (cs:List AV) (off:Nat) (vs:List AV):List AV:=cs.take off++vs++cs.drop (off+vs.length)
inductive Adr where
 | slot (r off:Nat) (cs:List AV)
 | obj (a off:Nat)
 | cells (cs:List D)
def adr (g:Nat->AV):Operand->Option Adr
 | .tmp i =>
   match g i with
   | .lbox cs=>some (.slot i 0 cs)
   | .place r off=>match g r with
     | .lbox cs=>some (.slot r off cs)
     | _=>none
   | .ptr a off=>some (.obj a off)
   | .iptr cs=>some (.cells cs)
   | .d (.ref cs)=>some (.cells cs)
   | _=>none
 | _=>none
def Adr.up (n:Nat):Adr->AV
 | .slot r off _ => .place r (off+n)
 | .obj a off => .ptr a (off+n)
 | .cells cs => .iptr (cs.drop n)
def a2B (T:a0i) (g:Nat->AV) (t:TypeId) (x:Operand):Option (Nat×List D) :=
 match opv T g t x with
 | some (.d (.list k l)) | some (.own k l)=>some (k,l)
 | _=>none
open Classical in
noncomputable def mget:List (D×D)->D->Option D
 | [],_=>none
 | p::r,k=>if p.1=k then some p.2 else mget r k
open Classical in
noncomputable def mput:List (D×D)->D->D->List (D×D)
 | [],k,v=>[(k,v)]
 | p::r,k,v=>if p.1=k then (k,v)::r else p::mput r k v
open Classical in
noncomputable def midx:List (D×D)->D->Nat
 | [],_=>0
 | p::r,k=>if p.1=k then 0 else midx r k+1
def a0F (agg:Bool) (ks:List CK) (d:D):Bool :=
 a1i ks d.cells&&(match d with | .agg _=>agg | _ => !agg)
structure Ar where
 zle:Int->Int->Bool
 zlt:Int->Int->Bool
 zeq:Int->Int->Bool
 wrp:IntKind->Int->Int
 zadd:Int->Int->Int
 zsub:Int->Int->Int
 zmul:Int->Int->Int
 nat:Int->Nat
 len:List D->Int
 lget:List D->Nat->Option D
 fits:Int->Bool
 sub:List D->Int->Int->List D
 app:List D->List D->List D
 quo:IntKind->Int->Int->Int
 rem:Int->Int->Int
 shl:IntKind->Int->Int->Int
 shr:IntKind->Int->Int->Int
 bits:BinOp->IntKind->Int->Int->Int
 deq:List D->List D->Bool
 beq:Bool->Bool->Bool
 zmin:Int->Int->Int
 zmax:Int->Int->Int
 mget:List (D×D)->D->Option D
 mput:List (D×D)->D->D->List (D×D)
 midx:List (D×D)->D->Int
 mhas:List (D×D)->Int->Bool
 mset:List (D×D)->Int->D->List (D×D)
 lset:List D->Nat->D->List D
 fill:List D->Int->Int->D->List D
 rep:Int->D->List D
 spl:List D->Int->List D->List D
 ones:List D->Bool
 conf:List CK->List D->Bool
 flat:List D->List D
def a2I (op:BinOp) (k:IntKind) (x y:Int):Int :=
 let a:=BitVec.ofInt k.bits x;let b:=BitVec.ofInt k.bits y
 match op with
 | .and=>k.wrap (a &&& b).toNat
 | .or=>k.wrap (a ||| b).toNat
 | .xor=>k.wrap (a ^^^ b).toNat
 | _=>k.wrap (a &&& ~~~b).toNat
def a1p (l:List D) (lo n:Int) (x:D):List D:=l.take lo.toNat++List.replicate n.toNat x++l.drop (lo.toNat+n.toNat)
open Classical in
noncomputable def Ar.std:Ar where
 zle x y:=decide (x<=y)
 zlt x y:=decide (x<y)
 zeq x y:=decide (x=y)
 wrp k x:=k.wrap x
 zadd x y:=x+y
 zsub x y:=x-y
 zmul x y:=x*y
 nat x:=x.toNat
 len l:=(l.length:Int)
 lget l i:=l[i]?
 fits n:=decide (n<4294967296)
 sub l lo hi:=(l.drop lo.toNat).take (hi.toNat-lo.toNat)
 app l m:=l++m
 quo k x y:=k.wrap (x.tdiv y)
 rem x y:=x.tmod y
 shl k x y:=k.wrap (x*2 ^ (min y.toNat k.bits))
 shr k x y:=x.fdiv (2 ^ (min y.toNat k.bits))
 bits:=a2I
 deq a b:=decide (a=b)
 beq a b:=a == b
 zmin x y:=if y<x then y else x
 zmax x y:=if y>x then y else x
 mget:=Am.mget
 mput:=Am.mput
 midx es k:=(Am.midx es k:Int)
 mhas es z:=decide (0<=z/\z<es.length)
 mset es z v:=es.modify z.toNat fun p=>(p.1,v)
 lset l i x:=l.set i x
 fill:=a1p
 rep n x:=List.replicate n.toNat x
 spl l p m:=l.take p.toNat++m++l.drop (p.toNat+m.length)
 ones l:=l.all D.isOne
 conf:=a1i
 flat:=D.flat
def a4a (A:Ar) (td:TD) (agg:Bool) (ks:List CK) (d:D):Bool :=
 match d with
 | .agg cs=>if td.size<=16 then a0F agg ks (.agg cs) else agg&&A.conf ks cs
 | d=>a0F agg ks d
theorem a3p (td:TD) (agg:Bool) (ks:List CK) (d:D):a4a Ar.std td agg ks d=a0F agg ks d:=by
 unfold a4a;split
 ·split
  ·rfl
  simp [a0F,Ar.std,D.cells,Bool.and_comm]
 rfl
def a8b (A:Ar) (op:BinOp) (k:IntKind) (x y:Int):Option D :=
 match op with
 | .add=>some (.int k (A.wrp k (A.zadd x y)))
 | .sub=>some (.int k (A.wrp k (A.zsub x y)))
 | .mul=>some (.int k (A.wrp k (A.zmul x y)))
 | .eql=>some (.bool (A.zeq x y))
 | .neq=>some (.bool (!A.zeq x y))
 | .lss=>some (.bool (A.zlt x y))
 | .leq=>some (.bool (A.zle x y))
 | .gtr=>some (.bool (A.zlt y x))
 | .geq=>some (.bool (A.zle y x))
 | .quo=>if A.zeq y 0 then none else some (.int k (A.quo k x y))
 | .rem=>if A.zeq y 0 then none else some (.int k (A.rem x y))
 | .and | .or | .xor | .andNot=>some (.int k (A.bits op k x y))
 | _=>none
def a9k (A:Ar) (op:BinOp) (k:IntKind) (x y:Int):Option D :=
 if A.zlt y 0 then none else
 match op with
 | .shl=>some (.int k (A.shl k x y))
 | .shr=>some (.int k (A.shr k x y))
 | _=>none
abbrev zz0:List D:=(.int .u8 0)::(.int .u8 0)::(.int .u8 0)::(.int .i8 0)::(.int .i8 0)::(.int .i8 0)::(.int .i8 0)::(.int .i8 0)::(.int .i8 0)::(.int .i8 0)::(.int .i8 0)::(.int .i8 0)::(.int .i8 0)::(.int .i8 0)::(.int .i8 0)::(.int .i8 0)::(.int .i8 0)::(.int .i8 0)::(.int .i8 0)::(.int .i8 0)::(.int .i8 0)::(.int .i8 0)::(.int .i8 0)::(.int .i8 0)::(.int .i8 0)::(.int .i8 0)::(.int .i8 0)::(.int .i8 0)::(.int .i8 0)::(.int .i8 0)::(.int .i8 0)::(.int .i8 0)::(.int .i8 0)::(.int .i8 0)::(.int .i8 0)::(.int .i8 0)::(.int .i8 0)::(.int .i8 0)::(.int .i64 0)::(.int .i64 0)::(.int .i64 0)::[]
abbrev zz1:List CK:=.int .u8 :: .int .u8 :: .int .u8 :: .int .i8 :: .int .i8 :: .int .i8 :: .int .i8 :: .int .i8 :: .int .i8 :: .int .i8 :: .int .i8 :: .int .i8 :: .int .i8 :: .int .i8 :: .int .i8 :: .int .i8 :: .int .i8 :: .int .i8 :: .int .i8 :: .int .i8 :: .int .i8 :: .int .i8 :: .int .i8 :: .int .i8 :: .int .i8 :: .int .i8 :: .int .i8 :: .int .i8 :: .int .i8 :: .int .i8 :: .int .i8 :: .int .i8 :: .int .i8 :: .int .i8 :: .int .i8 :: .int .i8 :: .int .i8 :: .int .i8 :: .int .i64 :: .int .i64 :: .int .i64::[]
end Go.Am
namespace Go.Am
abbrev a1C:=List (Nat×AV)
abbrev Res:=Option (a1C×Option (List Obj))
def put (n:Nat) (g:Nat->AV) (dst:Option Tmp) (v:AV):Res :=
 match dst with
 | some d=>if decide (d<n) && !(g d).isBox then some ([(d,v)],none) else none
 | none=>some ([],none)
def a5i (n:Nat) (g:Nat->AV) (dst:Option Tmp) (v:Option AV):Res :=
 match v with
 | some v=>put n g dst v
 | none=>none
def b0h (t:Bool):AV->AV->AV
 | .d (.bool x),.d (.bool y) => .d (.bool (bif t then x else y))
 | a,b=>bif t then a else b
def a4v (T:a0i) (t:TypeId) (f:Nat):Option (TypeId×Nat×Nat) :=
 match T t with
 | some { u := .struct fs,.. } =>
   match fs[f]? with
   | some (ft,off)=>(T ft).map fun td=>(ft,off,td.size)
   | none=>none
 | _=>none
def partOf (T:a0i) (t:TypeId) (i:Nat):Option (TypeId×Nat×Nat) :=
 match T t with
 | some { u := .struct fs,.. } =>
   match fs[i]? with
   | some (ft,off)=>(T ft).map fun td=>(ft,off,td.size)
   | none=>none
 | some { u := .array m e,.. }=>if i<m then (T e).map fun td=>(e,i*td.size,td.size) else none
 | _=>none
def a4w (T:a0i):TU->Bool
 | .struct fs=>fs.all fun p=>(T p.1).isSome
 | .array _ e=>(T e).isSome
 | .meth _=>true
 | _=>false
def a8c (T:a0i) (g:Nat->AV) (t:TypeId):List (Nat×Operand)->List AV->Option (List AV)
 | [],cs=>some cs
 | (i,x)::r,cs =>
   match partOf T t i with
   | some (ft,off,sz) =>
     match opv T g ft x with
     | some v=>if v.cells.length=sz/\off+sz<=cs.length/\v.cells.all AV.isCell then a8c T g t r (a0Q cs off v.cells) else none
     | none=>none
   | none=>none
def b7Q (A:Ar) (y:D) (sz:Nat):Bool :=
 if sz<=16 then decide (y.cells.length=sz) else match y with
  | .agg cs=>A.zeq (A.len cs) (Int.ofNat sz)
  | _=>false
theorem b2K {y:D} {sz:Nat} (h:b7Q Ar.std y sz=true):y.cells.length=sz:=by
 unfold b7Q at h;split at h
 ·simpa using h
 split at h
 ·simp [Ar.std] at h;simp only [D.cells];omega
 cases h
def a3q (A:Ar) (T:a0i) (g:Nat->AV) (e:TypeId) (sz:Nat):List (Nat×Operand)->Nat->Option (List D)
 | [],_=>some []
 | (j,x)::r,i =>
   match opv T g e x with
   | some v =>
     match a0N [v],a3q A T g e sz r (i+1) with
     | some [y],some l=>if j=i/\b7Q A y sz=true then some (y::l) else none
     | _,_=>none
   | none=>none
def a1L:Obj->Option (List AV)
 | .cells cs=>some cs
 | .arr _ l=>some ((D.flat l).map .d)
 | _=>none
def D.upd (x:D) (off:Nat) (vs:List D):D :=
 match x with
 | .agg cs => .agg (cs.take off++vs++cs.drop (off+vs.length))
 | x=>match vs with
   | [v]=>v
   | _=>x
def a2C (o:Obj) (off:Nat) (vs:List AV):Option Obj :=
 match o with
 | .cells cs=>if off+vs.length<=cs.length then some (.cells (a0Q cs off vs)) else none
 | _=>none
def taken (T:a0i) (an:Ann) (g:Nat->AV) (t:TypeId) (x:Operand):Option (AV×a1C) :=
 match x with
 | .tmp s =>
   if an.tk.contains s then
    match g s with
    | .own k l=>some (.own k l,[(s,.d (.list k l))])
    | v=>some (v.copy,[])
   else some ((g s).copy,[])
 | x=>(opv T g t x).map (·,[])
def bound (g:Nat->AV) (T:a0i) (d:Int):Option Operand->Option Int
 | none=>some d
 | some x =>
   match opv T g 0 x with
   | some (.d (.int _ n))=>some n
   | _=>none
def b6O:List D->Bool
 | []=>false
 | _::_=>true
def a9l (A:Ar) (i:Operand) (z:Int):Bool :=
 match i with
 | .const _=>decide (0<=z)
 | _=>A.zle 0 z
def b2L (A:Ar) (i:Operand) (z m:Int):Bool :=
 match i with
 | .const _=>decide (z<m)
 | _=>A.zlt z m
def a8d (A:Ar) (i:Operand) (z:Int):Nat :=
 match i with
 | .const _=>z.toNat
 | _=>A.nat z
theorem a3r (i:Operand) (z:Int):a9l Ar.std i z=decide (0<=z):=by cases i <;> rfl
theorem a4b (i:Operand) (z m:Int):b2L Ar.std i z m=decide (z<m):=by cases i <;> rfl
def blk {α:Type} (n:Nat) (f:Nat->α):α :=
 match n with
 | 0=>f 0
 | n+1=>f (n+1)
theorem b0i {α:Type} (n:Nat) (f:Nat->α):blk n f=f n:=by cases n <;> rfl
theorem a4x (i:Operand) (z:Int):a8d Ar.std i z=z.toNat:=by cases i <;> rfl
def a0P (an:Ann) (g:Nat->AV) (o:Oper):Bool :=
 (match o.op with
  | .alloc _ | .box .. => match o.dst with | some d=>an.esc.contains d||an.arr.contains d | none=>false
  | .makeMap .. | .makeSlice .. => true
  | .buildSlice .. => match o.dst with | some d=>an.gr.contains d||an.jg.contains d | none=>false
  | .load _ x | .store _ x _ | .indexAddr _ x _ | .slice _ x _ _ _ | .lookup _ x _ _ | .mapUpdate _ x _ _ | .insert _ x _ _ | .mapEntry _ x _ | .entryStore _ x _ _ =>
    match x with
    | .tmp i=>match g i with | .ptr .. | .map _ | .mref .. | .eptr .. | .gref .. | .vptr .. => true | _=>false
    | _=>false
  | .call { callee := .builtin b,args,.. }=>(args.toList.any fun
    | .tmp i=>match g i with | .map _ | .mref .. | .mcap .. | .gref .. => true | _=>false
    | _=>false)||(match b,o.dst with | .append,some d=>an.th.contains d | _,_=>false)
  | _=>false)
def a0E (A:Ar) (T:a0i) (an:Ann) (n:Nat) (g:Nat->AV) (H:List Obj) (o:Oper):Res :=
 match o.op with
 | .move x | .assign x =>
   match taken T an g o.type x,o.dst with
   | some (v,ss),some d=>if decide (d<n) && !(g d).isBox && !(a3Z x).contains d then some (ss++[(d,v)],none) else none
   | _,_=>none
 | .pick c a b =>
   match opv T g o.type c,opv T g o.type a,opv T g o.type b with
   | some (.d (.bool t)),some x,some y=>put n g o.dst (b0h t x.copy y.copy)
   | _,_,_=>none
 | .alloc t =>
   match T t,o.dst with
   | some td,some d =>
     if decide (d<n)&&(g d).isUndef then
      if an.esc.contains d then some ([(d,.ptr H.length 0)],some (H++[.cells td.zero]))
      else some ([(d,.lbox td.zero)],none)
     else none
   | _,_=>none
 | .box t x =>
   match T t,opv T g t x,o.dst with
   | some td,some v,some d =>
     if decide (d<n)&&(g d).isUndef&&decide (v.cells.length=td.size)&&v.cells.all AV.isCell then
      if an.esc.contains d then some ([(d,.ptr H.length 0)],some (H++[.cells (v.cells.map AV.unlim)]))
      else some ([(d,.lbox (v.cells.map AV.unlim))],none)
     else none
   | _,_,_=>none
 | .build t parts =>
   match T t with
   | some td=>if td.isAgg&&a4w T td.u then a5i n g o.dst ((a8c T g t parts.toList td.zero).map (mkB an o.dst)) else none
   | none=>none
 | .buildSlice t cnt parts =>
   match T t with
   | some { u := .slice e,.. } =>
     match T e with
     | some td =>
       if decide (parts.size=cnt)&&decide (0<td.size)&&decide (cnt*td.size<=4096)&&o.dst.isSome then
        match a3q A T g e td.size parts.toList 0 with
        | some l=>put n g o.dst (mkL an o.dst td.size l)
        | none=>none
       else none
     | none=>none
   | _=>none
 | .load t x =>
   match T t,adr g x with
   | some td,some (.slot r off cs) =>
     match o.dst,cs[off]? with
     | some d,some (.own k l) =>
       if an.tk.contains d && !td.isAgg then (put n g o.dst (.own k l)).map fun p=>([(r,.lbox (cs.set off (.d (.list k l))))]++p.1,p.2)
       else a5i n g o.dst (a0O td cs off)
     | _,_=>a5i n g o.dst (a0O td cs off)
   | some td,some (.obj a off) =>
     match H[a]? with
     | some (.cells cs) =>
       match o.dst,cs[off]? with
       | some d,some (.own k l) =>
         if an.tk.contains d && !td.isAgg then (put n g o.dst (.own k l)).map fun p=>(p.1,some (H.set a (.cells (cs.set off (.d (.list k l))))))
         else a5i n g o.dst (a0O td cs off)
       | _,_=>a5i n g o.dst (a0O td cs off)
     | some ob=>a5i n g o.dst ((a1L ob).bind (a0O td · off))
     | none=>none
   | some td,some (.cells cs)=>a5i n g o.dst (a0O td (cs.map .d) 0)
   | _,_=>none
 | .store t x y =>
   match T t,adr g x,taken T an g t y with
   | some td,some (.slot r off cs),some (v,ss) =>
     if v.cells.length=td.size/\off+td.size<=cs.length/\v.cells.all AV.isCell/\o.dst=none then some (ss++[(r,.lbox (a0Q cs off (v.cells.map AV.unlim)))],none) else none
   | some td,some (.obj a off),some (v,ss) =>
     match H[a]? with
     | some ob =>
       if v.cells.length=td.size/\v.cells.all AV.isCell/\o.dst=none then (a2C ob off (v.cells.map AV.unlim)).map fun ob'=>(ss,some (H.set a ob')) else none
     | none=>none
   | _,_,_=>none
 | .fieldAddr t x f =>
   match a4v T t f,adr g x with
   | some (_,off,sz),some a=>if sz=0 then none else put n g o.dst (a.up off)
   | _,_=>none
 | .indexAddr t x i =>
   match T t,opv T g 0 i with
   | some { u := .array m e,.. },some (.d (.int _ z)) =>
     match T e,adr g x with
     | some td,some a=>if a9l A i z&&b2L A i z m then blk (a8d A i z) (fun j=>put n g o.dst (a.up (j*td.size))) else none
     | _,_=>none
   | some { u := .slice e,.. },some (.d (.int _ z)) =>
     match T e with
     | some td =>
       match (match x with | .tmp i=>g i | _ => .undef) with
       | .d (.list k l) | .own k l =>
         if a9l A i z&&decide (k=td.size) then
          match A.lget l (a8d A i z) with
          | some y=>put n g o.dst (.iptr y.cells)
          | none=>none
         else none
       | _=>none
     | none=>none
   | _,_=>none
 | .field t x f =>
   match a4v T t f with
   | some (ft,off,_) =>
     match T ft,opv T g t x with
     | some td,some v=>if v.isAggr then a5i n g o.dst (a0O td v.cells off) else none
     | _,_=>none
   | none=>none
 | .binOp op _ x y _ =>
   match opv T g 0 x,opv T g 0 y with
   | some (.d (.int k a)),some (.d (.int k' b)) =>
     match op with
     | .shl | .shr=>a5i n g o.dst ((a9k A op k a b).map .d)
     | op=>if k=k' then a5i n g o.dst ((a8b A op k a b).map .d) else none
   | _,_=>none
 | .unOp .not _ x =>
   match opv T g 0 x with
   | some (.d (.bool b))=>put n g o.dst (.d (.bool !b))
   | _=>none
 | .convert src dst x =>
   match T src,T dst,opv T g 0 x with
   | some _,some { u := .int k,.. },some (.d (.int _ z))=>put n g o.dst (.d (.int k (A.wrp k z)))
   | _,_,_=>none
 | .extract x i =>
   match opv T g 0 x with
   | some (.tuple vs)=>a5i n g o.dst (vs[i]?.map AV.copy)
   | _=>none
 | .makeFunc (.func f) first caps =>
   match first.toList.mapM (opv T g 0),caps.toList.mapM (opv T g 0) with
   | some a,some b=>put n g o.dst (.func f (a.map AV.copy) (b.map AV.copy))
   | _,_=>none
 | .slice t x lo hi mx =>
   match a0h T t with
   | some es =>
     match a2B T g t x with
     | some (k,l) =>
       if k≠es then none else
       match bound g T (A.len l) hi,bound g T 0 lo with
       | some h,some lw =>
         if A.zle 0 lw&&A.zle lw h&&A.zle h (A.len l)&&(mx.isNone||hi.isSome) then
          match mx with
          | none=>put n g o.dst (.d (.list k (A.sub l lw h)))
          | some m =>
            match bound g T 0 (some m) with
            | some m=>if A.zeq m h then put n g o.dst (.lim k (A.sub l lw h)) else none
            | none=>none
         else none
       | _,_=>none
     | none=>none
   | none =>
     match T t,adr g x,lo,hi,mx with
     | some { u := .array m e,.. },some (.cells cs),none,none,none =>
       match T e with
       | some td=>if td.size=1/\m<=cs.length/\(cs.take m).all D.isOne=true then put n g o.dst (.d (.list 1 (cs.take m))) else none
       | none=>none
     | _,_,_,_,_=>none
 | .call { callee := .builtin .len,args,argTypes } =>
   match args.toList,argTypes.toList with
   | [x],[t] =>
     match T t with
     | some { u := .slice _,.. } =>
       match a2B T g t x with
       | some (_,l)=>put n g o.dst (.d (.int .i64 (A.len l)))
       | none=>none
     | _=>none
   | _,_=>none
 | .call { callee := .builtin .append,args,argTypes } =>
   match args.toList,argTypes.toList with
   | [x,y],[t,u] =>
     match a0h T t,a0h T u,a2B T g u y,x,o.dst with
     | some k,some k1,some (k2,ys),.tmp s,some d =>
       match g s with
       | .own k' l=>if decide (k'=k)&&decide (k1=k)&&decide (k2=k)&&decide (0<k)&&decide (d<n) && !(g d).isBox&&decide (s≠d)&&A.fits (A.zadd (A.len l) (A.len ys)) then some ([(s,.d (.list k l)),(d,.own k (A.app l ys))],none) else none
       | .lim k' l=>if b6O ys&&decide (k'=k)&&decide (k1=k)&&decide (k2=k)&&decide (0<k)&&decide (d<n) && !(g d).isBox&&decide (s≠d)&&A.fits (A.zadd (A.len l) (A.len ys)) then some ([(s,.d (.list k l)),(d,.own k (A.app l ys))],none) else none
       | _=>none
     | _,_,_,_,_=>none
   | _,_=>none
 | _=>none
def a1M (g:Nat->AV):Operand->AV
 | .tmp i=>g i
 | _ => .undef
def a6p (td:TD):Option D :=
 if td.isAgg then (a0N td.zero).map .agg else match a0N td.zero with
  | some [x]=>some x
  | _=>none
def opD (T:a0i) (g:Nat->AV) (t:TypeId) (x:Operand):Option D :=
 match opv T g t x with
 | some (.d y)=>some y
 | _=>none
def eqD (A:Ar):D->D->Option Bool
 | .bool x,.bool y=>some (A.beq x y)
 | .agg a,.agg b=>some (A.deq a b)
 | _,_=>none
def b6P (A:Ar) (T:a0i) (n:Nat) (g:Nat->AV) (dst:Option Tmp) (t:TypeId) (a b:D) (neg:Bool):Res :=
 match T t,a6o T 8 t,eqD A a b with
 | some td,some ks,some r=>if a0F td.isAgg ks a&&a0F td.isAgg ks b then put n g dst (.d (.bool (bif neg then !r else r))) else none
 | _,_,_=>none
def a5d (g:Nat->AV) (H:List Obj) (x:Operand):AV :=
 match a1M g x with
 | .ptr a off=>match H[a]? with
   | some (.arr 1 _) => .eptr a 1 0 off
   | _ => .ptr a off
 | v=>v
def eI (A:Ar) (k:Nat) (i:Int) (j:Nat):Int:=bif decide (k=1)&&decide (j≠0) then A.zadd i j else i
def eJ (k j:Nat):Nat:=bif decide (k=1) then 0 else j
def c5l (A:Ar) (x:Operand) (a:Nat) (i0:Int) (j0:Nat) (z:Int) (sz:Nat):AV :=
 match x with
 | .const _ => .eptr a 1 i0 (j0+z.toNat*sz)
 | _ => .eptr a 1 (A.zadd i0 (A.zmul z sz)) j0
def a0L (A:Ar) (T:a0i) (n:Nat) (g:Nat->AV) (H:List Obj) (o:Oper):Option Res :=
 match o.op with
 | .indexAddr t x i =>
   match a5d g H x with
   | .mref a k lo ln=>some <|
     match T t,opv T g 0 i with
     | some { u := .slice e,.. },some (.d (.int _ z)) =>
       match T e with
       | some td=>if A.zle 0 z&&A.zlt z ln&&decide (k=td.size) then put n g o.dst (.eptr a k (A.zadd lo z) 0) else none
       | none=>none
     | _,_=>none
   | .eptr a k i0 j0=>some <|
     match T t,opv T g 0 i with
     | some { u := .array m e,.. },some (.d (.int _ z)) =>
       match T e with
       | some td=>if a9l A i z&&b2L A i z m&&decide (k=1) then put n g o.dst (c5l A i a i0 j0 z td.size) else none
       | none=>none
     | _,_=>none
   | _=>none
 | .fieldAddr t x f =>
   match a1M g x with
   | .eptr a k i j=>some <|
     match a4v T t f with
     | some (_,off,sz)=>if sz=0 then none else put n g o.dst (.eptr a k i (j+off))
     | none=>none
   | _=>none
 | .load t x =>
   match a5d g H x with
   | .eptr a k i j=>some <|
     match T t,H[a]? with
     | some td,some (.arr k' l) =>
       if k'=k then
        if decide (k=1)&&td.isAgg then
         if A.zle (A.zadd (A.zadd i j) td.size) (A.len l)&&A.ones (A.sub l (A.zadd i j) (A.zadd (A.zadd i j) td.size)) then put n g o.dst (.d (.agg (A.sub l (A.zadd i j) (A.zadd (A.zadd i j) td.size)))) else none
        else match A.lget l (A.nat (eI A k i j)) with
        | some y=>a5i n g o.dst (a0O td (y.cells.map .d) (eJ k j))
        | none=>none
       else none
     | _,_=>none
   | _=>none
 | .store t x y =>
   match a5d g H x with
   | .eptr a k i j=>some <|
     match T t,H[a]?,opD T g t y,o.dst with
     | some td,some (.arr k' l),some v,none =>
       if k'=k/\0<td.size then
        if decide (k=1)&&td.isAgg then
         match v with
         | .agg cs=>if A.zle (A.zadd (A.zadd i j) td.size) (A.len l)&&A.zeq (A.len cs) td.size then some ([],some (H.set a (.arr k (A.spl l (A.zadd i j) cs)))) else none
         | _=>none
        else if v.cells.length=td.size then match A.lget l (A.nat (eI A k i j)) with
        | some y0 =>
          if eJ k j=0/\td.size=k then some ([],some (H.set a (.arr k (A.lset l (A.nat (eI A k i j)) v))))
          else match y0 with
           | .agg cs=>if eJ k j+td.size<=cs.length then some ([],some (H.set a (.arr k (A.lset l (A.nat (eI A k i j)) (.agg (cs.take (eJ k j)++v.cells++cs.drop (eJ k j+td.size))))))) else none
           | _=>none
        | none=>none
        else none
       else none
     | _,_,_,_=>none
   | _=>none
 | .slice t x lo hi mx =>
   match a1M g x with
   | .mref a k l0 ln=>some <|
     match a0h T t,bound g T ln hi,bound g T 0 lo with
     | some es,some h,some lw =>
       if decide (es=k)&&A.zle 0 lw&&A.zle lw h&&A.zle h ln&&mx.isNone then put n g o.dst (.mref a k (A.zadd l0 lw) (A.zsub h lw)) else none
     | _,_,_=>none
   | _=>none
 | .makeSlice t ln cp=>some <|
   match T t,opD T g 0 ln,opD T g 0 cp,o.dst with
   | some { u := .slice e,.. },some (.int _ z),some (.int _ z'),some d =>
     match T e with
     | some td =>
       match a6p td with
       | some y =>
         if decide (d<n) && !(g d).isBox&&decide (0<td.size)&&A.zeq z z'&&A.zle 0 z&&A.fits z then
          some ([(d,.mref H.length td.size 0 z)],some (H++[.arr td.size (A.rep z y)]))
         else none
       | none=>none
     | none=>none
   | _,_,_,_=>none
 | .makeMap t rs=>some <|
   match T t,rs,o.dst with
   | some { u := .map kt _,.. },none,some d =>
     match a6o T 8 kt,T kt with
     | some ks,some tk=>if decide (d<n) && !(g d).isBox then some ([(d,.map H.length)],some (H++[.map tk.isAgg ks []])) else none
     | _,_=>none
   | _,_,_=>none
 | .lookup t x ix ok=>some <|
   match T t,a1M g x with
   | some { u := .map kt et,.. },.map a =>
     match a6o T 8 kt,T kt,T et,H[a]?,opD T g kt ix with
     | some ks,some tk,some te,some (.map ag ks' es),some k =>
       if decide (ag=tk.isAgg)&&a4a A tk ag ks k&&decide (ks'=ks) then
        match A.mget es k with
        | some v=>put n g o.dst (bif ok then .tuple [.d v,.d (.bool true)] else .d v)
        | none=>match a6p te with
          | some v=>put n g o.dst (bif ok then .tuple [.d v,.d (.bool false)] else .d v)
          | none=>none
       else none
     | _,_,_,_,_=>none
   | _,_=>none
 | .mapEntry t x ix=>some <|
   match T t,a1M g x with
   | some { u := .map kt _,.. },.map a =>
     match a6o T 8 kt,T kt,H[a]?,opD T g kt ix with
     | some ks,some tk,some (.map ag ks' es),some k =>
       if decide (ag=tk.isAgg)&&a4a A tk ag ks k&&decide (ks'=ks) then
        match A.mget es k with
        | some v=>put n g o.dst (.tuple [.d v,.d (.int .i64 (A.midx es k))])
        | none=>none
       else none
     | _,_,_,_=>none
   | _,_=>none
 | .entryStore t x s y=>some <|
   match T t,a1M g x,o.dst with
   | some { u := .map _ et,.. },.map a,none =>
     match H[a]?,opD T g 0 s,opD T g et y with
     | some (.map ag ks es),some (.int .i64 z),some v=>if A.mhas es z then some ([],some (H.set a (.map ag ks (A.mset es z v)))) else none
     | _,_,_=>none
   | _,_,_=>none
 | .mapUpdate t x ix y | .insert t x ix y=>some <|
   match T t,a1M g x,o.dst with
   | some { u := .map kt et,.. },.map a,none =>
     match a6o T 8 kt,T kt,H[a]?,opD T g kt ix,opD T g et y with
     | some ks,some tk,some (.map ag ks' es),some k,some v =>
       if decide (ag=tk.isAgg)&&a4a A tk ag ks k&&decide (ks'=ks) then some ([],some (H.set a (.map ag ks (A.mput es k v)))) else none
     | _,_,_,_,_=>none
   | _,_,_=>none
 | .makeInterface t x=>some <|
   match T t,opD T g t x with
   | some { u := .meth _,.. },some (.agg [])=>put n g o.dst (.d (.iface (Int.ofNat t)))
   | _,_=>none
 | .binOp .eql t x y _ =>
   match y with
   | .const .nilIface =>
     match T t,opD T g t x with
     | some { u := .iface,.. },some (.iface z)=>some (put n g o.dst (.d (.bool (A.zlt z 0))))
     | _,_=>none
   | .const (.slice none 0 0) =>
     match T t,opD T g t x with
     | some { u := .slice _,.. },some (.list _ l)=>some (put n g o.dst (bif A.zlt 0 (A.len l) then .d (.bool false) else .abool))
     | _,_=>none
   | y =>
     match opD T g 0 x,opD T g 0 y with
     | some (.bool a),some (.bool b)=>some (b6P A T n g o.dst t (.bool a) (.bool b) false)
     | some (.agg a),some (.agg b)=>some (b6P A T n g o.dst t (.agg a) (.agg b) false)
     | _,_=>none
 | .binOp .neq t x y _ =>
   match opD T g 0 x,opD T g 0 y with
   | some (.bool a),some (.bool b)=>some (b6P A T n g o.dst t (.bool a) (.bool b) true)
   | some (.agg a),some (.agg b)=>some (b6P A T n g o.dst t (.agg a) (.agg b) true)
   | _,_=>none
 | .call { callee := .builtin .len,args,argTypes } =>
   match args.toList,argTypes.toList with
   | [x],[t] =>
     match a1M g x,T t with
     | .mref _ _ _ ln,some { u := .slice _,.. }=>some (put n g o.dst (.d (.int .i64 ln)))
     | _,_=>none
   | _,_=>none
 | .call { callee := .builtin .clear,args,argTypes }=>some <|
   match args.toList,argTypes.toList with
   | [x],[t] =>
     match a1M g x,T t with
     | .mref a k lo ln,some { u := .slice e,.. } =>
       match T e,H[a]? with
       | some td,some (.arr k' l) =>
         match a6p td with
         | some y=>if decide (k'=k)&&decide (td.size=k)&&A.zle (A.zadd lo ln) (A.len l) then (put n g o.dst (.tuple [])).map fun p=>(p.1,some (H.set a (.arr k (A.fill l lo ln y)))) else none
         | none=>none
       | _,_=>none
     | _,_=>none
   | _,_=>none
 | .call { callee := .builtin .min,args,.. }=>some <|
   match args.toList with
   | [x,y]=>match opD T g 0 x,opD T g 0 y with
     | some (.int k a),some (.int k' b)=>if k=k' then put n g o.dst (.d (.int k (A.zmin a b))) else none
     | _,_=>none
   | _=>none
 | .call { callee := .builtin .max,args,.. }=>some <|
   match args.toList with
   | [x,y]=>match opD T g 0 x,opD T g 0 y with
     | some (.int k a),some (.int k' b)=>if k=k' then put n g o.dst (.d (.int k (A.zmax a b))) else none
     | _,_=>none
   | _=>none
 | _=>none
def b7R:D->AV->Bool
 | .int k n,.d (.int k' m)=>decide (k=k')&&decide (n=m)
 | .bool b,.d (.bool c)=>b == c
 | _,_=>false
def c3j:List AV->Option D
 | .d z::r=>if r.all (b7R z) then some z else none
 | _=>none
def c4b (A:Ar) (td:TD):Option (List D) :=
 match c3j td.zero with
 | some z=>some (A.rep td.size z)
 | none=>a0N td.zero
def a9m (A:Ar) (td:TD) (cs:List D) (p:Nat) (i j:Int):Option D :=
 if td.isAgg then some (.agg (A.sub cs i j)) else A.lget cs p
def b9x (n:Nat) (g:Nat->AV) (dst:Option Tmp) (v:Option D):Res :=
 match v with
 | some v=>put n g dst (.d v)
 | none=>none
def AV.ownZ (z:Bool) (k:Nat) (l:List D):AV:=if z then .own k l else .tail k l
def AV.tailOf:AV->Option (Nat×List D)
 | .own k l=>some (k,l)
 | .tail k l=>some (k,l)
 | _=>none
def AV.emptyOf:AV->Option Nat
 | .own k []=>some k
 | .lim k []=>some k
 | _=>none
def AV.tailOnly:AV->Option (Nat×List D)
 | .tail k l=>some (k,l)
 | _=>none
def a4c (A:Ar) (T:a0i) (an:Ann) (n:Nat) (g:Nat->AV) (o:Oper):Option Res :=
 match o.dst with
 | some d=>if an.arr.contains d then
   match o.op with
   | .move (.tmp s) | .assign (.tmp s) =>
     match (g s).tailOnly with
     | some (k,l)=>some <| if decide (d<n) && !(g d).isBox&&decide (s≠d) then some ([(s,.d (.list k l)),(d,.tail k l)],none) else none
     | none=>none
   | .slice t (.tmp s) (some lo) none none =>
     match (g s).tailOf,a0h T t,bound g T 0 (some lo) with
     | some (k,l),some es,some lw=>some <|
       if decide (k=es)&&A.zle 0 lw&&A.zle lw (A.len l)&&decide (d<n) && !(g d).isBox&&decide (s≠d) then some ([(s,.d (.list k l)),(d,.tail k (A.sub l lw (A.len l)))],none) else none
     | _,_,_=>none
   | .call { callee := .builtin .append,args,argTypes } =>
     match args.toList,argTypes.toList with
     | [.tmp s,y],[t,u] =>
       match (g s).tailOnly,a0h T t,a0h T u,a2B T g u y with
       | some (k',l),some k,some k1,some (k2,ys)=>some <|
         if b6O ys&&decide (k'=k)&&decide (k1=k)&&decide (k2=k)&&decide (0<k)&&decide (d<n) && !(g d).isBox&&decide (s≠d)&&A.fits (A.zadd (A.len l) (A.len ys)) then some ([(s,.d (.list k l)),(d,.tail k (A.app l ys))],none) else none
       | _,_,_,_=>none
     | _,_=>none
   | _=>none
   else none
 | none=>none
def a2r (A:Ar) (T:a0i) (an:Ann) (n:Nat) (g:Nat->AV) (H:List Obj) (o:Oper):Option Res :=
 match o.op with
 | .nilCheck x=>some <|
   match a1M g x with
   | .eptr a k i j=>put n g o.dst (.eptr a k i j)
   | _=>match adr g x with
     | some a=>put n g o.dst (a.up 0)
     | none=>none
 | .index t x i=>some <|
   match T t,opD T g t x,opD T g 0 i with
   | some { u := .array m e,.. },some (.agg cs),some (.int _ z) =>
     match T e with
     | some te=>if a9l A i z&&b2L A i z m&&(te.isAgg||decide (te.size=1)) then b9x n g o.dst (a9m A te cs (a8d A i z) (A.zmul z te.size) (A.zadd (A.zmul z te.size) te.size)) else none
     | none=>none
   | _,_,_=>none
 | .field t x f =>
   match o.dst with
   | some d=>if an.arr.contains d then some <|
     match a4v T t f,opD T g t x with
     | some (ft,off,sz),some (.agg cs) =>
       match T ft with
       | some td=>b9x n g o.dst (a9m A td cs off off (off+sz:Nat))
       | none=>none
     | _,_=>none
     else none
   | none=>none
 | .alloc t =>
   match o.dst with
   | some d=>if an.arr.contains d then some <|
     match T t with
     | some td=>if decide (d<n)&&(g d).isUndef then (c4b A td).map fun ds=>([(d,.ptr H.length 0)],some (H++[.arr 1 ds])) else none
     | none=>none
     else none
   | none=>none
 | .box t x =>
   match o.dst with
   | some d=>if an.arr.contains d then some <|
     match T t,opD T g t x with
     | some td,some (.agg cs)=>if decide (d<n)&&(g d).isUndef&&A.zeq (A.len cs) td.size then some ([(d,.ptr H.length 0)],some (H++[.arr 1 cs])) else none
     | _,_=>none
     else none
   | none=>none
 | .call { callee := .builtin .append,args,argTypes } =>
   match o.dst with
   | some d=>if an.th.contains d then some <|
     match args.toList,argTypes.toList with
     | [.tmp s,y],[t,u] =>
       match g s,a0h T t,a0h T u,a2B T g u y with
       | .lim k' l,some k,some k1,some (k2,ys) =>
         if A.zlt 0 (A.len ys)&&decide (k'=k)&&decide (k1=k)&&decide (k2=k)&&decide (0<k)&&decide (d<n) && !(g d).isBox&&decide (s≠d)&&A.fits (A.zadd (A.len l) (A.len ys)) then
          some ([(d,.mref H.length k 0 (A.zadd (A.len l) (A.len ys)))],some (H++[.arr k (A.app l ys)])) else none
       | _,_,_,_=>none
     | _,_=>none
     else none
   | none=>none
 | _=>none
def a6T (A:Ar) (T:a0i) (an:Ann) (n:Nat) (g:Nat->AV) (H:List Obj) (o:Oper):Option Res :=
 match o.op with
 | .slice t (.tmp s) none (some hi) none =>
   match o.dst,g s with
   | some d,.mref a k lo ln=>if an.th.contains d then some <|
     match a0h T t,bound g T 0 (some hi) with
     | some es,some h=>if decide (es=k)&&A.zle 0 h&&A.zle h ln&&A.zlt 0 ln then put n g o.dst (.mcap a k lo h ln) else none
     | _,_=>none
     else none
   | _,_=>none
 | .slice t (.tmp s) (some lo) (some hi) none =>
   match g s with
   | .mcap a k l0 _ c=>some <|
     match a0h T t,bound g T 0 (some lo),bound g T 0 (some hi) with
     | some es,some lw,some h=>if decide (es=k)&&A.zle 0 lw&&A.zle lw h&&A.zle h c then put n g o.dst (.mref a k (A.zadd l0 lw) (A.zsub h lw)) else none
     | _,_,_=>none
   | _=>none
 | .call { callee := .builtin .len,args,argTypes } =>
   match args.toList,argTypes.toList with
   | [.tmp s],[t] =>
     match g s with
     | .mcap _ _ _ ln _=>some <|
       match T t with
       | some { u := .slice _,.. }=>put n g o.dst (.d (.int .i64 ln))
       | _=>none
     | _=>none
   | _,_=>none
 | .slice t (.tmp s) (some lo) (some hi) (some mx) =>
   match g s with
   | .mref a k l0 ln=>some <|
     match a0h T t,bound g T 0 (some lo),bound g T 0 (some hi),bound g T 0 (some mx) with
     | some es,some lw,some h,some m=>if decide (es=k)&&A.zle 0 lw&&A.zle lw h&&A.zle h m&&A.zle m ln then put n g o.dst (.mref a k (A.zadd l0 lw) (A.zsub h lw)) else none
     | _,_,_,_=>none
   | _=>none
 | .call { callee := .builtin .append,args,argTypes } =>
   match args.toList,argTypes.toList with
   | [.tmp s,.tmp y],[t,u] =>
     match g s,g y with
     | .mcap a k lo n1 c,.mref a' k' lo2 n2=>some <|
       match a0h T t,a0h T u,H[a]? with
       | some es,some es',some (.arr k'' l) =>
         if decide (a'=a)&&decide (k'=k)&&decide (k''=k)&&decide (es=k)&&decide (es'=k)&&decide (0<k)&&A.zle (A.zadd n1 n2) c&&A.zle (A.zadd lo2 n2) (A.len l)&&A.zle (A.zadd lo (A.zadd n1 n2)) (A.len l) then
          (put n g o.dst (.mcap a k lo (A.zadd n1 n2) c)).map fun p=>(p.1,some (H.set a (.arr k (A.spl l (A.zadd lo n1) (A.sub l lo2 (A.zadd lo2 n2))))))
         else none
       | _,_,_=>none
     | _,_=>none
   | _,_=>none
 | .slice t (.tmp s) none none none =>
   match g s with
   | .ptr a 0=>some <|
     match T t with
     | some { u := .array m e,.. } =>
       match T e with
       | some td=>put n g o.dst (.mref a td.size 0 (Int.ofNat m))
       | none=>none
     | _=>none
   | _=>none
 | .call { callee := .builtin .copy,args,argTypes } =>
   match args.toList,argTypes.toList with
   | [.tmp s,y],[t,u] =>
     match g s,a2B T g u y with
     | .mref a k lo n1,some (k2,ys)=>some <|
       match a0h T t,H[a]? with
       | some es,some (.arr 1 l) =>
         if decide (es=k)&&decide (k2=k)&&decide (0<k)&&A.zle (A.len ys) n1&&A.zle (A.zmul (A.zadd lo n1) (Int.ofNat k)) (A.len l) then
          (put n g o.dst (.d (.int .i64 (A.len ys)))).map fun p=>(p.1,some (H.set a (.arr 1 (A.spl l (A.zmul lo (Int.ofNat k)) (A.flat ys)))))
         else none
       | _,_=>none
     | _,_=>none
   | _,_=>none
 | _=>none
def a4y:List AV->Option (List D)
 | []=>some []
 | .d x::r=>match a4y r with | some y=>some (x::y) | none=>none
 | _=>none
def b7S (A:Ar) (z:Int) (i:Nat) (x r:D):D :=
 match x,r with
 | .int k a,.int k' b=>if k=k' then .int k (bif A.zeq z (Int.ofNat i) then a else b) else bif A.zeq z (Int.ofNat i) then x else r
 | _,_=>bif A.zeq z (Int.ofNat i) then x else r
def a6q (A:Ar) (z:Int) (x:D):Nat->List D->List D
 | _,[]=>[]
 | i,r::rs=>b7S A z i x r::a6q A z x (i+1) rs
def c0f (A:Ar) (ob:Obj) (k:Nat) (i:Int) (j m:Nat):Option (List D) :=
 match ob with
 | .cells cs=>if k=0/\j+m<=cs.length then a4y ((cs.drop j).take m) else none
 | .gro k' l=>if k'=k then match A.lget l (A.nat i) with
   | some (.agg cs)=>if j+m<=cs.length then some ((cs.drop j).take m) else none
   | _=>none
   else none
 | _=>none
def b6Q (A:Ar) (ob:Obj) (k:Nat) (i:Int) (j m:Nat) (z:Int) (v:D):Option Obj :=
 match ob with
 | .cells cs=>if k=0/\j+m<=cs.length then match a4y ((cs.drop j).take m) with
   | some ds=>some (.cells (cs.take j++(a6q A z v 0 ds).map .d++cs.drop (j+m)))
   | none=>none
   else none
 | .gro k' l=>if k'=k then match A.lget l (A.nat i) with
   | some (.agg cs)=>if j+m<=cs.length then some (.gro k (A.lset l (A.nat i) (.agg (cs.take j++a6q A z v 0 ((cs.drop j).take m)++cs.drop (j+m))))) else none
   | _=>none
   else none
 | _=>none
def a6U (A:Ar) (T:a0i) (an:Ann) (n:Nat) (g:Nat->AV) (H:List Obj) (o:Oper):Option Res :=
 match o.op with
 | .indexAddr t (.tmp s) i =>
   match o.dst with
   | some d=>if an.vx.contains d then some <|
     match T t,opv T g 0 i with
     | some { u := .array m e,.. },some (.d (.int _ z)) =>
       match T e with
       | some td=>if decide (td.size=1)&&A.zle 0 z&&A.zlt z (Int.ofNat m) then
         match g s with
         | .ptr a off=>put n g o.dst (.vptr a 0 0 off m z)
         | .eptr a k i0 j0=>put n g o.dst (.vptr a k i0 j0 m z)
         | _=>none
         else none
       | none=>none
     | _,_=>none
     else none
   | none=>none
 | .load t (.tmp s) =>
   match g s with
   | .vptr a k i j m z=>some <|
     match T t,H[a]? with
     | some td,some ob =>
       if td.size=1/\td.isAgg=false then
        match c0f A ob k i j m with
        | some ds=>match A.lget ds (A.nat z) with
          | some y=>put n g o.dst (.d y)
          | none=>none
        | none=>none
       else none
     | _,_=>none
   | _=>none
 | .store t (.tmp s) y =>
   match g s with
   | .vptr a k i j m z=>some <|
     match T t,H[a]?,opD T g t y,o.dst with
     | some td,some ob,some v,none =>
       if td.size=1/\v.isOne=true then (b6Q A ob k i j m z v).map fun ob'=>([],some (H.set a ob')) else none
     | _,_,_,_=>none
   | _=>none
 | _=>none
def AV.nilP:AV->Option Bool
 | .nilptr=>some true
 | .ptr .. => some false
 | .iptr _=>some false
 | .d (.ref _)=>some false
 | .eptr .. => some false
 | _=>none
def a9n (td:TD) (k j:Nat) (y:D):Option D :=
 match y with
 | .agg _=>if td.isAgg&&decide (j=0)&&decide (td.size=k) then some y else none
 | _=>none
def b7T (T:a0i) (g:Nat->AV) (H:List Obj) (t:TypeId) (y:Operand):Option (Nat×List D) :=
 match a1M g y with
 | .gref a k =>
   match H[a]? with
   | some (.gro k' l)=>if k'=k then some (k,l) else none
   | _=>none
 | _=>a2B T g t y
def a6V (A:Ar) (T:a0i) (an:Ann) (n:Nat) (g:Nat->AV) (H:List Obj) (o:Oper):Option Res :=
 match o.op with
 | .call { callee := .builtin .len,args,argTypes } =>
   match args.toList,argTypes.toList with
   | [.tmp s],[t] =>
     match g s with
     | .gref a k=>some <|
       match T t,H[a]? with
       | some { u := .slice _,.. },some (.gro k' l)=>if k'=k then put n g o.dst (.d (.int .i64 (A.len l))) else none
       | _,_=>none
     | _=>none
   | _,_=>none
 | .indexAddr t (.tmp s) i =>
   match g s with
   | .gref a k=>some <|
     match T t,opv T g 0 i,H[a]? with
     | some { u := .slice e,.. },some (.d (.int _ z)),some (.gro k' l) =>
       match T e with
       | some td=>if decide (td.size=k)&&decide (k'=k)&&a9l A i z&&A.zlt z (A.len l) then put n g o.dst (.eptr a k z 0) else none
       | none=>none
     | _,_,_=>none
   | .eptr a k i0 j0 =>
     match H[a]? with
     | some (.gro _ _)=>some <|
       match T t,opv T g 0 i with
       | some { u := .array m e,.. },some (.d (.int _ z)) =>
         match T e with
         | some td=>if a9l A i z&&b2L A i z m then blk (a8d A i z) (fun j=>put n g o.dst (.eptr a k i0 (j0+j*td.size))) else none
         | none=>none
       | _,_=>none
     | _=>none
   | _=>none
 | .load t (.tmp s) =>
   match g s with
   | .eptr a k i j =>
     match H[a]? with
     | some (.gro k' l)=>some <|
       match T t with
       | some td =>
         if k'=k then
          match A.lget l (A.nat i) with
          | some y=>match a9n td k j y with
            | some v=>put n g o.dst (.d v)
            | none=>a5i n g o.dst (a0O td (y.cells.map .d) j)
          | none=>none
         else none
       | none=>none
     | _=>none
   | _=>none
 | .store t (.tmp s) y =>
   match g s with
   | .ptr a off =>
     match y with
     | .tmp q =>
       match g q with
       | .fresh k l=>some <|
         match T t,H[a]?,o.dst with
         | some td,some (.cells cs),none=>if td.size=1/\td.isAgg=false/\off<cs.length then some ([(q,.undef)],some (H.set a (.cells (cs.set off (.fresh k l))))) else none
         | _,_,_=>none
       | _=>none
     | _=>none
   | .eptr a k i j =>
     match H[a]? with
     | some (.gro k' l)=>some <|
       match T t,opD T g t y,o.dst with
       | some td,some v,none =>
         if k'=k/\0<td.size/\v.cells.length=td.size then
          match A.lget l (A.nat i) with
          | some y0 =>
            if j=0/\td.size=k then some ([],some (H.set a (.gro k (A.lset l (A.nat i) v))))
            else match y0 with
             | .agg cs=>if j+td.size<=cs.length then some ([],some (H.set a (.gro k (A.lset l (A.nat i) (.agg (cs.take j++v.cells++cs.drop (j+td.size))))))) else none
             | _=>none
          | none=>none
         else none
       | _,_,_=>none
     | _=>none
   | _=>none
 | .binOp op t (.tmp s) (.const (.pointer none)) _ =>
   match (g s).nilP with
   | some b=>some <|
     match T t with
     | some { u := .pointer,.. } =>
       match op with
       | .eql=>put n g o.dst (.d (.bool b))
       | .neq=>put n g o.dst (.d (.bool !b))
       | _=>none
     | _=>none
   | none=>none
 | .slice t (.tmp s) none (some hi) none =>
   match g s with
   | .gref a k=>some <|
     match a0h T t,bound g T 0 (some hi),H[a]?,o.dst with
     | some es,some h,some (.gro k' l),some d =>
       if decide (es=k)&&decide (k'=k)&&A.zle 0 h&&A.zle h (A.len l)&&decide (d<n) && !(g d).isBox then
        some ([(d,.fresh k (A.sub l 0 h))],some (H.set a .dead)) else none
     | _,_,_,_=>none
   | _=>none
 | .call { callee := .builtin .append,args,argTypes } =>
   match args.toList,argTypes.toList,o.dst with
   | [.tmp s,y],[t,u],some d =>
     match g s with
     | .gref a k=>some <|
       match a0h T t,a0h T u,a2B T g u y,H[a]? with
       | some es,some es',some (k2,ys),some (.gro k' l) =>
         if decide (es=k)&&decide (es'=k)&&decide (k2=k)&&decide (k'=k)&&decide (0<k)&&decide (d<n) && !(g d).isBox&&A.fits (A.zadd (A.len l) (A.len ys)) then
          if an.gr.contains d then some ([(d,.gref H.length k)],some (H.set a .dead++[.gro k (A.app l ys),.dead,.dead]))
          else some ([(d,.fresh k (A.app l ys))],some (H.set a .dead)) else none
       | _,_,_,_=>none
     | v=>if an.gr.contains d then
        match v.emptyOf with
        | some k=>some <|
          match a0h T t,a0h T u,b7T T g H u y with
          | some es,some es',some (k2,ys) =>
            if decide (es=k)&&decide (es'=k)&&decide (k2=k)&&decide (0<k)&&decide (d<n) && !(g d).isBox&&decide (s≠d)&&A.fits (A.zadd (A.len []) (A.len ys)) then
             some ([(s,.d (.list k [])),(d,.fresh k (A.app [] ys))],none) else none
          | _,_,_=>none
        | none=>none
       else none
   | _,_,_=>none
 | .buildSlice t cnt parts =>
   match o.dst with
   | some d=>if an.gr.contains d then some <|
     match T t with
     | some { u := .slice e,.. } =>
       match T e with
       | some td =>
         if decide (parts.size=cnt)&&decide (0<td.size)&&decide (cnt*td.size<=4096)&&decide (d<n) && !(g d).isBox then
          match a3q A T g e td.size parts.toList 0 with
          | some l=>some ([(d,.gref H.length td.size)],some (H++[.gro td.size l,.dead,.dead]))
          | none=>none
         else none
       | none=>none
     | _=>none
     else none
   | none=>none
 | .makeSlice t ln cp =>
   match o.dst with
   | some d=>if an.gr.contains d then some <|
     match T t,opD T g 0 ln,opD T g 0 cp with
     | some { u := .slice e,.. },some (.int _ z),some (.int _ z') =>
       match T e with
       | some td =>
         match a6p td with
         | some y =>
           if decide (d<n) && !(g d).isBox&&decide (0<td.size)&&(if an.th.contains d then A.zle z z'&&A.fits z' else A.zeq z z'&&A.fits z)&&A.zle 0 z then
            some ([(d,.gref H.length td.size)],some (H++[.gro td.size (A.rep z y),.dead,.dead]))
           else none
         | none=>none
       | none=>none
     | _,_,_=>none
     else none
   | none=>none
 | _=>none
def a4d (v:AV) (lo hi:Option Operand):Option (Nat×Int×Nat) :=
 match v with
 | .eptr a 1 i j=>some (a,i,j)
 | .ptr a off=>if off=0/\lo=none/\hi=none then none else some (a,0,off)
 | _=>none
def AV.ownOf:AV->Option (Nat×List D)
 | .own k l=>some (k,l)
 | .lim k []=>some (k,[])
 | _=>none
def a6W (A:Ar) (T:a0i) (n:Nat) (g:Nat->AV) (H:List Obj) (o:Oper):Option Res :=
 match o.op with
 | .indexAddr t (.tmp s) i =>
   match g s with
   | .mref a k lo ln =>
     match H[a]? with
     | some (.arr 1 _)=>if k=1 then none else some <|
       match T t,opv T g 0 i with
       | some { u := .slice e,.. },some (.d (.int _ z)) =>
         match T e with
         | some td=>if A.zle 0 z&&A.zlt z ln&&decide (k=td.size) then put n g o.dst (.eptr a 1 (A.zmul (A.zadd lo z) (Int.ofNat k)) 0) else none
         | none=>none
       | _,_=>none
     | _=>none
   | _=>none
 | .slice t (.tmp s) lo hi none =>
   match a4d (g s) lo hi with
   | some (a,i,j) =>
     match H[a]? with
     | some (.arr 1 _)=>some <|
       match T t with
       | some { u := .array m e,.. } =>
         match T e,bound g T (Int.ofNat m) hi,bound g T 0 lo with
         | some td,some h,some lw =>
           if A.zle 0 lw&&A.zle lw h&&A.zle h (Int.ofNat m)&&A.zle 0 (A.zadd i (Int.ofNat j))&&decide (0<td.size) then
            if td.size=1 then put n g o.dst (.mref a 1 (A.zadd (A.zadd i (Int.ofNat j)) lw) (A.zsub h lw))
            else if A.zle 0 (A.quo .i64 (A.zadd i (Int.ofNat j)) (Int.ofNat td.size))&&A.zeq (A.zmul (A.quo .i64 (A.zadd i (Int.ofNat j)) (Int.ofNat td.size)) (Int.ofNat td.size)) (A.zadd i (Int.ofNat j)) then
             put n g o.dst (.mref a td.size (A.zadd (A.quo .i64 (A.zadd i (Int.ofNat j)) (Int.ofNat td.size)) lw) (A.zsub h lw))
            else none
           else none
         | _,_,_=>none
       | _=>none
     | _=>none
   | none=>none
 | .slice t (.tmp s) none (some hi) (some mx) =>
   match g s with
   | .mref _ k _ _=>some <|
     match a0h T t,bound g T 1 (some hi),bound g T 1 (some mx) with
     | some es,some h,some m=>if decide (es=k)&&decide (h=0)&&decide (m=0) then put n g o.dst (.lim k []) else none
     | _,_,_=>none
   | _=>none
 | .binOp .eql t (.tmp s) (.const (.slice none 0 0)) _ =>
   match g s with
   | .mref .. => some <|
     match T t with
     | some { u := .slice _,.. }=>put n g o.dst (.d (.bool false))
     | _=>none
   | _=>none
 | .call { callee := .builtin .copy,args,argTypes } =>
   match args.toList,argTypes.toList with
   | [.tmp s,.tmp y],[t,_] =>
     match g s,g y with
     | .mref a k lo n1,.mref a' k' lo2 n2=>some <|
       match a0h T t,H[a]? with
       | some es,some (.arr 1 l) =>
         if decide (a'=a)&&decide (k'=k)&&decide (es=k)&&decide (0<k)&&A.zle n2 n1&&A.zle (A.zmul (A.zadd lo n1) (Int.ofNat k)) (A.len l)&&A.zle (A.zmul (A.zadd lo2 n2) (Int.ofNat k)) (A.len l) then
          (put n g o.dst (.d (.int .i64 n2))).map fun p=>(p.1,some (H.set a (.arr 1 (A.spl l (A.zmul lo (Int.ofNat k)) (A.sub l (A.zmul lo2 (Int.ofNat k)) (A.zmul (A.zadd lo2 n2) (Int.ofNat k)))))))
         else none
       | _,_=>none
     | _,_=>none
   | _,_=>none
 | .call { callee := .builtin .append,args,argTypes } =>
   match args.toList,argTypes.toList,o.dst with
   | [.tmp s,.tmp y],[t,u],some d =>
     match g y,(g s).ownOf with
     | .mref a k2 lo ln,some (k',l)=>some <|
       match a0h T t,a0h T u,H[a]? with
       | some k,some k1,some (.arr k3 ll) =>
         if decide (k'=k)&&decide (k1=k)&&decide (k2=k)&&decide (k3=k)&&decide (0<k)&&decide (d<n) && !(g d).isBox&&decide (s≠d)&&A.zle (A.zadd lo ln) (A.len ll)&&A.fits (A.zadd (A.len l) (A.len (A.sub ll lo (A.zadd lo ln)))) then
          some ([(s,.d (.list k l)),(d,.own k (A.app l (A.sub ll lo (A.zadd lo ln))))],none) else none
       | _,_,_=>none
     | _,_=>none
   | _,_,_=>none
 | _=>none
def frA (k:Nat):D->AV
 | .list k' l=>if k'=k then .fresh k l else .undef
 | _ => .undef
def b1K (k:Nat) (o:Option (Int×AV)) (j:Nat) (d:D):AV :=
 match o with
 | some (t,x)=>if j=t.toNat then x else frA k d
 | none=>frA k d
def AV.lent:AV->Bool
 | .gref .. | .mref .. => true
 | _=>false
def b2M (_:Ar) (_:a0i) (_:Ann) (_:Nat) (_:Nat->AV) (_:List Obj) (_:Oper):Option Res:=none
def a2s (A:Ar) (T:a0i) (an:Ann) (n:Nat) (g:Nat->AV) (H:List Obj) (o:Oper):Res :=
 match a4c A T an n g o with
 | some r=>r
 | none=>match b2M A T an n g H o with
   | some r=>r
   | none=>match a6W A T n g H o with
   | some r=>r
   | none=>match a6T A T an n g H o with
   | some r=>r
   | none=>match a6U A T an n g H o with
   | some r=>r
   | none=>match a6V A T an n g H o with
   | some r=>r
   | none=>match a2r A T an n g H o with
     | some r=>r
     | none=>match a0L A T n g H o with
       | some r=>r
       | none=>a0E A T an n g H o
def a0n (ops:List Oper) (o:Oper):List Nat :=
 o.op.operands.toList.flatMap a3Z++o.dst.toList ++
 (match o.guard with
  | some (j,_)=>((ops[j]?).bind (·.dst)).toList
  | none=>[])
def a7J (g:Nat->AV) (ops:List Oper) (o:Oper):List Nat :=
 a0n ops o++(a0n ops o).flatMap fun t=>match g t with | .place r _=>[r] | _=>[]
def only (rd:List Nat) (g:Nat->AV):Nat->AV:=fun t=>if rd.contains t then g t else .undef
def c2k (g:Nat->AV) (o:Oper):Option Nat :=
 match o.op with
 | .load _ (.tmp i)=>match g i with
   | .ptr a _=>some a
   | _=>none
 | _=>none
def b9y (A:Ar) (T:a0i) (an:Ann) (ops:List Oper) (σ:St) (o:Oper):Option Upd :=
 let rd:=a7J σ.get ops o
 match c2k (only rd σ.get) o with
 | some a =>
   match a2s A T an σ.n (only rd σ.get) σ.heap o with
   | some (ss,none)=>some { sets:=ss,heap:=none,rd,hr:=false,ho:=[a] }
   | some (ss,some h)=>some { sets:=ss,heap:=some h,rd,hr:=true,ho:=[] }
   | none=>none
 | none =>
   let hr:=a0P an (only rd σ.get) o
   match a2s A T an σ.n (only rd σ.get) (if hr then σ.heap else []) o with
   | some (ss,h)=>if hr||h.isNone then some { sets:=ss,heap:=h,rd,hr,ho:=[] } else none
   | none=>none
end Go.Am

namespace Go.Am
inductive Root where
 | s (t:Nat)
 | o (i:Nat)
 | ret
 | df
 | no
 deriving DecidableEq
inductive Loc where
 | s (t:Nat)
 | sc (t j:Nat)
 | o (i:Nat)
 | oc (i j:Nat)
 | ret
 | df
 | no
 deriving DecidableEq
def Loc.root:Loc->Root
 | .s t | .sc t _ => .s t
 | .o i | .oc i _ => .o i
 | .ret => .ret
 | .df => .df
 | .no => .no
structure Gh where
 K:Addr->Option Value
 O:Nat->Option (Loc×Nat)
 β:Root->Nat
 nh:Nat
def a0k (k:Nat) (l:List D):Prop := ∀ x∈l,x.cells.length=k
def a1N (z:Int):Value:=if z<0 then .nilIface else .iface z.toNat (.agg #[])
theorem b1L (z:Int):(a1N z).oneCell'=true:=by unfold a1N;split <;> rfl
inductive RepD (K:Addr->Option Value):D->Value->Prop
 | bool (b:Bool):RepD K (.bool b) (.bool b)
 | int (k:IntKind) (n:Int):RepD K (.int k n) (.int k n)
 | str (s:ByteArray):RepD K (.str s) (.string s)
 | iface (z:Int):RepD K (.iface z) (a1N z)
 | agg (cs:List D) (vs:Array Value) (hs:vs.size=cs.length) (h : ∀ (i:Nat) (hi:i<cs.length),RepD K cs[i] (vs.getD i undef)) (h1 : ∀ v∈vs,v.oneCell'=true):RepD K (.agg cs) (.agg vs)
 | ref (cs:List D) (b off:Nat) (vs:Nat->Value) (hK : ∀ j,j<cs.length->K ⟨b,off+j,none⟩=some (vs j)) (h1 : ∀ j,j<cs.length->(vs j).oneCell'=true)
   (h : ∀ (j:Nat) (hj:j<cs.length),RepD K cs[j] (vs j)):RepD K (.ref cs) (.pointer (some ⟨b,off,none⟩))
 | nil (k:Nat):RepD K (.list k []) (.slice none 0 0)
 | none0 (k:Nat) (a:Addr):RepD K (.list k []) (.slice (some a) 0 0)
 | list (k:Nat) (l:List D) (b off cap:Nat) (vs:Nat->Value) (hu:a0k k l) (hc:l.length<=cap)
   (hK : ∀ j,j<(D.flat l).length->K ⟨b,off+j,none⟩=some (vs j)) (h1 : ∀ j,j<(D.flat l).length->(vs j).oneCell'=true) (h : ∀ (j:Nat) (hj:j<(D.flat l).length),RepD K (D.flat l)[j] (vs j)) :
   RepD K (.list k l) (.slice (some ⟨b,off,none⟩) l.length cap)
def KLe (K K':Addr->Option Value):Prop := ∀ x v,K x=some v->K' x=some v
theorem KLe.refl (K:Addr->Option Value):KLe K K:=fun _ _ h=>h
theorem KLe.trans {K K' K'':Addr->Option Value} (h:KLe K K') (h':KLe K' K''):KLe K K'':=fun x v e=>h' x v (h x v e)
theorem RepD.mono {K K':Addr->Option Value} (hK:KLe K K') {x:D} {v:Value} (h:RepD K x v):RepD K' x v:=by
 induction h with
 | bool b=>exact .bool b
 | int k n=>exact .int k n
 | str s=>exact .str s
 | iface z=>exact .iface z
 | agg cs vs hs _ h1 ih=>exact .agg cs vs hs ih h1
 | ref cs b off vs hk h1 _ ih=>exact .ref cs b off vs (fun j hj=>hK _ _ (hk j hj)) h1 ih
 | nil k=>exact .nil k
 | none0 k a=>exact .none0 k a
 | list k l b off cap vs hu hc hk h1 _ ih=>exact .list k l b off cap vs hu hc (fun j hj=>hK _ _ (hk j hj)) h1 ih
theorem RepD.zero (K:Addr->Option Value) (k:Nat) (a:Option Addr):RepD K (.list k []) (.slice a 0 0):=by
 cases a with
 | none=>exact .nil k
 | some a=>exact .none0 k a
def b2k (G:Gh) (w:World) (ℓ:Loc) (k:Nat) (v:Value):Prop :=
 ∀ (a:Addr) (n cap:Nat),v = .slice (some a) n cap->0<cap ->
   ∃ f c e,G.O a.block=some (ℓ,f)/\f<=a.off+n*k/\w.heap[a.block]?=some (.cells c e (0,0))/\a.off+cap*k<=c.size/\a.off=0
def a3s (z:Bool) (G:Gh) (w:World) (ℓ:Loc) (k:Nat) (v:Value):Prop :=
 ∀ (a:Addr) (n cap:Nat),v = .slice (some a) n cap->0<cap ->
   ∃ f c e,G.O a.block=some (ℓ,f)/\f<=a.off+n*k/\w.heap[a.block]?=some (.cells c e (0,0))/\a.off+cap*k<=c.size/\(z=true->a.off=0)
def AV.free:AV->Bool
 | .own .. | .lim .. | .tail .. | .lbox _ | .place .. | .fresh .. => false
 | _=>true
def AV.frl:AV->Bool
 | .lim .. => true
 | c=>c.free
theorem AV.frl_of {c:AV} (h:c.free=true):c.frl=true:=by cases c <;> first | exact h | rfl
def AV.isLocal:AV->Bool
 | .place .. | .lbox _=>true
 | _=>false
def a6X (G:Gh) (w:World) (ℓ:Loc) (k:Nat) (l:List D) (v:Value):Prop :=
 ∃ (p:Option Addr) (cap:Nat),v = .slice p l.length cap/\a0k k l/\l.length<=cap/\(0<cap -> ∃ (b:Nat) (vs:Array Value) (e:TypeId),p=some ⟨b,0,none⟩/\G.O b=some (ℓ,0) /\
   w.heap[b]?=some (.cells vs e (0,0))/\cap*k<=vs.size/\(∀ j,j<(D.flat l).length->(vs.getD j Go.undef).oneCell'=true) /\ ∀ (j:Nat) (hj:j<(D.flat l).length),RepD G.K (D.flat l)[j] (vs.getD j Go.undef))
theorem a6X.mono {G G':Gh} {w w':World} {ℓ ℓ':Loc} {k:Nat} {l:List D} {v:Value} (h:a6X G w ℓ k l v) (hK:KLe G.K G'.K) (hO : ∀ b,G.O b=some (ℓ,0)->G'.O b=some (ℓ',0)/\w'.heap[b]?=w.heap[b]?):a6X G' w' ℓ' k l v:=by
 obtain ⟨p,cap,h1,h2,h3,h4⟩:=h;refine ⟨p,cap,h1,h2,h3,fun hc => ?_⟩;obtain ⟨b,vs,e,h5,h6,h7,h8,h9,h10⟩:=h4 hc;obtain ⟨q1,q2⟩:=hO b h6;exact ⟨b,vs,e,h5,q1,q2.trans h7,h8,h9,fun j hj=>(h10 j hj).mono hK⟩
inductive RepV (G:Gh) (w:World):Loc->AV->Value->Prop
 | undef (ℓ:Loc) (v:Value):RepV G w ℓ .undef v
 | abool (ℓ:Loc) (b:Bool):RepV G w ℓ .abool (.bool b)
 | d (ℓ:Loc) (x:D) (v:Value) (h:RepD G.K x v):RepV G w ℓ (.d x) v
 | ptr (ℓ:Loc) (a off:Nat) (ha:a<G.nh):RepV G w ℓ (.ptr a off) (.pointer (some ⟨G.β (.o a),off,none⟩))
 | nilptr (ℓ:Loc):RepV G w ℓ .nilptr (.pointer none)
 | iptr (ℓ:Loc) (cs:List D) (b off:Nat) (vs:Nat->Value) (hK : ∀ j,j<cs.length->G.K ⟨b,off+j,none⟩=some (vs j))
   (h1 : ∀ j,j<cs.length->(vs j).oneCell'=true) (h : ∀ (j:Nat) (hj:j<cs.length),RepD G.K cs[j] (vs j)):RepV G w ℓ (.iptr cs) (.pointer (some ⟨b,off,none⟩))
 | own (ℓ:Loc) (k:Nat) (l:List D) (v:Value) (h:RepD G.K (.list k l) v) (ht:b2k G w ℓ k v):RepV G w ℓ (.own k l) v
 | lim (ℓ:Loc) (k:Nat) (l:List D) (v:Value) (h:RepD G.K (.list k l) v) (ht : ∀ a n cap,v = .slice a n cap->n=cap):RepV G w ℓ (.lim k l) v
 | tail (ℓ:Loc) (k:Nat) (l:List D) (v:Value) (h:RepD G.K (.list k l) v) (ht:a3s false G w ℓ k v):RepV G w ℓ (.tail k l) v
 | func (ℓ:Loc) (f:FuncId) (as bs:List AV) (va vb:Array Value) (ha:va.size=as.length) (hb:vb.size=bs.length)
   (h : ∀ (i:Nat) (hi:i<as.length),RepV G w .no as[i] (va.getD i Go.undef)) (h' : ∀ (i:Nat) (hi:i<bs.length),RepV G w .no bs[i] (vb.getD i Go.undef))
   (hc : ∀ c∈as,c.isLocal=false) (hc' : ∀ c∈bs,c.isLocal=false) :
   RepV G w ℓ (.func f as bs) (.func (.func f) va vb)
 | nilfunc (ℓ:Loc):RepV G w ℓ .nilfunc .nilFunc
 | yield (ℓ:Loc) (l:Nat) (hl:l<G.nh):RepV G w ℓ (.yield l) (.func (.yield (G.β (.o l))) #[] #[])
 | map (ℓ:Loc) (a:Nat) (ha:a<G.nh):RepV G w ℓ (.map a) (.map (some (G.β (.o a))))
 | nilmap (ℓ:Loc):RepV G w ℓ .nilmap (.map none)
 | lbox (t:Nat) (cs:List AV) (vs:Array Value) (e:TypeId) (hO:G.O (G.β (.s t))=some (.s t,0)) (hw:w.heap[G.β (.s t)]?=some (.cells vs e (0,0)))
   (hs:vs.size=cs.length) (h : ∀ (j:Nat) (hj:j<cs.length),RepV G w (.sc t j) cs[j] (vs.getD j Go.undef)) (hc : ∀ c∈cs,c.isCell=true) :
   RepV G w (.s t) (.lbox cs) (.pointer (some ⟨G.β (.s t),0,none⟩))
 | place (ℓ:Loc) (r off:Nat):RepV G w ℓ (.place r off) (.pointer (some ⟨G.β (.s r),off,none⟩))
 | mref (ℓ:Loc) (a k:Nat) (lo n:Int) (b off cap:Nat) (ha:a<G.nh) (hlo:0<=lo) (hn:0<=n) (hc:n.toNat<=cap) (hb:0<n->b=G.β (.o a)/\off=lo.toNat*k):RepV G w ℓ (.mref a k lo n) (.slice (some ⟨b,off,none⟩) n.toNat cap)
 | mcap (ℓ:Loc) (a k:Nat) (lo n c:Int) (b off cap:Nat) (ha:a<G.nh) (hlo:0<=lo) (hn:0<=n) (hc:n<=c) (hcc:c<=(cap:Int)) (hb:0<c->b=G.β (.o a)/\off=lo.toNat*k):RepV G w ℓ (.mcap a k lo n c) (.slice (some ⟨b,off,none⟩) n.toNat cap)
 | gref (ℓ:Loc) (a k:Nat) (p:Option Addr) (ha:a+2<G.nh) (hc:G.β (.o (a+2))<=G.β (.o (a+1))) (hp:0<G.β (.o (a+1))->p=some ⟨G.β (.o a),0,none⟩):RepV G w ℓ (.gref a k) (.slice p (G.β (.o (a+2))) (G.β (.o (a+1))))
 | fresh (ℓ:Loc) (k:Nat) (l:List D) (v:Value) (h:a6X G w ℓ k l v):RepV G w ℓ (.fresh k l) v
 | junk (ℓ:Loc) (v:Value) (h:v.oneCell'=true):RepV G w ℓ .junk v
 | eptr (ℓ:Loc) (a k:Nat) (i:Int) (j:Nat) (ha:a<G.nh) (hi:0<=i):RepV G w ℓ (.eptr a k i j) (.pointer (some ⟨G.β (.o a),i.toNat*k+j,none⟩))
 | vptr (ℓ:Loc) (a k:Nat) (i:Int) (j m:Nat) (z:Int) (ha:a<G.nh) (hi:0<=i) (hz:0<=z) (hm:z<(m:Int)):RepV G w ℓ (.vptr a k i j m z) (.pointer (some ⟨G.β (.o a),i.toNat*k+(j+z.toNat),none⟩))
 | agg (ℓ:Loc) (cs:List AV) (vs:Array Value) (hs:vs.size=cs.length) (h : ∀ (i:Nat) (hi:i<cs.length),RepV G w .no cs[i] (vs.getD i Go.undef))
   (hc : ∀ c∈cs,c.isCell=true) (hf : ∀ c∈cs,c.frl=true):RepV G w ℓ (.agg cs) (.agg vs)
 | tuple (ℓ:Loc) (cs:List AV) (vs:Array Value) (hs:vs.size=cs.length) (h : ∀ (i:Nat) (hi:i<cs.length),RepV G w .no cs[i] (vs.getD i Go.undef))
   (hc : ∀ c∈cs,c.isLocal=false) :
   RepV G w ℓ (.tuple cs) (.tuple vs)
theorem a1O {z:Bool} {G:Gh} {w:World} {ℓ:Loc} {k:Nat} {l:List D} {v:Value}:RepV G w ℓ (.ownZ z k l) v↔RepD G.K (.list k l) v/\a3s z G w ℓ k v:=by
 cases z with
 | true =>
   simp only [AV.ownZ,if_true];constructor
   ·intro h;cases h with | own _ _ _ _ h ht =>
    exact ⟨h,fun a n cap e hc=>by obtain ⟨f,c,e,h1,h2,h3,h4,h5⟩:=ht a n cap e hc;exact ⟨f,c,e,h1,h2,h3,h4,fun _=>h5⟩⟩
   rintro ⟨h,ht⟩;exact .own _ _ _ _ h fun a n cap e hc=>by obtain ⟨f,c,e,h1,h2,h3,h4,h5⟩:=ht a n cap e hc;exact ⟨f,c,e,h1,h2,h3,h4,h5 rfl⟩
 | false =>
   simp only [AV.ownZ,Bool.false_eq_true,if_false];constructor
   ·intro h;cases h with | tail _ _ _ _ h ht=>exact ⟨h,ht⟩
   rintro ⟨h,ht⟩;exact .tail _ _ _ _ h ht
theorem a3s.weak {z:Bool} {G:Gh} {w:World} {ℓ:Loc} {k:Nat} {v:Value} (h:a3s z G w ℓ k v):a3s false G w ℓ k v:=by
 intro a n cap e hc;obtain ⟨f,c,e,h1,h2,h3,h4,h5⟩:=h a n cap e hc;exact ⟨f,c,e,h1,h2,h3,h4,fun h=>by cases h⟩
def D.sval:D->Value
 | .int k n => .int k n
 | .bool b => .bool b
 | .str s => .string s
 | _=>Go.undef
def mkV (agg:Bool) (xs:List D):Value :=
 if agg then .agg (xs.map D.sval).toArray else match xs with
 | x::_=>x.sval
 | []=>Go.undef
inductive EntRep (K:Addr->Option Value) (agg:Bool) (ks:List CK):List (D×D)->List MapEntry->Prop
 | nil:EntRep K agg ks [] []
 | cons {p:D×D} {m:MapEntry} {es:List (D×D)} {ms:List MapEntry} (hp:a0F agg ks p.1=true/\m.key=mkV agg p.1.cells/\RepD K p.2 m.val) (h:EntRep K agg ks es ms):EntRep K agg ks (p::es) (m::ms)
theorem EntRep.mono {K K':Addr->Option Value} (hK:KLe K K') {agg:Bool} {ks:List CK} {es:List (D×D)} {ms:List MapEntry} (h:EntRep K agg ks es ms):EntRep K' agg ks es ms:=by
 induction h with
 | nil=>exact .nil
 | cons hp _ ih=>exact .cons ⟨hp.1,hp.2.1,hp.2.2.mono hK⟩ ih
structure Pres (G G':Gh) (w w':World) (S:Loc->Prop):Prop where
 K:KLe G.K G'.K
 O : ∀ (b:Nat) (ℓ:Loc) (f:Nat),S ℓ->G.O b=some (ℓ,f)->G'.O b=some (ℓ,f)/\w'.heap[b]?=w.heap[b]?
 β : ∀ a,a<G.nh->G'.β (.o a)=G.β (.o a)
 nh:G.nh<=G'.nh
theorem b2k.pres {G G':Gh} {w w':World} {S:Loc->Prop} {ℓ:Loc} (hp:Pres G G' w w' S) (hS:S ℓ) {k:Nat} {v:Value} (h:b2k G w ℓ k v):b2k G' w' ℓ k v:=by
 intro a n cap hv hn;obtain ⟨f,c,e,h1,h2,h3,h4⟩:=h a n cap hv hn;obtain ⟨h5,h6⟩:=hp.O _ _ _ hS h1;exact ⟨f,c,e,h5,h2,h6.trans h3,h4⟩
theorem a3s.pres {z:Bool} {G G':Gh} {w w':World} {S:Loc->Prop} {ℓ:Loc} (hp:Pres G G' w w' S) (hS:S ℓ) {k:Nat} {v:Value} (h:a3s z G w ℓ k v):a3s z G' w' ℓ k v:=by
 intro a n cap hv hn;obtain ⟨f,c,e,h1,h2,h3,h4⟩:=h a n cap hv hn;obtain ⟨h5,h6⟩:=hp.O _ _ _ hS h1;exact ⟨f,c,e,h5,h2,h6.trans h3,h4⟩
structure Sane (G:Gh):Prop where
 no : ∀ b ℓ f,G.O b=some (ℓ,f)->ℓ.root ≠ .no
theorem Pres.no {G G':Gh} {w w':World} {S:Loc->Prop} (hG:Sane G) (h:Pres G G' w w' S):Pres G G' w w' (· = .no) :=
 ⟨h.K,fun b ℓ f hr hO=>absurd (hr▸rfl) (hG.no b ℓ f hO),h.β,h.nh⟩
theorem AV.isLocal_of_isCell {c:AV} (h:c.isCell=true):c.isLocal=false:=by
 cases c <;> first | rfl | (simp [AV.isCell] at h)
theorem AV.not_place {c:AV} (h:c.isLocal=false) (r off:Nat):c ≠ .place r off:=by
 rintro rfl;simp [AV.isLocal] at h
theorem RepV.pres {G G':Gh} {w w':World} (hG:Sane G) {ℓ:Loc} {av:AV} {v:Value} (h:RepV G w ℓ av v) :
  ∀ {S:Loc->Prop},Pres G G' w w' S->S ℓ->(∀ r off,av = .place r off->G'.β (.s r)=G.β (.s r)) ->
    (∀ t,ℓ = .s t->av.isBox=true->G'.β (.s t)=G.β (.s t) /\ ∀ j,S (.sc t j))->RepV G' w' ℓ av v:=by
 induction h with
 | undef ℓ v=>exact fun _ _ _ _ => .undef ℓ v
 | abool ℓ b=>exact fun _ _ _ _ => .abool ℓ b
 | d ℓ x v h=>exact fun hp _ _ _ => .d ℓ x v (h.mono hp.K)
 | ptr ℓ a off ha=>intro S hp _ _ _;rw [<-hp.β a ha];exact .ptr ℓ a off (Nat.lt_of_lt_of_le ha hp.nh)
 | nilptr ℓ=>exact fun _ _ _ _ => .nilptr ℓ
 | iptr ℓ cs b off vs hK h1 h=>exact fun hp _ _ _ => .iptr ℓ cs b off vs (fun j hj=>hp.K _ _ (hK j hj)) h1 (fun j hj=>(h j hj).mono hp.K)
 | own ℓ k l v h ht=>exact fun hp hS _ _ => .own ℓ k l v (h.mono hp.K) (ht.pres hp hS)
 | lim ℓ k l v h ht=>exact fun hp _ _ _ => .lim ℓ k l v (h.mono hp.K) ht
 | tail ℓ k l v h ht=>exact fun hp hS _ _ => .tail ℓ k l v (h.mono hp.K) (ht.pres hp hS)
 | func ℓ f as bs va vb ha hb _ _ hc hc' ih ih' =>
   intro S hp _ _ _;exact .func ℓ f as bs va vb ha hb
    (fun i hi=>ih i hi (hp.no hG) rfl (fun r off e=>absurd e (AV.not_place (hc _ (zp6 hi)) r off)) (fun t e=>by cases e))
    (fun i hi=>ih' i hi (hp.no hG) rfl (fun r off e=>absurd e (AV.not_place (hc' _ (zp6 hi)) r off)) (fun t e=>by cases e)) hc hc'
 | nilfunc ℓ=>exact fun _ _ _ _ => .nilfunc ℓ
 | yield ℓ l hl=>intro S hp _ _ _;rw [<-hp.β l hl];exact .yield ℓ l (Nat.lt_of_lt_of_le hl hp.nh)
 | map ℓ a ha=>intro S hp _ _ _;rw [<-hp.β a ha];exact .map ℓ a (Nat.lt_of_lt_of_le ha hp.nh)
 | nilmap ℓ=>exact fun _ _ _ _ => .nilmap ℓ
 | lbox t cs vs e hO hw hs _ hc ih =>
   intro S hp hS _ hb;obtain ⟨hβ,hSc⟩:=hb t rfl rfl;obtain ⟨h1,h2⟩:=hp.O _ _ _ hS hO;rw [<-hβ] at h1 h2 hw ⊢;refine .lbox t cs vs e h1 (h2.trans hw) hs (fun j hj=>ih j hj hp (hSc j) ?_ (fun t e=>by cases e)) hc;exact fun r off e=>absurd e (AV.not_place (AV.isLocal_of_isCell (hc _ (zp6 hj))) r off)
 | place ℓ r off=>intro S _ _ hpl _;rw [<-hpl r off rfl];exact .place ℓ r off
 | mref ℓ a k lo n b off cap ha hlo hn hc hb=>intro S hp _ _ _;exact .mref ℓ a k lo n b off cap (Nat.lt_of_lt_of_le ha hp.nh) hlo hn hc (fun h=>by rw [hp.β a ha];exact hb h)
 | mcap ℓ a k lo n c b off cap ha hlo hn hc hcc hb=>intro S hp _ _ _;exact .mcap ℓ a k lo n c b off cap (Nat.lt_of_lt_of_le ha hp.nh) hlo hn hc hcc (fun h=>by rw [hp.β a ha];exact hb h)
 | gref ℓ a k p ha hc hq=>intro S hp _ _ _;rw [<-hp.β _ ha,<-hp.β _ (by omega:a+1<_)] at hc;rw [<-hp.β _ ha,<-hp.β _ (by omega:a+1<_)];exact .gref ℓ a k p (Nat.lt_of_lt_of_le ha hp.nh) hc (fun h=>by rw [hp.β _ (by omega:a<_)];exact hq (by rw [<-hp.β _ (by omega:a+1<_)];exact h))
 | fresh ℓ k l v h=>exact fun hp hS _ _ => .fresh ℓ k l v (h.mono hp.K (fun b hO=>hp.O b ℓ 0 hS hO))
 | junk ℓ v h=>exact fun _ _ _ _ => .junk ℓ v h
 | eptr ℓ a k i j ha hi=>intro S hp _ _ _;rw [<-hp.β a ha];exact .eptr ℓ a k i j (Nat.lt_of_lt_of_le ha hp.nh) hi
 | vptr ℓ a k i j m z ha hi hz hm=>intro S hp _ _ _;rw [<-hp.β a ha];exact .vptr ℓ a k i j m z (Nat.lt_of_lt_of_le ha hp.nh) hi hz hm
 | agg ℓ cs vs hs _ hc hf ih =>
   intro S hp _ _ _;exact .agg ℓ cs vs hs (fun i hi=>ih i hi (hp.no hG) rfl (fun r off e=>absurd e (AV.not_place (AV.isLocal_of_isCell (hc _ (zp6 hi))) r off)) (fun t e=>by cases e)) hc hf
 | tuple ℓ cs vs hs _ hc ih =>
   intro S hp _ _ _;exact .tuple ℓ cs vs hs (fun i hi=>ih i hi (hp.no hG) rfl (fun r off e=>absurd e (AV.not_place (hc _ (zp6 hi)) r off)) (fun t e=>by cases e)) hc
def b6R (ms:Array MapEntry) (clock:Nat):Prop:=clock=ms.size /\ ∀ (j:Nat) (e:MapEntry),ms[j]?=some e->e.born=j
def a2c (G:Gh) (w:World) (i:Nat):Obj->Prop
 | .cells cs => ∃ vs e,G.O (G.β (.o i))=some (.o i,0)/\w.heap[G.β (.o i)]?=some (.cells vs e (0,0))/\vs.size=cs.length /\
   (∀ (j:Nat) (hj:j<cs.length),RepV G w (.oc i j) cs[j] (vs.getD j Go.undef)) /\ ∀ c∈cs,c.isCell=true
 | .arr k l => ∃ vs e,G.O (G.β (.o i))=some (.o i,0)/\w.heap[G.β (.o i)]?=some (.cells vs e (0,0))/\a0k k l/\(D.flat l).length<=vs.size/\(∀ j,j<(D.flat l).length->(vs.getD j Go.undef).oneCell'=true) /\
   ∀ (j:Nat) (hj:j<(D.flat l).length),RepD G.K (D.flat l)[j] (vs.getD j Go.undef)
 | .map agg ks es => ∃ ms clock,G.O (G.β (.o i))=some (.o i,0)/\w.heap[G.β (.o i)]?=some (.map ms clock)/\EntRep G.K agg ks es ms.toList/\b6R ms clock
 | .loop L => ∃ fn tmps D,G.O (G.β (.o i))=some (.o i,0)/\w.heap[G.β (.o i)]?=some (.loop { state:=L.st,pending:=L.pending,fn,tmps,params:=L.params,assign:=L.assign,body:=L.body,defers:=D }) /\
   tmps.size=L.n/\(∀ t,RepV G w .no (a1V L.env t) (tmps.getD t Go.undef)) /\ ∀ t,(a1V L.env t).free=true
 | .gro k l=>i+2<G.nh/\l.length=G.β (.o (i+2))/\l.length<=G.β (.o (i+1))/\a0k k l/\(0<G.β (.o (i+1)) -> ∃ vs e,G.O (G.β (.o i))=some (.o i,0)/\w.heap[G.β (.o i)]?=some (.cells vs e (0,0))/\G.β (.o (i+1))*k<=vs.size /\
   (∀ j,j<(D.flat l).length->(vs.getD j Go.undef).oneCell'=true) /\ ∀ (j:Nat) (hj:j<(D.flat l).length),RepD G.K (D.flat l)[j] (vs.getD j Go.undef))
 | .jag k l o=>i+2<G.nh/\l.length=G.β (.o (i+2))/\l.length<=G.β (.o (i+1))/\(∀ x∈l,∃ l',x = .list k l')/\(∀ p,o=some p->p.2.isCell=true/\p.2.free=true)/\(0<G.β (.o (i+1)) -> ∃ vs e,G.O (G.β (.o i))=some (.o i,0) /\
   w.heap[G.β (.o i)]?=some (.cells vs e (0,0))/\G.β (.o (i+1))<=vs.size /\ ∀ (j:Nat) (hj:j<l.length),RepV G w (.oc i j) (b1K k o j l[j]) (vs.getD j Go.undef))
 | .dead=>True
theorem a3B {k:Nat} {o:Option (Int×AV)} {j:Nat} {x:D} {l':List D} (hx:x = .list k l') (ho : ∀ p,o=some p->p.2.isCell=true/\p.2.free=true):(b1K k o j x).isLocal=false/\(b1K k o j x).isCell=true:=by
 subst hx;unfold b1K;split
 ·rename_i t x;split
  ·have:=ho _ rfl;exact ⟨AV.isLocal_of_isCell this.1,this.1⟩
  simp [frA,AV.isLocal,AV.isCell]
 simp [frA,AV.isLocal,AV.isCell]
theorem a2c.pres {G G':Gh} {w w':World} (hG:Sane G) {i:Nat} {ob:Obj} (h:a2c G w i ob) (hi:i<G.nh) {S:Loc->Prop} (hp:Pres G G' w w' S) (hS:S (.o i)) (hSc : ∀ j,S (.oc i j)):a2c G' w' i ob:=by
 cases ob with
 | cells cs =>
   obtain ⟨vs,e,h1,h2,h3,h4,h5⟩:=h;obtain ⟨h6,h7⟩:=hp.O _ _ _ hS h1;have hβ:=hp.β i hi;rw [<-hβ] at h2 h6 h7;exact ⟨vs,e,h6,h7.trans h2,h3,fun j hj=>(h4 j hj).pres hG hp (hSc j) (fun r off e=>absurd e (AV.not_place (AV.isLocal_of_isCell (h5 _ (zp6 hj))) r off)) (fun t e=>by cases e),h5⟩
 | arr k l =>
   obtain ⟨vs,e,h1,h2,h3,h4,h8,h5⟩:=h;obtain ⟨h6,h7⟩:=hp.O _ _ _ hS h1;have hβ:=hp.β i hi;rw [<-hβ] at h2 h6 h7;exact ⟨vs,e,h6,h7.trans h2,h3,h4,h8,fun j hj=>(h5 j hj).mono hp.K⟩
 | map agg ks es =>
   obtain ⟨ms,clock,h1,h2,h3⟩:=h;obtain ⟨h6,h7⟩:=hp.O _ _ _ hS h1;have hβ:=hp.β i hi;rw [<-hβ] at h2 h6 h7;exact ⟨ms,clock,h6,h7.trans h2,h3.1.mono hp.K,h3.2⟩
 | loop L =>
   obtain ⟨fn,tmps,D,h1,h2,h3,h4,h5⟩:=h;obtain ⟨h6,h7⟩:=hp.O _ _ _ hS h1;have hβ:=hp.β i hi;rw [<-hβ] at h2 h6 h7;refine ⟨fn,tmps,D,h6,h7.trans h2,h3,fun t=>(h4 t).pres hG (hp.no hG) rfl (fun r off e => ?_) (fun t e=>by cases e),h5⟩;have:=h5 t;rw [e] at this;simp [AV.free] at this
 | gro k l =>
   obtain ⟨g0,g1,g2,g3,g4⟩:=h;have b0:=hp.β i hi;have b1:=hp.β (i+1) (by omega);have b2:=hp.β (i+2) g0;refine ⟨Nat.lt_of_lt_of_le g0 hp.nh,by rw [b2];exact g1,by rw [b1];exact g2,g3,fun hc => ?_⟩;rw [b1] at hc;obtain ⟨vs,e,h1,h2,h3,h8,h5⟩:=g4 hc;obtain ⟨h6,h7⟩:=hp.O _ _ _ hS h1;rw [<-b0] at h2 h6 h7;exact ⟨vs,e,h6,h7.trans h2,by rw [b1];exact h3,h8,fun j hj=>(h5 j hj).mono hp.K⟩
 | jag k l o =>
   obtain ⟨g0,g1,g2,g3,go,g4⟩:=h;have b0:=hp.β i hi;have b1:=hp.β (i+1) (by omega);have b2:=hp.β (i+2) g0;refine ⟨Nat.lt_of_lt_of_le g0 hp.nh,by rw [b2];exact g1,by rw [b1];exact g2,g3,go,fun hc => ?_⟩;rw [b1] at hc;obtain ⟨vs,e,h1,h2,h3,h5⟩:=g4 hc;obtain ⟨h6,h7⟩:=hp.O _ _ _ hS h1;rw [<-b0] at h2 h6 h7;refine ⟨vs,e,h6,h7.trans h2,by rw [b1];exact h3,fun j hj=>(h5 j hj).pres hG hp (hSc j) (fun r off e => ?_) (fun t e=>by cases e)⟩;obtain ⟨l',hx⟩:=g3 _ (zp6 hj);exact absurd e (AV.not_place (a3B hx go).1 r off)
 | dead=>trivial
structure RelH (G:Gh) (H:List Obj) (w:World):Prop where
 sane:Sane G
 nh:H.length=G.nh
 objs : ∀ (i:Nat) (ob:Obj),H[i]?=some ob->a2c G w i ob
 kept : ∀ x v,G.K x=some v->w.cell? x=some v
 disj : ∀ b ℓ f,G.O b=some (ℓ,f)->b<w.heap.size /\ ∀ j,f<=j->G.K ⟨b,j,none⟩=none
def c0g (G:Gh) (ds:List Deferred) (w:World):Prop :=
 (ds.map fun d=>match d.target with | .collected r=>r | _=>0).Nodup /\
 ∀ d∈ds,∃ r,d={ target := .collected r,args := #[] }/\G.O r=some (.df,0)/\w.heap[r]?=some (.deferred (some []))
structure Rel (G:Gh) (σ:St) (a:Act) (w:World):Prop where
 h:RelH G σ.heap w
 size:a.tmps.size=σ.n
 slots : ∀ t,RepV G w (.s t) (σ.get t) (a.tmps.getD t Go.undef)
 places : ∀ t r off,σ.get t = .place r off -> ∃ cs,σ.get r = .lbox cs
 df:c0g G a.defers w
structure Ext (m:Nat) (G:Gh) (w:World) (G':Gh) (w':World):Prop where
 K:KLe G.K G'.K
 new : ∀ x v,G'.K x=some v->G.K x=some v\/(∃ p,G.O x.block=some p)\/w.heap.size<=x.block
 others : ∀ b,b<w.heap.size->G.O b=none->w'.heap[b]?=w.heap[b]?/\G'.O b=none
 size:w.heap.size<=w'.heap.size
 β : ∀ i,i<m->G'.β (.o i)=G.β (.o i)
 io:w'.os=w.os/\w'.output=w.output/\(∀ a,a.block<w.heap.size->w'.frozen? a=w.frozen? a)/\w'.tape=w.tape/\w.drawn<=w'.drawn
theorem Ext.refl (m:Nat) (G:Gh) (w:World):Ext m G w G w:=⟨KLe.refl _,fun _ _ h => .inl h,fun _ _ h=>⟨rfl,h⟩,Nat.le_refl _,fun _ _=>rfl,rfl,rfl,fun _ _=>rfl,rfl,Nat.le_refl _⟩
theorem Ext.trans {m:Nat} {G₁ G₂ G₃:Gh} {w₁ w₂ w₃:World} (h:Ext m G₁ w₁ G₂ w₂) (h':Ext m G₂ w₂ G₃ w₃):Ext m G₁ w₁ G₃ w₃ where
 K:=h.K.trans h'.K
 new x v e:=by
  rcases h'.new x v e with e | ⟨p,e⟩ | e
  ·exact h.new x v e
  ·rcases Nat.lt_or_ge x.block w₁.heap.size with hb | hb
   ·cases hO:G₁.O x.block with
    | none=>rw [(h.others _ hb hO).2] at e;cases e
    | some q=>exact .inr (.inl ⟨q,rfl⟩)
   exact .inr (.inr hb)
  exact .inr (.inr (Nat.le_trans h.size e))
 others b hb hO:=by
  obtain ⟨h1,h2⟩:=h.others b hb hO;obtain ⟨h3,h4⟩:=h'.others b (Nat.lt_of_lt_of_le hb h.size) h2;exact ⟨h3.trans h1,h4⟩
 size:=Nat.le_trans h.size h'.size
 β i hi:=(h'.β i hi).trans (h.β i hi)
 io:=⟨h'.io.1.trans h.io.1,h'.io.2.1.trans h.io.2.1,fun a ha=>(h'.io.2.2.1 a (Nat.lt_of_lt_of_le ha h.size)).trans (h.io.2.2.1 a ha),h'.io.2.2.2.1.trans h.io.2.2.2.1,Nat.le_trans h.io.2.2.2.2 h'.io.2.2.2.2⟩
def zeroCell:AV->Value->Bool
 | .d (.int k n),.int k' n'=>decide (k=k'/\n=n')
 | .d (.bool b),.bool b'=>b == b'
 | .d (.str s),.string s'=>decide (s.data=s'.data)
 | .d (.iface z),.nilIface=>decide (z<0)
 | .own _ [],.slice none 0 0=>true
 | .nilptr,.pointer none=>true
 | .nilmap,.map none=>true
 | .nilfunc,.nilFunc=>true
 | _,_=>false
theorem a1v {c:AV} {v:Value} (h:zeroCell c v=true):(∀ G w ℓ,RepV G w ℓ c v)/\c.isCell=true/\v.oneCell'=true:=by
 unfold zeroCell at h;split at h <;> simp at h
 case h_1=>obtain ⟨rfl,rfl⟩:=h;exact ⟨fun G w ℓ => .d _ _ _ (.int _ _),rfl,rfl⟩
 case h_2=>subst h;exact ⟨fun G w ℓ => .d _ _ _ (.bool _),rfl,rfl⟩
 case h_3 s s'=>obtain rfl:s=s':=by cases s;cases s';simp_all
                exact ⟨fun G w ℓ => .d _ _ _ (.str _),rfl,rfl⟩
 case h_4 z=>exact ⟨fun G w ℓ => .d _ _ _ (by have:=RepD.iface (K:=G.K) z;unfold a1N at this;rwa [if_pos h] at this),rfl,rfl⟩
 case h_5=>exact ⟨fun G w ℓ => .own _ _ _ _ (.nil _) (fun a n cap e=>by cases e),rfl,rfl⟩
 case h_6=>exact ⟨fun G w ℓ => .nilptr _,rfl,rfl⟩
 case h_7=>exact ⟨fun G w ℓ => .nilmap _,rfl,rfl⟩
 case h_8=>exact ⟨fun G w ℓ => .nilfunc _,rfl,rfl⟩
def uOk:TU->TypeDesc->Bool
 | .slice e,.slice e'=>e == e'
 | .array n e,.array n' e'=>n == n'&&e == e'
 | .struct fs,.struct fields=>fields.toList.map (fun f=>(f.type,f.offset)) == fs
 | .map k e,.map k' e'=>k == k'&&e == e'
 | .int k,.int k'=>decide (k=k')
 | .bool,.bool=>true
 | .string,.string=>true
 | .pointer,.pointer _=>true
 | .iface,.interface _=>true
 | .meth _,.struct fields=>fields.isEmpty
 | .other,d => !(d matches .struct _ | .array _ _)
 | _,_=>false
def b5g (agg:Bool):Value->Bool
 | .agg _=>agg
 | .tuple _=>false
 | _ => !agg
def eqKnown (P:Program) (t:TypeId) (d:TypeDesc):Bool :=
 decide (8<=P.depth) &&
 match d with
 | .struct fields => !P.stoodInHeld t&&fields.all fun f=>f.name != "_"
 | _=>true
theorem a8e : ∀ {ms:List (String×FuncId)} {n:String} {f:FuncId},b2I ms n=some f->(n,f)∈ms
 | [],_,_,h=>by cases h
 | (s,g)::r,n,f,h=>by
   unfold b2I at h;split at h
   ·rename_i e;subst e;cases h;simp
   exact List.mem_cons_of_mem _ (a8e h)
def b2N (i:TypeInfo):TU->Bool
 | .meth ms=>ms.all fun p=>match i.methods.find? (fun m=>m.name == p.1) with
   | some m=>m.path.isEmpty&&decide (m.func=some (p.2,false))
   | none=>false
 | _=>true
def b7U (P:Program) (t:TypeId) (td:TD):Bool :=
 match P.info? t,P.underlying t with
 | some i,some d =>
   (i.size == td.size&&decide (i.bytes<=4096)&&(uOk td.u d&&b2N i td.u)&&eqKnown P t d) &&
   (match i.zero with
    | some z=>z.cells.size == td.size&&td.zero.length == td.size&&((td.zero.zip z.cells.toList).all fun p=>zeroCell p.1 p.2)&&b5g td.isAgg z
    | none=>false)
 | _,_=>false
structure TOk (P:Program) (T:a0i):Prop where
 ok : ∀ t td,T t=some td->b7U P t td=true
def b2O:List (TypeId×TD)->a0i
 | [],_=>none
 | (s,d)::r,t=>if s=t then some d else b2O r t
theorem TOk.of_list {P:Program} {l:List (TypeId×TD)} (h:l.all (fun p=>b7U P p.1 p.2)=true):TOk P (b2O l):=by
 refine ⟨?_⟩
 induction l with
 | nil=>intro t td h;simp [b2O] at h
 | cons p r ih =>
   intro t td ht;simp only [List.all_cons,zp4] at h;obtain ⟨s,d⟩:=p;simp only [b2O] at ht;split at ht
   ·cases ht;rename_i hs;subst hs;exact h.1
   exact ih h.2 t td ht
section
variable {P:Program} {T:a0i} (hT:TOk P T)
include hT
theorem TOk.info {t:TypeId} {td:TD} (h:T t=some td) :
  ∃ i d,P.info? t=some i/\P.underlying t=some d/\i.size=td.size/\i.bytes<=4096/\uOk td.u d=true /\
    ∃ z,i.zero=some z/\z.cells.size=td.size/\td.zero.length=td.size /\ ∀ (j:Nat) (hj:j<td.zero.length),zeroCell td.zero[j] (z.cells.getD j Go.undef)=true:=by
 have h:=hT.ok t td h;unfold b7U at h;split at h
 ·rename_i i d hi hd;split at h
  ·rename_i z hz;simp only [zp4,beq_iff_eq,decide_eq_true_eq,List.all_eq_true] at h;obtain ⟨⟨⟨⟨h1,h2⟩,h3,_⟩,_⟩,⟨⟨h4,h5⟩,h6⟩,_⟩:=h;refine ⟨i,d,hi,hd,h1,h2,h3,z,hz,h4,h5,fun j hj => ?_⟩;have hj':j<z.cells.size:=by omega
   have:=h6 (td.zero[j],z.cells[j]) (by
    refine List.mem_iff_getElem.2 ⟨j,by simp;omega,?_⟩;simp)
   simpa [Array.getD,hj'] using this
  simp at h
 simp at h
theorem TOk.zeroKind {t:TypeId} {td:TD} (h:T t=some td) {i:TypeInfo} (hi:P.info? t=some i) {z:Value} (hz:i.zero=some z):b5g td.isAgg z=true:=by
 have h:=hT.ok t td h;unfold b7U at h;split at h
 ·rename_i i' d hi' hd;rw [hi] at hi';cases hi';rw [hz] at h;simp only [zp4] at h;exact h.2.2
 simp at h
theorem TOk.eqKnown {t:TypeId} {td:TD} (h:T t=some td) : ∃ d,P.underlying t=some d/\Am.eqKnown P t d=true:=by
 have h:=hT.ok t td h;unfold b7U at h;split at h
 ·rename_i i d hi hd;simp only [zp4] at h;exact ⟨d,hd,h.1.2⟩
 simp at h
theorem TOk.meth {t:TypeId} {ms:List (String×FuncId)} {sz:Nat} {z:List AV} (h:T t=some ⟨sz,.meth ms,z⟩) : ∃ i,P.info? t=some i/\b2N i (.meth ms)=true /\ ∃ fs,P.underlying t=some (.struct fs):=by
 have h:=hT.ok t _ h;unfold b7U at h;split at h
 ·rename_i i d hi hd;simp only [zp4] at h;refine ⟨i,hi,h.1.1.2.2,?_⟩;have hu:=h.1.1.2.1;cases d <;> simp [uOk] at hu;exact ⟨_,hd⟩
 simp at h
theorem TOk.iface {t:TypeId} {sz:Nat} {z:List AV} (h:T t=some ⟨sz,.iface,z⟩) : ∃ ms,P.underlying t=some (.interface ms):=by
 have h:=hT.ok t _ h;unfold b7U at h;split at h
 ·rename_i i d hi hd;simp only [zp4] at h;have hu:=h.1.1.2.1;cases d <;> simp [uOk] at hu;exact ⟨_,hd⟩
 simp at h
theorem TOk.method {t:TypeId} {ms:List (String×FuncId)} {sz:Nat} {z:List AV} (h:T t=some ⟨sz,.meth ms,z⟩) {name:String} {f:FuncId} (hf:b2I ms name=some f) (n:Nat) (w:World) :
  (Go.method (n+1) t (.agg #[]) name).run P w = .ok (f,.agg #[]) w:=by
 obtain ⟨i,hi,hm,fs,hu⟩:=hT.meth h;unfold b2N at hm;rw [List.all_eq_true] at hm;have h1:=hm _ (a8e hf);dsimp only at h1;split at h1
 ·rename_i m hfind;rw [zp4,decide_eq_true_eq] at h1;obtain ⟨h2,h3⟩:=h1;have hp:m.path.toList=[]:=by rw [Array.isEmpty_iff] at h2;rw [h2]
  have hti:(typeInfo t).run P w = .ok i w:=by simp [typeInfo,hi]
  unfold Go.method;simp [hti,hfind,hp,follow,h3,receiverAt,run_underlying hu,Place.get,Result.andThen]
 cases h1
theorem TOk.size {t:TypeId} {td:TD} (h:T t=some td) (w:World):(sizeOf t).run P w = .ok td.size w:=by
 obtain ⟨i,d,hi,_,hs,_⟩:=hT.info h;simp [sizeOf,typeInfo,hi,hs]
theorem TOk.under {t:TypeId} {td:TD} (h:T t=some td) : ∃ d,P.underlying t=some d/\uOk td.u d=true:=by
 obtain ⟨i,d,_,hd,_,_,hu,_⟩:=hT.info h;exact ⟨d,hd,hu⟩
theorem TOk.slice {t e:TypeId} {sz:Nat} {z:List AV} (h:T t=some ⟨sz,.slice e,z⟩):P.underlying t=some (.slice e):=by
 obtain ⟨d,hd,hu⟩:=hT.under h;cases d <;> simp [uOk] at hu;subst hu;exact hd
theorem TOk.pointer {t:TypeId} {sz:Nat} {z:List AV} (h:T t=some ⟨sz,.pointer,z⟩) : ∃ e,P.underlying t=some (.pointer e):=by
 obtain ⟨d,hd,hu⟩:=hT.under h;cases d <;> simp [uOk] at hu;exact ⟨_,hd⟩
theorem TOk.array {t e:TypeId} {n sz:Nat} {z:List AV} (h:T t=some ⟨sz,.array n e,z⟩):P.underlying t=some (.array n e):=by
 obtain ⟨d,hd,hu⟩:=hT.under h;cases d <;> simp [uOk] at hu;obtain ⟨rfl,rfl⟩:=hu;exact hd
theorem TOk.int {t:TypeId} {sz:Nat} {k:IntKind} {z:List AV} (h:T t=some ⟨sz,.int k,z⟩):P.underlying t=some (.int k):=by
 obtain ⟨d,hd,hu⟩:=hT.under h;cases d <;> simp [uOk] at hu;subst hu;exact hd
theorem TOk.struct {t:TypeId} {sz:Nat} {fs:List (TypeId×Nat)} {z:List AV} (h:T t=some ⟨sz,.struct fs,z⟩) :
  ∃ fields,P.underlying t=some (.struct fields)/\fields.toList.map (fun f=>(f.type,f.offset))=fs:=by
 obtain ⟨d,hd,hu⟩:=hT.under h;cases d <;> simp [uOk] at hu;exact ⟨_,hd,hu⟩
theorem TOk.isAgg {t:TypeId} {td:TD} (h:T t=some td) (w:World):(isAgg t).run P w = .ok td.isAgg w:=by
 obtain ⟨d,hd,hu⟩:=hT.under h;unfold Go.isAgg Go.underlying;simp only [Sem.run_bind,run_program,Result.andThen_ok,hd,Sem.run_pure];obtain ⟨sz,u,z⟩:=td;cases u <;> cases d <;> simp [uOk] at hu <;> simp [TD.isAgg]
end
theorem RepD.oneCell {K:Addr->Option Value} {x:D} {v:Value} (h:RepD K x v) (hx : ∀ l,x ≠ .agg l):v.oneCell'=true:=by
 cases h <;> first | rfl | (exact b1L _) | (exact absurd rfl (hx _))
theorem RepV.oneCell {G:Gh} {w:World} {ℓ:Loc} {c:AV} {v:Value} (h:RepV G w ℓ c v) (hc:c.isCell=true):v.oneCell'=true:=by
 cases h <;> first | rfl | (simp [AV.isCell] at hc;done) | skip
 case d x h=>exact h.oneCell (by rintro l rfl;simp [AV.isCell] at hc)
 case own k l h ht=>exact h.oneCell (by rintro l h;cases h)
 case lim k l h ht=>exact h.oneCell (by rintro l h;cases h)
 case tail k l h ht=>exact h.oneCell (by rintro l h;cases h)
 case fresh k l h=>obtain ⟨p,cap,rfl,_⟩:=h;rfl
 case junk h=>exact h
theorem AV.copy_isLocal (c:AV):c.copy.isLocal=false:=by cases c <;> rfl
theorem AV.copy_isCell {c:AV} (h:c.isCell=true):c.copy.isCell=true:=by cases c <;> first | exact h | rfl | (simp [AV.isCell] at h)
theorem RepV.copy {G:Gh} {w:World} {ℓ:Loc} {c:AV} {v:Value} (h:RepV G w ℓ c v) (ℓ':Loc):RepV G w ℓ' c.copy v:=by
 cases h with
 | undef=>exact .undef _ _
 | abool _ b=>exact .abool _ b
 | d _ x v h=>exact .d _ _ _ h
 | ptr _ a off ha=>exact .ptr _ _ _ ha
 | nilptr=>exact .nilptr _
 | iptr _ cs b off vs hK h1 h=>exact .iptr _ _ _ _ _ hK h1 h
 | own _ k l v h ht=>exact .d _ _ _ h
 | lim _ k l v h ht=>exact .d _ _ _ h
 | tail _ k l v h ht=>exact .d _ _ _ h
 | func _ f as bs va vb ha hb h h' hc hc'=>exact .func _ _ _ _ _ _ ha hb h h' hc hc'
 | nilfunc=>exact .nilfunc _
 | yield _ l hl=>exact .yield _ _ hl
 | map _ a ha=>exact .map _ _ ha
 | nilmap=>exact .nilmap _
 | lbox=>exact .undef _ _
 | place=>exact .undef _ _
 | mref _ a k lo n b off cap ha h1 h2 h3 h4=>exact .mref _ _ _ _ _ _ _ _ ha h1 h2 h3 h4
 | mcap _ a k lo n c b off cap ha h1 h2 h3 h4 h5=>exact .mcap _ _ _ _ _ _ _ _ _ ha h1 h2 h3 h4 h5
 | gref _ a k p ha hc hq=>exact .gref _ _ _ _ ha hc hq
 | fresh _ k l v h=>obtain ⟨p,cap,rfl,_⟩:=h;exact .junk _ _ rfl
 | junk _ v h=>exact .junk _ _ h
 | eptr _ a k i j ha hi=>exact .eptr _ _ _ _ _ ha hi
 | vptr _ a k i j m z ha hi hz hm=>exact .vptr _ _ _ _ _ _ _ ha hi hz hm
 | agg _ cs vs hs h hc hf=>exact .agg _ _ _ hs h hc hf
 | tuple _ cs vs hs h hc=>exact .tuple _ _ _ hs h hc
theorem AV.copy_free (c:AV):c.copy.free=true:=by cases c <;> rfl
theorem AV.copy_of_free {c:AV} (h:c.free=true):c.copy=c:=by cases c <;> first | rfl | (simp [AV.free] at h)
theorem RepV.anywhere {G:Gh} {w:World} {ℓ:Loc} {c:AV} {v:Value} (h:RepV G w ℓ c v) (hc:c.free=true) (ℓ':Loc):RepV G w ℓ' c v:=by
 have:=h.copy ℓ'
 rwa [AV.copy_of_free hc] at this
theorem RepV.anywhereL {G:Gh} {w:World} {ℓ:Loc} {c:AV} {v:Value} (h:RepV G w ℓ c v) (hc:c.frl=true) (ℓ':Loc):RepV G w ℓ' c v:=by
 cases c <;> first
  | exact h.anywhere hc ℓ'
  | (cases h with | lim _ _ _ _ h ht=>exact .lim _ _ _ _ h ht)
def Less (g:Nat->AV) (σ:St):Prop := ∀ t,g t=σ.get t\/g t = .undef
theorem Less.rep {g:Nat->AV} {σ:St} {G:Gh} {a:Act} {w:World} (hg:Less g σ) (R:Rel G σ a w) (t:Nat):RepV G w (.s t) (g t) (a.tmps.getD t Go.undef):=by
 rcases hg t with h | h
 ·rw [h];exact R.slots t
 rw [h];exact .undef _ _
theorem Less.eq {g:Nat->AV} {σ:St} (hg:Less g σ) {t:Nat} {c:AV} (h:g t=c) (hc:c ≠ .undef):σ.get t=c:=by
 rcases hg t with h' | h'
 ·rw [<-h',h]
 rw [h'] at h;exact absurd h.symm hc
theorem b2P {v:Value} {d:D} (h:b2J v=some d) {K:Addr->Option Value}:RepD K d v/\v.oneCell'=true:=by
 unfold b2J at h;split at h <;> simp at h <;> subst h
 ·exact ⟨.bool _,rfl⟩
 ·exact ⟨.int _ _,rfl⟩
 ·exact ⟨.str _,rfl⟩
 exact ⟨RepD.iface (-1),rfl⟩
theorem a5z : ∀ {vs:List Value} {l:List D},a5y vs=some l->vs.length=l.length /\ ∀ (K:Addr->Option Value) (i:Nat) (v:Value) (d:D),vs[i]?=some v->l[i]?=some d->RepD K d v/\v.oneCell'=true
 | [],l,h=>by cases h;exact ⟨rfl,fun K i v d h=>by simp at h⟩
 | v::r,l,h=>by
   unfold a5y at h;split at h
   ·rename_i d l' h1 h2;cases h;obtain ⟨e1,e2⟩:=a5z h2;refine ⟨by simp [e1],fun K i v' d' hv hd => ?_⟩;cases i with
    | zero=>simp at hv hd;subst hv hd;exact b2P h1
    | succ i=>exact e2 K i v' d' (by simpa using hv) (by simpa using hd)
   cases h
theorem b1M {vs:Array Value} {l:List D} (h:a5y vs.toList=some l) {K:Addr->Option Value}:RepD K (.agg l) (.agg vs):=by
 obtain ⟨e1,e2⟩:=a5z h;refine .agg _ _ (by simpa using e1) (fun i hi => ?_) (fun v hv => ?_)
 ·have hi':i<vs.size:=by simp at e1;omega
  have:=(e2 K i vs[i] l[i] (by simp [hi']) (by simp [hi])).1;simpa [Array.getD,hi'] using this
 obtain ⟨i,hi,rfl⟩:=Array.getElem_of_mem hv;have hi':i<l.length:=by simp at e1;omega
 exact (e2 K i vs[i] l[i] (by simp [hi]) (by simp [hi'])).2
theorem a6A {T:a0i} {t:TypeId} {v:Value} {c:AV} (h:a9j T t v=some c) (G:Gh) (w:World) (ℓ:Loc):RepV G w ℓ c v/\c.isLocal=false:=by
 unfold a9j at h;split at h <;> simp at h
 case h_1=>subst h;exact ⟨.d _ _ _ (.bool _),rfl⟩
 case h_2=>subst h;exact ⟨.d _ _ _ (.int _ _),rfl⟩
 case h_3=>subst h;exact ⟨.d _ _ _ (.str _),rfl⟩
 case h_4=>obtain ⟨k,_,rfl⟩:=h;exact ⟨.own _ _ _ _ (.nil _) (fun a n cap e=>by cases e),rfl⟩
 case h_5=>subst h;exact ⟨.nilptr _,rfl⟩
 case h_6=>subst h;exact ⟨.nilmap _,rfl⟩
 case h_7=>subst h;exact ⟨.nilfunc _,rfl⟩
 case h_8=>subst h;exact ⟨.d _ _ _ (RepD.iface (-1)),rfl⟩
 case h_9 vs=>obtain ⟨l,hl,rfl⟩:=h;exact ⟨.d _ _ _ (b1M hl),rfl⟩
theorem a0Y {T:a0i} {g:Nat->AV} {σ:St} {G:Gh} {a:Act} {w:World} (hg:Less g σ) (R:Rel G σ a w) {t:TypeId} {x:Operand} {c:AV} (h:opv T g t x=some c) (ℓ:Loc) :
  RepV G w ℓ c (a.eval x)/\c.isLocal=false:=by
 cases x with
 | tmp i=>simp [opv] at h;subst h;exact ⟨(hg.rep R i).copy ℓ,AV.copy_isLocal _⟩
 | const v=>exact a6A h G w ℓ
 | func f=>simp [opv] at h;subst h;exact ⟨.func _ _ _ _ #[] #[] rfl rfl (fun i hi=>by simp at hi) (fun i hi=>by simp at hi) (by simp) (by simp),rfl⟩
 | global k=>simp [opv] at h
theorem a1w : ∀ {cs:List AV} {ds:List D},a0N cs=some ds->ds.length=cs.length /\
  ∀ (i:Nat) (hi:i<cs.length) (hi':i<ds.length) (G:Gh) (w:World) (ℓ:Loc) (v:Value),RepV G w ℓ cs[i] v->RepD G.K ds[i] v
 | [],ds,h=>by simp [a0N] at h;subst h;exact ⟨rfl,fun i hi=>by simp at hi⟩
 | c::r,ds,h=>by
   unfold a0N at h;split at h
   ·rename_i heq;cases heq
   ·rename_i x r' heq;cases heq;cases hr:a0N r with
    | none=>simp [hr] at h
    | some es =>
      simp [hr] at h;subst h;obtain ⟨h1,h2⟩:=a1w hr;refine ⟨by simp [h1],fun i hi hi' G w ℓ v hv => ?_⟩;cases i with
      | zero=>cases hv;assumption
      | succ i=>exact h2 i (by simpa using hi) (by simpa using hi') G w ℓ v hv
   ·rename_i k l r' heq;cases heq;cases hr:a0N r with
    | none=>simp [hr] at h
    | some es =>
      simp [hr] at h;subst h;obtain ⟨h1,h2⟩:=a1w hr;refine ⟨by simp [h1],fun i hi hi' G w ℓ v hv => ?_⟩;cases i with
      | zero=>cases hv;assumption
      | succ i=>exact h2 i (by simpa using hi) (by simpa using hi') G w ℓ v hv
   ·rename_i k l r' heq;cases heq;cases hr:a0N r with
    | none=>simp [hr] at h
    | some es =>
      simp [hr] at h;subst h;obtain ⟨h1,h2⟩:=a1w hr;refine ⟨by simp [h1],fun i hi hi' G w ℓ v hv => ?_⟩;cases i with
      | zero=>cases hv;assumption
      | succ i=>exact h2 i (by simpa using hi) (by simpa using hi') G w ℓ v hv
   ·rename_i k l r' heq;cases heq;cases hr:a0N r with
    | none=>simp [hr] at h
    | some es =>
      simp [hr] at h;subst h;obtain ⟨h1,h2⟩:=a1w hr;refine ⟨by simp [h1],fun i hi hi' G w ℓ v hv => ?_⟩;cases i with
      | zero=>cases hv;assumption
      | succ i=>exact h2 i (by simpa using hi) (by simpa using hi') G w ℓ v hv
   simp at h
theorem a6Y {cs:List AV} {G:Gh} {w:World} {vs:Array Value} (hs:vs.size=cs.length) (h : ∀ (i:Nat) (hi:i<cs.length),∃ ℓ,RepV G w ℓ cs[i] (vs.getD i Go.undef))
  (hc : ∀ c∈cs,c.isCell=true) (ℓ:Loc):RepV G w ℓ (a5w cs) (.agg vs)/\(a5w cs).free=true:=by
 unfold a5w;cases hd:a0N cs with
 | some ds =>
   obtain ⟨h1,h2⟩:=a1w hd;refine ⟨.d _ _ _ (.agg _ _ (by omega) (fun i hi => ?_) ?_),rfl⟩
   ·obtain ⟨ℓ',hv⟩:=h i (by omega);exact h2 i (by omega) hi G w ℓ' _ hv
   intro v hv;obtain ⟨i,hi,rfl⟩:=Array.mem_iff_getElem.1 hv;obtain ⟨ℓ',hv⟩:=h i (by omega);have:=hv.oneCell (hc _ (zp6 (by omega)));simpa [Array.getD,hi] using this
 | none =>
   refine ⟨.agg _ _ _ (by simpa using hs) (fun i hi => ?_) ?_ ?_,rfl⟩
   ·obtain ⟨ℓ',hv⟩:=h i (by simpa using hi);simpa using hv.copy .no
   ·intro c hc';obtain ⟨c',h1,rfl⟩:=List.mem_map.1 hc';exact AV.copy_isCell (hc _ h1)
   intro c hc';obtain ⟨c',h1,rfl⟩:=List.mem_map.1 hc';exact AV.frl_of (AV.copy_free _)
theorem RepV.cells {G:Gh} {w:World} {ℓ:Loc} {c:AV} {v:Value} (h:RepV G w ℓ c v) (hfree:c.free=true) (hundef:c ≠ .undef) (ht : ∀ l,c ≠ .tuple l) :
  v.cells.size=c.cells.length /\ ∀ (i:Nat) (hi:i<c.cells.length) (ℓ':Loc),RepV G w ℓ' c.cells[i] (v.cells.getD i Go.undef):=by
 have one : ∀ {c:AV} {v:Value},RepV G w ℓ c v->c.free=true->c.cells=[c]->v.cells = #[v]->v.cells.size=c.cells.length /\ ∀ (i:Nat) (hi:i<c.cells.length) (ℓ':Loc),RepV G w ℓ' c.cells[i] (v.cells.getD i Go.undef):=by
  intro c v h hf h1 h2;refine ⟨by rw [h1,h2];rfl,fun i hi ℓ' => ?_⟩;have:i=0:=by rw [h1] at hi;simpa using hi
  subst this;simp only [h1,h2];exact h.anywhere hf ℓ'
 cases h with
 | undef=>exact absurd rfl hundef
 | abool _ b=>exact one (.abool _ b) rfl rfl rfl
 | d _ x v h =>
   cases h with
   | agg cs vs hs h h1 =>
     refine ⟨by simpa [Value.cells,AV.cells] using hs,fun i hi ℓ' => ?_⟩;simp only [AV.cells,List.length_map] at hi;simpa [AV.cells,Value.cells] using RepV.d ℓ' _ _ (h i hi)
   | bool b=>exact one (.d _ _ _ (.bool b)) rfl rfl rfl
   | int k n=>exact one (.d _ _ _ (.int k n)) rfl rfl rfl
   | str s=>exact one (.d _ _ _ (.str s)) rfl rfl rfl
   | iface z=>exact one (.d _ _ _ (.iface z)) rfl rfl (by unfold a1N;split <;> rfl)
   | ref cs b off vs hK h1 h=>exact one (.d _ _ _ (.ref cs b off vs hK h1 h)) rfl rfl rfl
   | nil k=>exact one (.d _ _ _ (.nil k)) rfl rfl rfl
   | none0 k a=>exact one (.d _ _ _ (.none0 k a)) rfl rfl rfl
   | list k l b off cap vs hu hc hK h1 h=>exact one (.d _ _ _ (.list k l b off cap vs hu hc hK h1 h)) rfl rfl rfl
 | ptr _ a off ha=>exact one (.ptr _ a off ha) rfl rfl rfl
 | nilptr=>exact one (.nilptr _) rfl rfl rfl
 | iptr _ cs b off vs hK h1 h=>exact one (.iptr _ cs b off vs hK h1 h) rfl rfl rfl
 | own=>simp [AV.free] at hfree
 | lim=>simp [AV.free] at hfree
 | tail=>simp [AV.free] at hfree
 | func _ f as bs va vb ha hb h h' hc hc'=>exact one (.func _ f as bs va vb ha hb h h' hc hc') rfl rfl rfl
 | nilfunc=>exact one (.nilfunc _) rfl rfl rfl
 | yield _ l hl=>exact one (.yield _ l hl) rfl rfl rfl
 | map _ a ha=>exact one (.map _ a ha) rfl rfl rfl
 | nilmap=>exact one (.nilmap _) rfl rfl rfl
 | lbox=>simp [AV.free] at hfree
 | place=>simp [AV.free] at hfree
 | mref _ a k lo n b off cap ha h1 h2 h3 h4=>exact one (.mref _ a k lo n b off cap ha h1 h2 h3 h4) rfl rfl rfl
 | mcap _ a k lo n c b off cap ha h1 h2 h3 h4 h5=>exact one (.mcap _ a k lo n c b off cap ha h1 h2 h3 h4 h5) rfl rfl rfl
 | gref _ a k p ha hc hq=>exact one (.gref _ a k p ha hc hq) rfl rfl rfl
 | fresh=>simp [AV.free] at hfree
 | junk _ v h =>
   have hv:v.cells = #[v]:=by cases v <;> first | rfl | (simp [Value.oneCell'] at h)
   exact one (.junk _ v h) rfl rfl hv
 | eptr _ a k i j ha hi=>exact one (.eptr _ a k i j ha hi) rfl rfl rfl
 | vptr _ a k i j m z ha hi hz hm=>exact one (.vptr _ a k i j m z ha hi hz hm) rfl rfl rfl
 | agg _ cs vs hs h hc hf =>
   refine ⟨by simpa [Value.cells,AV.cells] using hs,fun i hi ℓ' => ?_⟩;simp only [AV.cells] at hi;exact (h i hi).anywhereL (hf _ (zp6 hi)) ℓ'
 | tuple=>exact absurd rfl (ht _)
theorem a1A {K:Addr->Option Value} {cs:List D} {vs:Nat->Value} (h1 : ∀ j,j<cs.length->(vs j).oneCell'=true) (hh : ∀ (j:Nat) (hj:j<cs.length),RepD K cs[j] (vs j)) :
  ∀ c∈cs.map AV.d,c.isCell=true:=by
 intro c hc;obtain ⟨x,hx,rfl⟩:=List.mem_map.1 hc;obtain ⟨j,hj,rfl⟩:=List.mem_iff_getElem.1 hx;have e1:=h1 j hj;have e2:=hh j hj;generalize cs[j]=x at e2;generalize vs j=v at e1 e2;cases x <;> first | rfl | skip
 cases e2;simp [Value.oneCell'] at e1
theorem Addr.add_none (b off n:Nat):(⟨b,off,none⟩:Addr).add n=⟨b,off+n,none⟩:=by
 unfold Addr.add;split <;> simp_all
theorem b0j {α:Type} {cs:List α} {off n:Nat} {l:List α} (h:cut cs off n=some l):off+n<=cs.length/\l.length=n /\
  ∀ (i:Nat) (hi:i<l.length) (hi':off+i<cs.length),l[i]=cs[off+i]:=by
 unfold cut at h;split at h
 ·rename_i hle;simp at h;subst h;refine ⟨hle,by simp;omega,fun i hi hi' => ?_⟩;simp
 simp at h
section
variable {P:Program} {T:a0i} (hT:TOk P T)
include hT
theorem a1W {t:TypeId} {td:TD} (ht:T t=some td) {G:Gh} {w:World} {b o off:Nat} {cs:List AV} {vs:Nat->Value}
  (hw : ∀ j,j<cs.length->w.cell? ⟨b,o+j,none⟩=some (vs j)) (hr : ∀ (j:Nat) (hj:j<cs.length),∃ ℓ,RepV G w ℓ cs[j] (vs j)) (hc : ∀ c∈cs,c.isCell=true)
  {av:AV} (h:a0O td cs off=some av) :
  ∃ v,(loadVar t ⟨b,o+off,none⟩).run P w = .ok v w/\av.free=true /\ ∀ ℓ,RepV G w ℓ av v:=by
 unfold a0O at h;cases hcut:cut cs off td.size with
 | none=>simp [hcut] at h
 | some l =>
   simp only [hcut] at h;obtain ⟨h1,h2,h3⟩:=b0j hcut;unfold loadVar;simp only [Sem.run_bind,hT.isAgg ht,Result.andThen_ok];by_cases hagg:td.isAgg=true
   ·simp only [hagg,if_true,zp3] at h;subst h;have hl:=run_loadCells (P:=P) w ⟨b,o+off,none⟩ td.size (fun j=>vs (off+j)) (fun j hj=>by
     rw [Addr.add_none,show o+off+j=o+(off+j) by omega];exact hw _ (by omega))
    simp only [hagg,if_true,Sem.run_bind,hT.size ht,Result.andThen_ok,hl,Sem.run_pure];refine ⟨_,rfl,?_⟩;have:=fun ℓ=>a6Y (G:=G) (w:=w) (cs:=l) (vs:=((List.range td.size).map fun j=>vs (off+j)).toArray) (by simp [h2]) (fun i hi=>by
     obtain ⟨ℓ',hv⟩:=hr (off+i) (by omega);refine ⟨ℓ',?_⟩;rw [h3 i hi (by omega)];simpa [show i<td.size by omega] using hv) (fun c hm=>by
      obtain ⟨i,hi,rfl⟩:=List.mem_iff_getElem.1 hm;rw [h3 i hi (by omega)];exact hc _ (zp6 _)) ℓ
    exact ⟨(this .no).2,fun ℓ=>(this ℓ).1⟩
   simp only [hagg,Bool.false_eq_true,if_false] at h ⊢;cases l with
   | nil=>simp at h
   | cons c r =>
     simp at h;subst h;have hoff:off<cs.length:=by simp at h2;omega
     have h0:=h3 0 (by simp) hoff;simp at h0;refine ⟨vs off,by simp [hw off hoff],AV.copy_free _,fun ℓ => ?_⟩;obtain ⟨ℓ',hv⟩:=hr off hoff;rw [h0];exact hv.copy ℓ
theorem b2Q {t:TypeId} {td:TD} (ht:T t=some td) {G:Gh} {w:World} {off:Nat} {cs:List AV} {vs:Array Value} (hs:vs.size=cs.length)
  (hr : ∀ (j:Nat) (hj:j<cs.length),∃ ℓ,RepV G w ℓ cs[j] (vs.getD j Go.undef)) (hc : ∀ c∈cs,c.isCell=true)
  {av:AV} (h:a0O td cs off=some av) :
  ∃ v,(part t vs off).run P w = .ok v w/\av.free=true /\ ∀ ℓ,RepV G w ℓ av v:=by
 unfold a0O at h;cases hcut:cut cs off td.size with
 | none=>simp [hcut] at h
 | some l =>
   simp only [hcut] at h;obtain ⟨h1,h2,h3⟩:=b0j hcut;unfold part;simp only [Sem.run_bind,hT.isAgg ht,Result.andThen_ok];by_cases hagg:td.isAgg=true
   ·simp only [hagg,if_true,zp3] at h;subst h;simp only [hagg,if_true,Sem.run_bind,hT.size ht,Result.andThen_ok,Sem.run_pure];refine ⟨_,rfl,?_⟩;have:=fun ℓ=>a6Y (G:=G) (w:=w) (cs:=l) (vs:=vs.extract off (off+td.size)) (by simp [h2];omega) (fun i hi=>by
     obtain ⟨ℓ',hv⟩:=hr (off+i) (by omega);refine ⟨ℓ',?_⟩;rw [h3 i hi (by omega)];rw [zp5] at hv ⊢;rw [Array.getElem?_extract,if_pos (by omega)];exact hv) (fun c hm=>by
      obtain ⟨i,hi,rfl⟩:=List.mem_iff_getElem.1 hm;rw [h3 i hi (by omega)];exact hc _ (zp6 _)) ℓ
    exact ⟨(this .no).2,fun ℓ=>(this ℓ).1⟩
   simp only [hagg,Bool.false_eq_true,if_false] at h ⊢;cases l with
   | nil=>simp at h
   | cons c r =>
     simp at h;subst h;have hoff:off<cs.length:=by simp at h2;omega
     have h0:=h3 0 (by simp) hoff;simp at h0;obtain ⟨ℓ',hv⟩:=hr off hoff;have hget:vs[off]?=some (vs.getD off Go.undef):=by simp [zp5,show off<vs.size by omega]
     refine ⟨vs.getD off Go.undef,by rw [hget];simp,AV.copy_free _,fun ℓ => ?_⟩;rw [h0];exact hv.copy ℓ
end
theorem RepV.unlim {G:Gh} {w:World} {ℓ:Loc} {c:AV} {v:Value} (h:RepV G w ℓ c v):RepV G w ℓ c.unlim v:=by
 unfold AV.unlim;split
 ·cases h with | lim _ _ _ _ h ht =>
  refine .own _ _ _ _ h fun a n cap hv hc => ?_;have h1:=ht _ _ _ hv;subst hv;generalize hv':Value.slice (some a) n cap=v at h;cases h with
  | nil=>cases hv'
  | none0=>injection hv' with _ h2 h3;omega
  | list _ _ b off cap' vs=>injection hv' with _ h2 h3;simp at h2;omega
 exact h
theorem AV.unlim_isCell {c:AV} (h:c.isCell=true):c.unlim.isCell=true:=by
 unfold AV.unlim;split
 ·rfl
 exact h
theorem unlim_isCell {cs:List AV} (h : ∀ c∈cs,c.isCell=true) : ∀ c∈cs.map AV.unlim,c.isCell=true:=by
 intro c hc;obtain ⟨c',h1,rfl⟩:=List.mem_map.1 hc;exact AV.unlim_isCell (h _ h1)
theorem a2K (cs:List AV):(cs.map AV.unlim).length=cs.length:=List.length_map ..
set_option linter.unusedSimpArgs false
set_option linter.unusedSectionVars false
def Wd (r:Option Nat):Fence:={ fn:=fun _=>True,depth:=none,alive:=false,round:=r }
section
variable {P:Program} {r:Option Nat} {n:Nat} {o:Oper} {a:Act} {w w':World} {next:Act->World->Prop} {Q:Exit->Act->World->Prop}
theorem a0y {v:Value} (hd : ∀ c,o.op ≠ .defer c) (h:(execOp a.eval o).run P w = .ok (.value v) w') (hn:next (a.put o.dst v) w'):o.wpIn (Wd r) n P a w next Q:=by
 refine ⟨fun _ _=>trivial,?_⟩;rw [Oper.semAt_eq _ _ _ hd,h];exact hn
theorem a1P (hd : ∀ c,o.op ≠ .defer c) (h:(execOp a.eval o).run P w = .ok .skip w') (hn:next (a.put o.dst Go.undef) w'):o.wpIn (Wd r) n P a w next Q:=by
 refine ⟨fun _ _=>trivial,?_⟩;rw [Oper.semAt_eq _ _ _ hd,h];exact hn
end
def St.upd (σ:St) (ss:a1C) (h:Option (List Obj)):St:={ σ with env:=a0r σ.env ss,heap:=h.getD σ.heap }
def a0f (P:Program) (σ:St) (o:Oper) (ss:a1C) (h:Option (List Obj)):Prop :=
 ∀ (r:Option Nat) (n m:Nat) (G:Gh) (a:Act) (w:World) (Q:Exit->Act->World->Prop) (next:Act->World->Prop),m<=G.nh->Rel G σ a w ->
   (∀ G' a' w',Rel G' (σ.upd ss h) a' w'->Ext m G w G' w'->next a' w')->o.wpIn (Wd r) n P a w next Q
theorem a1q (a:Array Value) (d t:Nat) (v:Value) (hd:d<a.size):(a.setIfInBounds d v).getD t Go.undef=if d=t then v else a.getD t Go.undef:=by
 by_cases h:d=t
 ·subst h;simp [Array.getD,hd]
 simp only [h,if_false,zp5,Array.getElem?_setIfInBounds_ne h]
theorem Rel.put {G:Gh} {σ:St} {a:Act} {w:World} (R:Rel G σ a w) {d:Nat} {v:Value} {av:AV} (hv:RepV G w (.s d) av v) (hp : ∀ r off,av = .place r off -> ∃ cs,σ.get r = .lbox cs)
  (hb:(σ.get d).isBox=false) (hd:d<σ.n):Rel G (σ.upd [(d,av)] none) (a.put (some d) v) w where
 h:=R.h
 size:=by simpa [Act.put,St.upd] using R.size
 slots t:=by
  have hd':d<a.tmps.size:=by rw [R.size];exact hd
  simp only [Act.put,a1q _ _ _ _ hd',St.upd,St.get,a0r,List.foldl_cons,List.foldl_nil,a0d];split
  ·rename_i h;subst h;exact hv
  exact R.slots t
 places t r off ht:=by
  simp only [St.upd,St.get,a0r,List.foldl_cons,List.foldl_nil,a0d] at ht ⊢;have key : ∃ cs,σ.get r = .lbox cs:=by
   split at ht
   ·exact hp r off ht
   exact R.places t r off ht
  obtain ⟨cs,hcs⟩:=key;refine ⟨cs,?_⟩;split
  ·rename_i h;subst h;rw [hcs] at hb;simp [AV.isBox] at hb
  exact hcs
 df:=R.df
theorem a0G {n:Nat} {g:Nat->AV} {dst:Option Tmp} {v:AV} {ss:a1C} {h:Option (List Obj)} (hp:Am.put n g dst v=some (ss,h)) :
  h=none/\((dst=none/\ss=[]) \/ ∃ d,dst=some d/\ss=[(d,v)]/\d<n/\(g d).isBox=false):=by
 unfold Am.put at hp;cases dst with
 | none=>simp at hp;exact ⟨hp.2.symm,.inl ⟨rfl,hp.1⟩⟩
 | some d =>
   simp only at hp;split at hp
   ·rename_i hc;simp at hc hp;exact ⟨hp.2.symm,.inr ⟨d,rfl,hp.1.symm,hc.1,hc.2⟩⟩
   simp at hp
theorem a0c {P:Program} {σ:St} {g:Nat->AV} {o:Oper} {v:AV} {ss:a1C} {h:Option (List Obj)} (hgd : ∀ d,o.dst=some d->g d=σ.get d)
  (hput:Am.put σ.n g o.dst v=some (ss,h)) (hd : ∀ c,o.op ≠ .defer c)
  (hp : ∀ r off,v = .place r off -> ∃ cs,σ.get r = .lbox cs)
  (hrun : ∀ G a w,Rel G σ a w -> ∃ val,(execOp a.eval o).run P w = .ok (.value val) w /\ ∀ d,RepV G w (.s d) v val):a0f P σ o ss h:=by
 intro r n m G a w Q next hm R hn
 obtain ⟨val,he,hv⟩:=hrun G a w R;obtain ⟨rfl,⟨hdst,rfl⟩ | ⟨d,hdst,rfl,hlt,hb⟩⟩:=a0G hput
 ·refine a0y hd he (hn G _ _ ?_ (Ext.refl m G w));rw [hdst];simpa [Act.put,St.upd,a0r] using R
 refine a0y hd he (hn G _ _ ?_ (Ext.refl m G w));rw [hdst];exact R.put (hv d) hp (by rw [<-hgd d hdst];exact hb) hlt
theorem a1o {n:Nat} {g:Nat->AV} {dst:Option Tmp} {v:Option AV} {r:a1C×Option (List Obj)} (hp:a5i n g dst v=some r) : ∃ x,v=some x/\Am.put n g dst x=some r:=by
 unfold a5i at hp;cases v with
 | none=>simp at hp
 | some x=>exact ⟨x,rfl,hp⟩
theorem AV.free_place {v:AV} (h:v.isLocal=false) {σ:St} : ∀ r off,v = .place r off -> ∃ cs,σ.get r = .lbox cs:=by
 rintro r off rfl;simp [AV.isLocal] at h
theorem AV.free_isLocal {v:AV} (h:v.free=true):v.isLocal=false:=by cases v <;> first | rfl | (simp [AV.free] at h)
section
variable {P:Program} {T:a0i} (hT:TOk P T) {σ:St} {g:Nat->AV} {o:Oper} {ss:a1C} {h':Option (List Obj)} {H:List Obj} {an:Ann}
 (hg:Less g σ) (hgd : ∀ d,o.dst=some d->g d=σ.get d) (h:a0E Ar.std T an σ.n g H o=some (ss,h'))
include hg hgd h
theorem b2R {c x y:Operand} (hop:o.op = .pick c x y):a0f P σ o ss h':=by
 simp only [a0E,hop] at h;split at h
 ·rename_i t vx vy hc hx hy;have hl:(b0h t vx.copy vy.copy).free=true:=by
   unfold b0h;split
   ·rfl
   cases t <;> simp [AV.copy_free]
  refine a0c hgd h (by simp [hop]) (AV.free_place (AV.free_isLocal hl)) ?_;intro G a w R;have h1:=(a0Y hg R hc .no).1;have h2:=(a0Y hg R hx .no).1.copy .no;have h3:=(a0Y hg R hy .no).1.copy .no;cases h1 with | d _ _ _ h1 =>
  generalize hec:a.eval c=vc at h1;cases h1;refine ⟨if t then a.eval x else a.eval y,by simp [execOp,hop,hec,asBool],fun d => ?_⟩
  refine RepV.anywhere (ℓ := .no) ?_ hl _;unfold b0h;split
  ·rename_i b1 b2 e1 e2;rw [e1] at h2;rw [e2] at h3;cases h2 with | d _ _ _ h2=>cases h3 with | d _ _ _ h3 =>
   generalize a.eval x=vx' at h2;generalize a.eval y=vy' at h3;cases h2;cases h3;cases t
   ·exact .d _ _ _ (.bool _)
   exact .d _ _ _ (.bool _)
  cases t
  ·exact h3
  exact h2
 simp at h
theorem b2S {t:TypeId} {x:Operand} (hop:o.op = .unOp .not t x):a0f P σ o ss h':=by
 simp only [a0E,hop] at h;split at h
 ·rename_i b hx;refine a0c hgd h (by simp [hop]) (AV.free_place rfl) ?_;intro G a w R;have h1:=(a0Y hg R hx .no).1;cases h1 with | d _ _ _ h1 =>
  generalize hec:a.eval x=vc at h1;cases h1;exact ⟨.bool !b,by simp [execOp,hop,hec,Op.unary],fun d => .d _ _ _ (.bool _)⟩
 simp at h
theorem a8f {x:Operand} {i:Nat} (hop:o.op = .extract x i):a0f P σ o ss h':=by
 simp only [a0E,hop] at h;split at h
 ·rename_i vs hx;obtain ⟨v,hv,hp⟩:=a1o h;simp at hv;obtain ⟨c,hc,rfl⟩:=hv;refine a0c hgd hp (by simp [hop]) (AV.free_place (AV.copy_isLocal _)) ?_;intro G a w R;have h1:=(a0Y hg R hx .no).1;generalize hec:a.eval x=vc at h1;cases h1 with | tuple _ _ vs' hs hh hl =>
  obtain ⟨hi,rfl⟩:=zp2.1 hc;have hi':i<vs'.size:=by omega
  have:=hh i hi;refine ⟨vs'[i],by simp [execOp,hop,hec,Instr.extract,hi'],fun d => ?_⟩;simpa [Array.getD,hi'] using this.copy (.s d)
 simp at h
theorem a6Z {f:FuncId} {x y:Array Operand} (hop:o.op = .makeFunc (.func f) x y):a0f P σ o ss h':=by
 simp only [a0E,hop] at h;split at h
 ·rename_i l1 l2 h1 h2;have key : ∀ (xs:Array Operand) (l:List AV),xs.toList.mapM (opv T g 0)=some l -> ∀ G a w,Rel G σ a w ->
    (xs.map a.eval).size=(l.map AV.copy).length/\(∀ (i:Nat) (hi:i<(l.map AV.copy).length),RepV G w .no (l.map AV.copy)[i] ((xs.map a.eval).getD i Go.undef)):=by
   intro xs l hl G a w R;have : ∀ (ys:List Operand) (l:List AV),ys.mapM (opv T g 0)=some l->ys.length=l.length /\ ∀ (i:Nat) (hi:i<l.length) (hi':i<ys.length),opv T g 0 ys[i]=some l[i]:=by
    intro ys
    induction ys with
    | nil=>intro l hl;simp at hl;subst hl;exact ⟨rfl,fun i hi=>by simp at hi⟩
    | cons y r ih =>
      intro l hl;simp only [List.mapM_cons,Option.bind_eq_bind,Option.bind_eq_some_iff,Option.pure_def,zp3] at hl;obtain ⟨v,hv,l',hl',rfl⟩:=hl;obtain ⟨e1,e2⟩:=ih l' hl';refine ⟨by simp [e1],fun i hi hi' => ?_⟩;cases i with
      | zero=>exact hv
      | succ i=>exact e2 i (by simpa using hi) (by simpa using hi')
   obtain ⟨e1,e2⟩:=this _ _ hl;refine ⟨by simpa using e1,fun i hi => ?_⟩;have hi1:i<l.length:=by simpa using hi
   have hi2:i<xs.size:=by simp at e1;omega
   have:=(a0Y hg R (e2 i hi1 (by simpa using hi2)) .no).1.copy .no;simpa [Array.getD,hi2] using this
  refine a0c hgd h (by simp [hop]) (AV.free_place rfl) ?_;intro G a w R;obtain ⟨e1,e2⟩:=key x l1 h1 G a w R;obtain ⟨e3,e4⟩:=key y l2 h2 G a w R;refine ⟨.func (.func f) (x.map a.eval) (y.map a.eval),by simp [execOp,hop,Instr.makeFunc],fun d => .func _ _ _ _ _ _ e1 e3 e2 e4 ?_ ?_⟩
  ·intro c hc;obtain ⟨c',_,rfl⟩:=List.mem_map.1 hc;exact AV.copy_isLocal _
  intro c hc;obtain ⟨c',_,rfl⟩:=List.mem_map.1 hc;exact AV.copy_isLocal _
 simp at h
theorem b1N {op:BinOp} {t t':TypeId} {x y:Operand} (hop:o.op = .binOp op t x y t'):a0f P σ o ss h':=by
 simp only [a0E,hop] at h;split at h
 ·rename_i k1 z1 k2 z2 hx hy;have key : ∀ (dd:D),(∀ (G:Gh) (w:World),∃ val,(Go.binOp op t (.int k1 z1) (.int k2 z2)).run P w = .ok val w/\RepD G.K dd val)->a5i σ.n g o.dst (some (.d dd))=some (ss,h')->a0f P σ o ss h':=by
   intro dd hkey hp;refine a0c hgd hp (by simp [hop]) (AV.free_place rfl) ?_;intro G a w R;have h1:=(a0Y hg R hx .no).1;have h2:=(a0Y hg R hy .no).1;cases h1 with | d _ _ _ h1 =>
   cases h2 with | d _ _ _ h2 =>
   generalize hec:a.eval x=vx at h1;generalize hed:a.eval y=vy at h2;cases h1;cases h2;obtain ⟨val,hval,hrep⟩:=hkey G w;have hgua:(eqGuard op t x y (.int k1 z1) (.int k2 z2)).run P w = .ok () w:=by
    unfold eqGuard;cases op <;> simp
   exact ⟨val,by simp [execOp,hop,hec,hed,hgua,hval],fun d => .d _ _ _ hrep⟩
  have shifts:(op = .shl\/op = .shr)->a5i σ.n g o.dst ((a9k Ar.std op k1 z1 z2).map .d)=some (ss,h')->a0f P σ o ss h':=by
   intro ho h;obtain ⟨v,hv,hp⟩:=a1o h;simp at hv;obtain ⟨dd,hdd,rfl⟩:=hv;refine key dd (fun G w => ?_) hp;unfold a9k at hdd;split at hdd
   ·cases hdd
   rename_i hn;simp [Ar.std] at hn;rcases ho with rfl | rfl <;> simp [Ar.std] at hdd <;> subst hdd
   ·exact ⟨_,by simp [Go.binOp,Op.shift,show ¬ z2<0 by omega],.int _ _⟩
   exact ⟨_,by simp [Go.binOp,Op.shift,show ¬ z2<0 by omega],.int _ _⟩
  split at h
  ·exact shifts (.inl rfl) h
  ·exact shifts (.inr rfl) h
  rename_i hns1 hns2;split at h
  ·rename_i hk;subst hk;obtain ⟨v,hv,hp⟩:=a1o h;simp at hv;obtain ⟨dd,hdd,rfl⟩:=hv;refine key dd (fun G w => ?_) hp;cases op
   case quo =>
    simp only [a8b] at hdd;split at hdd
    ·cases hdd
    rename_i hz;simp [Ar.std] at hz;simp [Ar.std] at hdd;subst hdd;exact ⟨_,by simp [Go.binOp,Op.intDiv,hz],.int _ _⟩
   case rem =>
    simp only [a8b] at hdd;split at hdd
    ·cases hdd
    rename_i hz;simp [Ar.std] at hz;simp [Ar.std] at hdd;subst hdd;exact ⟨_,by simp [Go.binOp,Op.intDiv,hz],.int _ _⟩
   case and=>simp [a8b] at hdd;subst hdd;refine ⟨_,?_,.int _ _⟩;simp only [Go.binOp,Op.intBits,Ar.std,a2I,ne_eq,not_true_eq_false,if_false];rfl
   case or=>simp [a8b] at hdd;subst hdd;refine ⟨_,?_,.int _ _⟩;simp only [Go.binOp,Op.intBits,Ar.std,a2I,ne_eq,not_true_eq_false,if_false];rfl
   case xor=>simp [a8b] at hdd;subst hdd;refine ⟨_,?_,.int _ _⟩;simp only [Go.binOp,Op.intBits,Ar.std,a2I,ne_eq,not_true_eq_false,if_false];rfl
   case andNot=>simp [a8b] at hdd;subst hdd;refine ⟨_,?_,.int _ _⟩;simp only [Go.binOp,Op.intBits,Ar.std,a2I,ne_eq,not_true_eq_false,if_false];rfl
   all_goals simp [a8b,Ar.std] at hdd
   all_goals subst hdd
   all_goals refine ⟨_,by simp [Go.binOp,Op.intArith,Op.intCmp];rfl,?_⟩
   all_goals first | exact .int _ _ | exact .bool _
  simp at h
 simp at h
include hT in
theorem a8g {s t:TypeId} {x:Operand} (hop:o.op = .convert s t x):a0f P σ o ss h':=by
 simp only [a0E,hop] at h;split at h
 ·rename_i td0 sz k z kk zz hs0 hx hy;refine a0c hgd h (by simp [hop]) (AV.free_place rfl) ?_;intro G a w R;obtain ⟨ds,hds,_⟩:=hT.under hs0;have hu:=hT.int hx;have h1:=(a0Y hg R hy .no).1;cases h1 with | d _ _ _ h1 =>
  generalize hec:a.eval x=vx at h1;cases h1;refine ⟨.int k (k.wrap zz),?_,fun d => .d _ _ _ (.int _ _)⟩;simp [execOp,hop,hec,Go.convert,Go.underlying,hds,hu,Conv.intToInt]
 simp at h
end
theorem a2D {T:a0i} {t:TypeId} {f:Nat} {ft off sz:Nat} (h:a4v T t f=some (ft,off,sz)) : ∃ s fs z td,T t=some ⟨s,.struct fs,z⟩/\fs[f]?=some (ft,off)/\T ft=some td/\td.size=sz:=by
 unfold a4v at h;split at h
 ·rename_i s fs z ht;split at h
  ·rename_i ft' off' hf;simp at h;obtain ⟨td,h1,rfl,rfl,rfl⟩:=h;exact ⟨_,_,_,td,ht,hf,h1,rfl⟩
  simp at h
 simp at h
def a3t (G:Gh) (σ:St) (A:Adr) (v:Value):Prop :=
 match A with
 | .slot r off cs=>σ.get r = .lbox cs/\v = .pointer (some ⟨G.β (.s r),off,none⟩)
 | .obj a off=>a<G.nh/\v = .pointer (some ⟨G.β (.o a),off,none⟩)
 | .cells cs => ∃ (b off:Nat) (vs:Nat->Value),v = .pointer (some ⟨b,off,none⟩)/\(∀ j,j<cs.length->G.K ⟨b,off+j,none⟩=some (vs j))/\(∀ j,j<cs.length->(vs j).oneCell'=true) /\ ∀ (j:Nat) (hj:j<cs.length),RepD G.K cs[j] (vs j)
theorem a2L {g:Nat->AV} {σ:St} {G:Gh} {a:Act} {w:World} (hg:Less g σ) (R:Rel G σ a w) {x:Operand} {A:Adr} (h:adr g x=some A):a3t G σ A (a.eval x):=by
 unfold adr at h;split at h
 ·rename_i i;have hrep:=hg.rep R i;split at h
  ·rename_i cs hgi;simp at h;subst h;rw [hgi] at hrep;refine ⟨hg.eq hgi (by simp),?_⟩;show a.tmps.getD i Go.undef=_;generalize a.tmps.getD i Go.undef=v at hrep;cases hrep;rfl
  ·rename_i r off hgi;rw [hgi] at hrep;split at h
   ·rename_i cs hgr;simp at h;subst h;refine ⟨hg.eq hgr (by simp),?_⟩;show a.tmps.getD i Go.undef=_;generalize a.tmps.getD i Go.undef=v at hrep;cases hrep;rfl
   simp at h
  ·rename_i b off hgi;simp at h;subst h;rw [hgi] at hrep;show a3t G σ _ (a.tmps.getD i Go.undef);generalize a.tmps.getD i Go.undef=v at hrep;cases hrep with | ptr _ _ _ ha=>exact ⟨ha,rfl⟩
  ·rename_i cs hgi;simp at h;subst h;rw [hgi] at hrep;show a3t G σ _ (a.tmps.getD i Go.undef);generalize a.tmps.getD i Go.undef=v at hrep;cases hrep with | iptr _ _ b off vs hK h1 hh=>exact ⟨b,off,vs,rfl,hK,h1,hh⟩
  ·rename_i cs hgi;simp at h;subst h;rw [hgi] at hrep;show a3t G σ _ (a.tmps.getD i Go.undef);generalize a.tmps.getD i Go.undef=v at hrep;cases hrep with | d _ _ _ hrep =>
   cases hrep with | ref _ b off vs hK h1 hh=>exact ⟨b,off,vs,rfl,hK,h1,hh⟩
  simp at h
 simp at h
theorem a3t.pointer {G:Gh} {σ:St} {A:Adr} {v:Value} (h:a3t G σ A v) : ∃ b off,v = .pointer (some ⟨b,off,none⟩):=by
 cases A with
 | slot r off cs=>exact ⟨_,_,h.2⟩
 | obj a off=>exact ⟨_,_,h.2⟩
 | cells cs=>obtain ⟨b,off,vs,h,_⟩:=h;exact ⟨_,_,h⟩
theorem a3t.up {G:Gh} {σ:St} {w:World} {A:Adr} {b off:Nat} (h:a3t G σ A (.pointer (some ⟨b,off,none⟩))) (n:Nat) (ℓ:Loc):RepV G w ℓ (A.up n) (.pointer (some ⟨b,off+n,none⟩)):=by
 cases A with
 | slot r o cs=>obtain ⟨_,h⟩:=h;injection h with h;injection h with h;injection h with h1 h2;subst h1 h2;exact .place _ _ _
 | obj a o=>obtain ⟨ha,h⟩:=h;injection h with h;injection h with h;injection h with h1 h2;subst h1 h2;exact .ptr _ _ _ ha
 | cells cs =>
   obtain ⟨b',o,vs,h,hK,h1,hh⟩:=h;injection h with h;injection h with h;injection h with e1 e2;subst e1 e2
   refine .iptr _ _ _ _ (fun j=>vs (n+j)) (fun j hj => ?_) (fun j hj=>h1 _ (by simp at hj;omega)) (fun j hj => ?_)
   ·rw [show off+n+j=off+(n+j) by omega];exact hK _ (by simp at hj;omega)
   simpa using hh (n+j) (by simp at hj;omega)
theorem a3t.up_place {G:Gh} {σ:St} {A:Adr} {v:Value} (h:a3t G σ A v) (n:Nat) : ∀ r off,A.up n = .place r off -> ∃ cs,σ.get r = .lbox cs:=by
 intro r off e;cases A with
 | slot r' o cs=>simp [Adr.up] at e;obtain ⟨rfl,_⟩:=e;exact ⟨cs,h.1⟩
 | obj a o=>simp [Adr.up] at e
 | cells cs=>simp [Adr.up] at e
section
variable {P:Program} {T:a0i} (hT:TOk P T) {σ:St} {g:Nat->AV} {o:Oper} {ss:a1C} {h':Option (List Obj)} {H:List Obj} {an:Ann}
 (hg:Less g σ) (hgd : ∀ d,o.dst=some d->g d=σ.get d) (h:a0E Ar.std T an σ.n g H o=some (ss,h'))
include hT hg hgd h
theorem a6r {t:TypeId} {x:Operand} {f:Nat} (hop:o.op = .fieldAddr t x f):a0f P σ o ss h':=by
 simp only [a0E,hop] at h;split at h
 ·rename_i ft off sz A hf hA;split at h
  ·simp at h
  rename_i hsz;obtain ⟨s,fs,z,td,ht,hfs,hft,rfl⟩:=a2D hf;obtain ⟨fields,hu,hmap⟩:=hT.struct ht;have hfield : ∃ fld,fields[f]?=some fld/\fld.type=ft/\fld.offset=off:=by
   rw [<-hmap] at hfs;simp at hfs;obtain ⟨fld,h1,h2,h3⟩:=hfs;exact ⟨fld,h1,h2,h3⟩
  obtain ⟨fld,h1,rfl,rfl⟩:=hfield;intro r n m G a w Q next hm R hn
  have hAr:=a2L hg R hA;refine a0c hgd h (by simp [hop]) (hAr.up_place _) ?_ r n m G a w Q next hm R hn
  intro G a w R;have hAr:=a2L hg R hA;obtain ⟨b,of,hp⟩:=hAr.pointer;rw [hp] at hAr;refine ⟨.pointer (some ⟨b,of+fld.offset,none⟩),?_,fun d=>hAr.up _ _⟩;simp [execOp,hop,hp,Instr.fieldAt,Go.underlying,hu,h1,Instr.sureAddr,fieldPlace,hT.size hft,hsz,Addr.add_none]
 simp at h
omit hT hg hgd h in
theorem a0H {k:Nat} : ∀ {l:List D} (_:a0k k l) {i:Nat} {y:D} (_:l[i]?=some y) (j:Nat),j<k->(D.flat l)[i*k+j]?=y.cells[j]?
 | [],_,i,y,h,_,_=>by simp at h
 | x::r,hu,0,y,h,j,hj=>by
   simp at h;subst h;have hx:x.cells.length=k:=hu _ (by simp);simp only [D.flat,List.flatMap_cons,Nat.zero_mul,Nat.zero_add];rw [zp7 (by omega)]
 | x::r,hu,i+1,y,h,j,hj=>by
   have hx:x.cells.length=k:=hu _ (by simp);have ih:=a0H (l:=r) (fun z hz=>hu z (by simp [hz])) (i:=i) (y:=y) (by simpa using h) j hj;simp only [D.flat,List.flatMap_cons] at ih ⊢;rw [zp8 (by rw [Nat.add_mul];omega),<-ih];congr 1;rw [Nat.add_mul];omega
omit hT hg hgd h in
theorem b5h {G:Gh} {k:Nat} {l:List D} {b off cap:Nat} (hr:RepD G.K (.list k l) (.slice (some ⟨b,off,none⟩) l.length cap)) {i:Nat} {y:D} (hy:l[i]?=some y) (w:World) (ℓ:Loc) :
  RepV G w ℓ (.iptr y.cells) (.pointer (some ⟨b,off+i*k,none⟩)):=by
 generalize hv:Value.slice (some ⟨b,off,none⟩) l.length cap=v at hr;cases hr with
 | nil=>simp at hv
 | none0=>simp at hy
 | list k l b' off' cap' vs hu hc hK h1c hh =>
   simp at hv;obtain ⟨⟨rfl,rfl⟩,_⟩:=hv;have hyk:y.cells.length=k:=hu y (List.mem_of_getElem? hy);have key : ∀ j,j<k -> ∃ h:i*k+j<(D.flat l).length,∀ hj:j<y.cells.length,(D.flat l)[i*k+j]=y.cells[j]:=by
    intro j hj;have e:=a0H hu hy j hj;rw [zp1 (by omega:j<y.cells.length)] at e;obtain ⟨h1,h2⟩:=zp2.1 e;exact ⟨h1,fun _=>h2⟩
   refine .iptr _ _ _ _ (fun j=>vs (i*k+j)) (fun j hj => ?_) (fun j hj=>h1c _ (key j (by omega)).1) (fun j hj => ?_)
   ·obtain ⟨h1,_⟩:=key j (by omega);rw [show off+i*k+j=off+(i*k+j) by omega];exact hK _ h1
   obtain ⟨h1,h2⟩:=key j (by omega);have:=hh _ h1
   rwa [h2 hj] at this
omit hT hg hgd h in
theorem RepD.slice {K:Addr->Option Value} {k:Nat} {l:List D} {v:Value} (h:RepD K (.list k l) v) :
  (l=[] /\ ∃ a,v = .slice a 0 0) \/ ∃ b off cap,v = .slice (some ⟨b,off,none⟩) l.length cap:=by
 cases h with
 | nil=>exact .inl ⟨rfl,none,rfl⟩
 | none0 k a=>exact .inl ⟨rfl,some a,rfl⟩
 | list k l b off cap vs=>exact .inr ⟨b,off,cap,rfl⟩
omit hT hgd h in
theorem a4R {G:Gh} {a:Act} {w:World} (R:Rel G σ a w) {i k:Nat} {l:List D} (hgi:g i = .d (.list k l)\/g i = .own k l):RepD G.K (.list k l) (a.eval (.tmp i)):=by
 have hrep:=hg.rep R i;rcases hgi with hgi | hgi <;> rw [hgi] at hrep <;> cases hrep <;> assumption
theorem a6s {t:TypeId} {x i:Operand} (hop:o.op = .indexAddr t x i):a0f P σ o ss h':=by
 simp only [a0E,hop,a3r,a4b,a4x,b0i] at h;split at h
 ·rename_i sz m e zc kz z ht hi;split at h
  ·rename_i td A hte hA;split at h
   ·rename_i hb;simp [Ar.std] at hb;intro r n m' G a w Q next hm R hn
    have hAr:=a2L hg R hA;refine a0c hgd h (by simp [hop]) (hAr.up_place _) ?_ r n m' G a w Q next hm R hn
    intro G a w R;have hAr:=a2L hg R hA;obtain ⟨b,of,hp⟩:=hAr.pointer;rw [hp] at hAr;have h1:=(a0Y hg R hi .no).1;cases h1 with | d _ _ _ h1 =>
    generalize hei:a.eval i=vi at h1;cases h1;refine ⟨.pointer (some ⟨b,of+z.toNat*td.size,none⟩),?_,fun d=>hAr.up _ _⟩;simp [execOp,hop,hp,hei,Instr.indexAt,asIntOf,Go.underlying,hT.array ht,Instr.sureAddr,hb,hT.size hte,Addr.add_none]
   simp at h
  simp at h
 ·rename_i sz e zc kz z ht hi;split at h
  ·rename_i td hte;have key : ∀ {k:Nat} {l:List D},(∀ G a w,Rel G σ a w->RepD G.K (.list k l) (a.eval x)) ->
     (if (decide (0<=z)&&decide (k=td.size))=true then match Ar.std.lget l z.toNat with | some y=>Am.put σ.n g o.dst (.iptr y.cells) | none=>none else none)=some (ss,h')->a0f P σ o ss h':=by
    intro k l hlist h;split at h
    ·rename_i hb;simp [Ar.std] at hb;split at h
     ·rename_i y hy;simp only [Ar.std] at hy;refine a0c hgd h (by simp [hop]) (AV.free_place rfl) ?_;intro G a w R;have hl:=hlist G a w R;have h1:=(a0Y hg R hi .no).1;cases h1 with | d _ _ _ h1 =>
      generalize hei:a.eval i=vi at h1;cases h1;rcases hl.slice with ⟨rfl,_⟩ | ⟨b,off,cap,hv⟩
      ·simp at hy
      rw [hv] at hl;have hlt:z.toNat<l.length:=(zp2.1 hy).1;have hz:0<=z/\z<(l.length:Int):=⟨hb.1,by omega⟩;refine ⟨.pointer (some ⟨b,off+z.toNat*td.size,none⟩),?_,fun d=>by rw [<-hb.2];exact b5h hl hy w _⟩;simp [execOp,hop,hv,hei,Instr.indexAt,asIntOf,Go.underlying,hT.slice ht,hz,hT.size hte,Addr.add_none]
     simp at h
    simp at h
   split at h
   ·rename_i k l hx;cases x with
    | tmp i'=>exact key (fun G a w R=>a4R hg R (.inl hx)) h
    | _=>simp at hx
   ·rename_i k l hx;cases x with
    | tmp i'=>exact key (fun G a w R=>a4R hg R (.inr hx)) h
    | _=>simp at hx
   simp at h
  simp at h
 simp at h
theorem b1O {t:TypeId} {x:Operand} {f:Nat} (hop:o.op = .field t x f):a0f P σ o ss h':=by
 simp only [a0E,hop] at h;split at h
 ·rename_i ft off sz hf;obtain ⟨s,fs,z,td,ht,hfs,hft,rfl⟩:=a2D hf;obtain ⟨fields,hu,hmap⟩:=hT.struct ht;have hfield : ∃ fld,fields[f]?=some fld/\fld.type=ft/\fld.offset=off:=by
   rw [<-hmap] at hfs;simp at hfs;obtain ⟨fld,h1,h2,h3⟩:=hfs;exact ⟨fld,h1,h2,h3⟩
  obtain ⟨fld,hfl,rfl,rfl⟩:=hfield;simp only [hft] at h;cases hx:opv T g t x with
  | none=>simp [hx] at h
  | some v =>
    simp only [hx] at h;split at h
    ·rename_i hag;obtain ⟨av,hav,hp⟩:=a1o h;have hread : ∀ (G:Gh) (a:Act) (w:World),Rel G σ a w -> ∃ vs,a.eval x = .agg vs /\ ∃ val,(part fld.type vs fld.offset).run P w = .ok val w/\av.free=true /\ ∀ ℓ,RepV G w ℓ av val:=by
      intro G a w R;have hr:=(a0Y hg R hx (.no)).1;generalize a.eval x=xv at hr;cases v with
      | d y =>
        cases y with
        | agg ds =>
          cases hr with | d _ _ _ hd =>
          cases hd with | agg _ vs hs hh h1 =>
          refine ⟨vs,rfl,b2Q hT hft (cs:=ds.map .d) (by simpa using hs) (fun j hj=>⟨.no,by simpa using RepV.d .no _ _ (hh j (by simpa using hj))⟩) ?_ hav⟩;refine a1A (vs:=fun j=>vs.getD j Go.undef) (fun j hj=>h1 _ ?_) hh;simp [Array.getD,hs,hj]
        | _=>simp [AV.isAggr] at hag
      | agg cs =>
        cases hr with | agg _ _ vs hs hh hc hf =>
        exact ⟨vs,rfl,b2Q hT hft hs (fun j hj=>⟨.no,hh j hj⟩) hc hav⟩
      | _=>simp [AV.isAggr] at hag
     have hfree:(∃ G a w,Rel G σ a w)->av.free=true:=by
      rintro ⟨G,a,w,R⟩;obtain ⟨vs,_,val,_,h3,_⟩:=hread G a w R;exact h3
     intro r n m G a w Q next hm R hn
     exact a0c hgd hp (by simp [hop]) (AV.free_place (AV.free_isLocal (hfree ⟨G,a,w,R⟩))) (fun G a w R=>by
      obtain ⟨vs,h1,val,h2,h3,h4⟩:=hread G a w R;exact ⟨val,by simp [execOp,hop,Instr.field,Go.underlying,hu,h1,hfl,asAgg,h2],fun d=>h4 _⟩) r n m G a w Q next hm R hn
    simp at h
 simp at h
omit hT hgd h in
theorem a2M {t:TypeId} {x:Operand} {k:Nat} {l:List D} (hl:a2B T g t x=some (k,l)) {G:Gh} {a:Act} {w:World} (R:Rel G σ a w):RepD G.K (.list k l) (a.eval x):=by
 unfold a2B at hl;split at hl
 ·rename_i k' l' hx;simp at hl;obtain ⟨rfl,rfl⟩:=hl;have:=(a0Y hg R hx .no).1;cases this;assumption
 ·rename_i k' l' hx;simp at hl;obtain ⟨rfl,rfl⟩:=hl;have:=(a0Y hg R hx .no).1;cases this;assumption
 simp at hl
theorem b5i {args:Array Operand} {ts:Array TypeId} (hop:o.op = .call { callee := .builtin .len,args:=args,argTypes:=ts }):a0f P σ o ss h':=by
 simp only [a0E,hop] at h;split at h
 ·rename_i x t hargs hts;obtain rfl:args = #[x]:=by cases args;simp_all
  obtain rfl:ts = #[t]:=by cases ts;simp_all
  split at h
  ·rename_i sz e z ht;split at h
   ·rename_i k l hl;refine a0c hgd h (by simp [hop]) (AV.free_place rfl) ?_;intro G a w R;have hr:=a2M hg hl R;have hsl : ∃ b cap,a.eval x = .slice b l.length cap:=by
     rcases hr.slice with ⟨rfl,oa,hv⟩ | ⟨b,off,cap,hv⟩
     ·exact ⟨_,_,hv⟩
     exact ⟨_,_,hv⟩
    obtain ⟨b,cap,hv⟩:=hsl;refine ⟨.int .i64 l.length,?_,fun d => .d _ _ _ (.int _ _)⟩;simp [execOp,hop,resolve,invoke,Go.builtin,Builtin.len_,hv,Go.underlying,hT.slice ht,goInt]
   simp at h
  simp at h
 simp at h
omit hT hgd h in
theorem a0D {d:Int} {x:Operand} {z:Int} (hb:bound g T d (some x)=some z) {G:Gh} {a:Act} {w:World} (R:Rel G σ a w) : ∃ k,a.eval x = .int k z:=by
 unfold bound at hb;simp only at hb;split at hb
 ·rename_i k z' hx;simp at hb;subst hb;have:=(a0Y hg R hx .no).1;cases this with | d _ _ _ h =>
  generalize a.eval x=v at h;cases h;exact ⟨_,rfl⟩
 simp at hb
end
theorem a0b {k:Nat} : ∀ {l:List D},a0k k l->(D.flat l).length=l.length*k
 | [],_=>by simp [D.flat]
 | x::r,hu=>by
   have ih:=a0b (l:=r) (fun z hz=>hu z (by simp [hz]));have hx:x.cells.length=k:=hu _ (by simp);simp only [D.flat,List.flatMap_cons,List.length_append,List.length_cons] at ih ⊢;rw [ih,hx,Nat.add_mul];omega
theorem a0C (l m:List D):D.flat (l++m)=D.flat l++D.flat m:=by simp [D.flat]
theorem a1Q {k:Nat} {l:List D} (hu:a0k k l) (n:Nat):D.flat (l.drop n)=(D.flat l).drop (n*k):=by
 by_cases hn:n<=l.length
 ·have this:(D.flat (l.take n)).length=n*k:=by
   rw [a0b (k:=k) (fun x hx=>hu x (List.mem_of_mem_take hx))];simp [Nat.min_eq_left hn]
  have e:D.flat l=D.flat (l.take n)++D.flat (l.drop n):=by rw [<-a0C,List.take_append_drop]
  rw [e,List.drop_left' this]
 rw [List.drop_of_length_le (by omega),List.drop_of_length_le]
 ·rfl
 rw [a0b hu];exact Nat.mul_le_mul_right k (by omega)
theorem a1g {k:Nat} {l:List D} (hu:a0k k l) (n:Nat):D.flat (l.take n)=(D.flat l).take (n*k):=by
 by_cases hn:n<=l.length
 ·have this:(D.flat (l.take n)).length=n*k:=by
   rw [a0b (k:=k) (fun x hx=>hu x (List.mem_of_mem_take hx))];simp [Nat.min_eq_left hn]
  have e:D.flat l=D.flat (l.take n)++D.flat (l.drop n):=by rw [<-a0C,List.take_append_drop]
  rw [e,List.take_left' this]
 rw [List.take_of_length_le (by omega),List.take_of_length_le];rw [a0b hu];exact Nat.mul_le_mul_right k (by omega)
theorem a0k.sub {k:Nat} {l:List D} (hu:a0k k l) (n m:Nat):a0k k ((l.drop n).take m):=fun x hx=>hu x (List.mem_of_mem_drop (List.mem_of_mem_take hx))
theorem RepD.sub {K:Addr->Option Value} {k:Nat} {l:List D} {b off cap:Nat} (hr:RepD K (.list k l) (.slice (some ⟨b,off,none⟩) l.length cap)) {lo hi cap':Nat} (h1:lo<=hi) (h2:hi<=l.length)
  (h3:hi-lo<=cap'):RepD K (.list k ((l.drop lo).take (hi-lo))) (.slice (some ⟨b,off+lo*k,none⟩) (hi-lo) cap'):=by
 generalize hv:Value.slice (some ⟨b,off,none⟩) l.length cap=v at hr;cases hr with
 | nil=>simp at hv
 | none0 =>
   simp at h2;subst h2;obtain rfl:lo=0:=by omega
   simpa using RepD.list (K:=K) k [] b off cap' (fun _=>Go.undef) (fun x hx=>by simp at hx) (by simp) (fun j hj=>by simp [D.flat] at hj) (fun j hj=>by simp [D.flat] at hj) (fun j hj=>by simp [D.flat] at hj)
 | list k l b' off' cap'' vs hu hc hK h1c hh =>
   simp at hv;obtain ⟨⟨rfl,rfl⟩,_⟩:=hv;have hlen:((l.drop lo).take (hi-lo)).length=hi-lo:=by simp;omega
   have hfl:D.flat ((l.drop lo).take (hi-lo))=((D.flat l).drop (lo*k)).take ((hi-lo)*k):=by
    rw [a1g (k:=k) (fun x hx=>hu x (List.mem_of_mem_drop hx)),a1Q hu]
   have hflen:=a0b hu;have:=RepD.list (K:=K) k ((l.drop lo).take (hi-lo)) b (off+lo*k) cap' (fun j=>vs (lo*k+j)) (hu.sub _ _) (by omega) (fun j hj => ?_) (fun j hj => ?_) (fun j hj => ?_)
   ·rwa [hlen] at this
   ·rw [a0b (hu.sub _ _),hlen] at hj;have hlt:lo*k+j<(D.flat l).length:=by
     rw [hflen]
     calc lo*k+j<lo*k+(hi-lo)*k:=by omega
      _=hi*k:=by rw [<-Nat.add_mul];congr 1;omega
      _<=l.length*k:=Nat.mul_le_mul_right k h2
    rw [show off+lo*k+j=off+(lo*k+j) by omega];exact hK _ hlt
   ·rw [hfl] at hj;exact h1c _ (by simp at hj;omega)
   have hj':=hj;rw [hfl] at hj';have hlt:lo*k+j<(D.flat l).length:=by
    simp at hj';omega
   have:=hh (lo*k+j) hlt;have e:(D.flat ((l.drop lo).take (hi-lo)))[j]=(D.flat l)[lo*k+j]:=by
    simp only [hfl,List.getElem_take,List.getElem_drop]
   rw [e];exact this
theorem RepD.empty (K:Addr->Option Value) (k:Nat) (b off cap:Nat):RepD K (.list k []) (.slice (some ⟨b,off,none⟩) 0 cap) :=
 .list k [] b off cap (fun _=>Go.undef) (fun x hx=>by simp at hx) (Nat.zero_le _) (fun j hj=>by simp [D.flat] at hj) (fun j hj=>by simp [D.flat] at hj) (fun j hj=>by simp [D.flat] at hj)
section
variable {P:Program} {T:a0i} (hT:TOk P T) {σ:St} {g:Nat->AV} {o:Oper} {ss:a1C} {h':Option (List Obj)} {H:List Obj} {an:Ann}
 (hg:Less g σ) (hgd : ∀ d,o.dst=some d->g d=σ.get d) (h:a0E Ar.std T an σ.n g H o=some (ss,h'))
include hT hg hgd h
omit hT hg hgd h in
theorem a0J {w:World} {len cap nl nh m:Nat} {low high max:Option Value} (hlo:(low=none/\nl=0) \/ ∃ k,low=some (.int k nl))
  (hhi:(high=none/\nh=len) \/ ∃ k,high=some (.int k nh)) (hmx:(max=none/\m=cap)\/((∃ k,max=some (.int k m))/\high.isSome=true))
  (h1:nl<=nh) (h2:nh<=m) (h3:m<=cap):(Instr.sliceBounds true len cap low high max).run P w = .ok (nl,nh,m) w:=by
 have h4:nh<=cap:=by omega
 have c1:=Nat.not_lt.2 h1;have c2:=Nat.not_lt.2 h2;have c3:=Nat.not_lt.2 h3;have c4:=Nat.not_lt.2 h4;rcases hmx with ⟨rfl,rfl⟩ | ⟨⟨km,rfl⟩,hhs⟩
 ·rcases hhi with ⟨rfl,rfl⟩ | ⟨kh,rfl⟩ <;> rcases hlo with ⟨rfl,rfl⟩ | ⟨kl,rfl⟩ <;> simp [Instr.sliceBounds,Instr.sliceBound,asIntOf,h1,h4,c1,c4]
 rcases hhi with ⟨rfl,rfl⟩ | ⟨kh,rfl⟩
 ·simp at hhs
 rcases hlo with ⟨rfl,rfl⟩ | ⟨kl,rfl⟩ <;> simp [Instr.sliceBounds,Instr.sliceBound,asIntOf,h1,h2,h3,c1,c2,c3]
omit hT hg hgd h in
theorem a0l {t:TypeId} {k:Nat} (he:a0h T t=some k) : ∃ sz e z td,T t=some ⟨sz,.slice e,z⟩/\T e=some td/\td.size=k:=by
 unfold a0h at he;split at he
 ·rename_i sz e z ht;simp at he;obtain ⟨td,h1,h2⟩:=he;exact ⟨_,_,_,td,ht,h1,h2⟩
 simp at he
theorem b1P {t:TypeId} {x:Operand} {lo hi mx:Option Operand} (hop:o.op = .slice t x lo hi mx):a0f P σ o ss h':=by
 simp only [a0E,hop] at h;split at h
 ·rename_i es hes;obtain ⟨sz,e,z,td,ht,hte,rfl⟩:=a0l hes;split at h
  ·rename_i k l hl;split at h
   ·simp at h
   rename_i hk;obtain rfl:k=td.size:=by simpa using hk
   split at h
   ·rename_i zh zl hbh hbl;split at h
    ·rename_i hb;simp [Ar.std] at hb;obtain ⟨⟨⟨hb0,hb1⟩,hb2⟩,hb3⟩:=hb;obtain ⟨nl,rfl⟩:=zp9 hb0;obtain ⟨nh,rfl⟩:=zp9 (Int.le_trans hb0 hb1);have hnl:nl<=nh:=by omega
     have hnh:nh<=l.length:=by omega

     have key : ∀ G a w,Rel G σ a w -> ∀ (b:Option Addr) (cap m:Nat),a.eval x = .slice b l.length cap->nh<=m->m<=cap ->
       ((mx=none/\m=cap) \/ ∃ y kk,mx=some y/\a.eval y = .int kk m) ->
       (execOp a.eval o).run P w = .ok (.value (.slice (if m=nl then b else b.map (·.add (nl*td.size))) (nh-nl) (m-nl))) w:=by
      intro G a w R b cap m hx h1 h2 hm;have hrun:=a0J (P:=P) (w:=w) (len:=l.length) (cap:=cap) (nl:=nl) (nh:=nh) (m:=m) (low:=lo.map a.eval) (high:=hi.map a.eval) (max:=mx.map a.eval)
       (by cases lo with
        | none=>simp [bound] at hbl;exact .inl ⟨rfl,by omega⟩
        | some y=>obtain ⟨kk,e⟩:=a0D hg hbl R;exact .inr ⟨kk,by simp [e]⟩)
       (by cases hi with
        | none=>simp [bound,Ar.std] at hbh;exact .inl ⟨rfl,by omega⟩
        | some y=>obtain ⟨kk,e⟩:=a0D hg hbh R;exact .inr ⟨kk,by simp [e]⟩)
       (by rcases hm with ⟨rfl,rfl⟩ | ⟨y,kk,rfl,e⟩
           ·exact .inl ⟨rfl,rfl⟩
           refine .inr ⟨⟨kk,by simp [e]⟩,?_⟩;rcases hb3 with hb3 | hb3
           ·simp at hb3
           cases hi <;> simp_all) hnl h1 h2
      simp [execOp,hop,Instr.sliceAt,Instr.slice,Go.underlying,hT.slice ht,hx,hrun,hT.size hte]
     have hnl0:(nl:Int).toNat=nl:=by omega
     have hnh0:(nh:Int).toNat=nh:=by omega
     cases mx with
     | none =>
       simp only [Ar.std,hnl0,hnh0] at h;refine a0c hgd h (by simp [hop]) (AV.free_place rfl) ?_;intro G a w R;have hr:=a2M hg hl R;rcases hr.slice with ⟨rfl,oa,hv⟩ | ⟨b,off,cap,hv⟩
       ·refine ⟨_,key G a w R oa 0 0 (by simpa using hv) (by simpa using hnh) (by omega) (.inl ⟨rfl,rfl⟩),fun d => .d _ _ _ ?_⟩;have e1:nh=0:=by simpa using hnh
        have e2:nl=0:=by omega
        subst e1 e2;simpa using RepD.zero _ td.size oa
       rw [hv] at hr;have hcap:l.length<=cap:=by
        generalize hv':Value.slice (some ⟨b,off,none⟩) l.length cap=v at hr;cases hr with
        | nil=>simp at hv'
        | none0=>simp
        | list k l b' off' cap' vs hu hc=>simp at hv';omega
       refine ⟨_,key G a w R _ cap cap hv (by omega) (Nat.le_refl _) (.inl ⟨rfl,rfl⟩),fun d => .d _ _ _ ?_⟩;by_cases hm:cap=nl
       ·have e1:nh-nl=0:=by omega
        rw [if_pos hm,e1,show cap-nl=0 by omega];simpa using RepD.empty G.K td.size b off 0
       simp only [if_neg hm,Option.map_some,Addr.add_none];exact hr.sub hnl hnh (by omega)
     | some y =>
       simp only at h;cases hby:bound g T 0 (some y) with
       | none=>simp [hby] at h
       | some zm =>
         simp only [hby] at h;split at h
         ·rename_i hzm;simp [Ar.std] at hzm;subst hzm;simp only [Ar.std,hnl0,hnh0] at h;refine a0c hgd h (by simp [hop]) (AV.free_place rfl) ?_;intro G a w R;have hr:=a2M hg hl R;obtain ⟨kk,hey⟩:=a0D hg hby R;rcases hr.slice with ⟨rfl,oa,hv⟩ | ⟨b,off,cap,hv⟩
          ·have e1:nh=0:=by simpa using hnh
           have e2:nl=0:=by omega
           subst e1 e2;refine ⟨_,key G a w R oa 0 0 (by simpa using hv) (by omega) (by omega) (.inr ⟨y,kk,rfl,by simpa using hey⟩),fun d => .lim _ _ _ _ (by simpa using RepD.zero _ td.size oa) ?_⟩;intro aa n cap e;simp at e;omega
          rw [hv] at hr;have hcap:l.length<=cap:=by
           generalize hv':Value.slice (some ⟨b,off,none⟩) l.length cap=v at hr;cases hr with
           | nil=>simp at hv'
           | none0=>simp
           | list k l b' off' cap' vs hu hc=>simp at hv';omega
          refine ⟨_,key G a w R _ cap nh hv (Nat.le_refl _) (by omega) (.inr ⟨y,kk,rfl,hey⟩),fun d => .lim _ _ _ _ ?_ ?_⟩
          ·by_cases hm:nh=nl
           ·have e1:nh-nl=0:=by omega
            rw [if_pos hm,e1];simpa using RepD.empty G.K td.size b off 0
           simp only [if_neg hm,Option.map_some,Addr.add_none];exact hr.sub hnl hnh (Nat.le_refl _)
          intro aa n cap' e;simp at e;omega
         simp at h
    simp at h
   simp at h
  simp at h
 split at h
 ·rename_i sz m e zc cs ht hA;split at h
  ·rename_i td hte;split at h
   ·rename_i hb;obtain ⟨hb1,hb2,hb3⟩:=hb;refine a0c hgd h (by simp [hop]) (AV.free_place rfl) ?_;intro G a w R;obtain ⟨b,off,vs,hp,hK,h1,hh⟩:=a2L hg R hA;have hone : ∀ (l:List D),l.all D.isOne=true->a0k 1 l/\D.flat l=l:=by
     intro l
     induction l with
     | nil=>intro _;exact ⟨fun x hx=>by simp at hx,rfl⟩
     | cons y r ih =>
       intro hl;simp only [List.all_cons,zp4] at hl;obtain ⟨i1,i2⟩:=ih hl.2;have hy:y.cells=[y]:=by cases y <;> first | rfl | (simp [D.isOne] at hl)
       refine ⟨fun x hx => ?_,by unfold D.flat at i2 ⊢;rw [List.flatMap_cons,hy,i2];rfl⟩;rcases List.mem_cons.1 hx with rfl | hx
       ·rw [hy];rfl
       exact i1 x hx
    obtain ⟨u1,u2⟩:=hone (cs.take m) hb3;have hl:(cs.take m).length=m:=by simp;omega
    refine ⟨.slice (some ⟨b,off,none⟩) m m,?_,fun d => .d _ _ _ ?_⟩
    ·have e1 : ∀ q:Nat,({ block:=b,off:=off,spot:=none }:Addr).add (q*0)=⟨b,off,none⟩:=fun q=>by rw [Nat.mul_zero];rfl
     simp [execOp,hop,hp,Instr.sliceAt,Go.underlying,hT.array ht,Instr.sureAddr,Instr.sliceBounds,hT.size hte]
     try (intro;rfl)
    have:=RepD.list (K:=G.K) 1 (cs.take m) b off m vs u1 (by omega) (by rw [u2,hl];exact fun j hj=>hK j (by omega)) (by rw [u2,hl];exact fun j hj=>h1 j (by omega))
     (by simp only [u2];intro j hj;rw [List.getElem_take];exact hh j (by rw [hl] at hj;omega))
    rwa [hl] at this
   simp at h
  simp at h
 simp at h
end
def Gh.move (G:Gh) (ℓ ℓ':Loc):Gh :=
 { G with O:=fun b=>match G.O b with
     | some (x,f)=>some (if x=ℓ then ℓ' else x,f)
     | none=>none }
theorem b2T {G:Gh} {ℓ ℓ':Loc} {b:Nat} {x:Loc} {f:Nat} (h:(G.move ℓ ℓ').O b=some (x,f)) : ∃ y,G.O b=some (y,f)/\x=if y=ℓ then ℓ' else y:=by
 simp only [Gh.move] at h;split at h
 ·rename_i y f' hO;simp at h;obtain ⟨h1,h2⟩:=h;exact ⟨y,by rw [hO,h2],h1.symm⟩
 simp at h
theorem Gh.move_pres (G:Gh) (w:World) (ℓ ℓ':Loc):Pres G (G.move ℓ ℓ') w w (fun x=>x≠ℓ) where
 K:=KLe.refl _
 O b x f hx hO:=by simp [Gh.move,hO,hx]
 β _ _:=rfl
 nh:=Nat.le_refl _
theorem b2k.move {G:Gh} {w:World} {ℓ ℓ':Loc} {k:Nat} {v:Value} (h:b2k G w ℓ k v):b2k (G.move ℓ ℓ') w ℓ' k v:=by
 intro a n cap hv hn;obtain ⟨f,c,e,h1,h2,h3,h4⟩:=h a n cap hv hn;exact ⟨f,c,e,by simp [Gh.move,h1],h2,h3,h4⟩
theorem Sane.move {G:Gh} (h:Sane G) {ℓ ℓ':Loc} (h0:ℓ'.root ≠ .no):Sane (G.move ℓ ℓ'):=⟨fun b x f hO=>by
 obtain ⟨y,hy,rfl⟩:=b2T hO;split
 ·exact h0
 exact h.no b y f hy⟩
theorem RelH.move {G:Gh} {H:List Obj} {w:World} (R:RelH G H w) (ℓ ℓ':Loc) (h0:ℓ'.root ≠ .no)
  (ho : ∀ (i:Nat) (ob:Obj),H[i]?=some ob->a2c (G.move ℓ ℓ') w i ob):RelH (G.move ℓ ℓ') H w where
 sane:=R.sane.move h0
 nh:=R.nh
 objs:=ho
 kept:=R.kept
 disj b x f hO:=by
  obtain ⟨y,hy,rfl⟩:=b2T hO;exact R.disj b y f hy
theorem Ext.move (m:Nat) (G:Gh) (w:World) (ℓ ℓ':Loc):Ext m G w (G.move ℓ ℓ') w where
 K:=KLe.refl _
 new x v h := .inl h
 others b _ hO:=⟨rfl,by simp [Gh.move,hO]⟩
 size:=Nat.le_refl _
 β _ _:=rfl
 io:=⟨rfl,rfl,fun _ _=>rfl,rfl,Nat.le_refl _⟩
theorem c0g.move {G:Gh} {ds:List Deferred} {w:World} (h:c0g G ds w) {ℓ ℓ':Loc} (hl:ℓ ≠ .df):c0g (G.move ℓ ℓ') ds w :=
 ⟨h.1,fun d hd=>by
  obtain ⟨r,h1,h2,h3⟩:=h.2 d hd;exact ⟨r,h1,by simp [Gh.move,h2,Ne.symm hl],h3⟩⟩
theorem a4z {T:a0i} {an:Ann} {g:Nat->AV} {t:TypeId} {x:Operand} {v:AV} {ss:a1C} (h:taken T an g t x=some (v,ss)) :
  (ss=[]/\v.isLocal=false /\ ∀ {σ G a w},Less g σ->Rel G σ a w -> ∀ ℓ,RepV G w ℓ v (a.eval x)) \/
  ∃ s k l,x = .tmp s/\g s = .own k l/\v = .own k l/\ss=[(s,.d (.list k l))]:=by
 unfold taken at h;split at h
 ·rename_i s;split at h
  ·split at h
   ·rename_i k l hgs;simp at h;exact .inr ⟨s,k,l,rfl,hgs,h.1.symm,h.2.symm⟩
   simp at h;obtain ⟨rfl,rfl⟩:=h;exact .inl ⟨rfl,AV.copy_isLocal _,fun hg R ℓ=>(hg.rep R s).copy ℓ⟩
  simp at h;obtain ⟨rfl,rfl⟩:=h;exact .inl ⟨rfl,AV.copy_isLocal _,fun hg R ℓ=>(hg.rep R s).copy ℓ⟩
 simp at h;obtain ⟨y,hy,rfl,rfl⟩:=h;refine .inl ⟨rfl,?_,fun hg R ℓ=>(a0Y hg R hy ℓ).1⟩;cases x with
 | tmp i=>rename_i hx;exact absurd rfl (hx i)
 | const v=>exact (a6A hy ⟨fun _=>none,fun _=>none,fun _=>0,0⟩ default .no).2
 | func f=>simp [opv] at hy;subst hy;rfl
 | global k=>simp [opv] at hy
section
variable {P:Program} {T:a0i} {σ:St} {g:Nat->AV} {o:Oper} {ss:a1C} {h':Option (List Obj)} {H:List Obj} {an:Ann}
 (hg:Less g σ) (hgd : ∀ d,o.dst=some d->g d=σ.get d) (h:a0E Ar.std T an σ.n g H o=some (ss,h'))
include hg hgd h
theorem a8h {x:Operand} (hop:o.op = .move x\/o.op = .assign x):a0f P σ o ss h':=by
 have hrun : ∀ (a:Act) (w:World),(execOp a.eval o).run P w = .ok (.value (a.eval x)) w:=by
  intro a w;rcases hop with hop | hop <;> simp [execOp,hop]
 have hnd : ∀ c,o.op ≠ .defer c:=by rcases hop with hop | hop <;> simp [hop]
 have h:(match taken T an g o.type x,o.dst with
  | some (v,ss),some d=>if (decide (d<σ.n) && !(g d).isBox && !(a3Z x).contains d)=true then some (ss++[(d,v)],none) else none
  | _,_=>none)=some (ss,h'):=by
  rcases hop with hop | hop <;> (simp only [a0E,hop] at h;exact h)
 split at h
 ·rename_i v ss0 d hv hd;split at h
  ·rename_i hc;simp at hc;obtain ⟨⟨hlt,hbox⟩,hne⟩:=hc;simp at h;obtain ⟨rfl,rfl⟩:=h;rcases a4z hv with ⟨rfl,hl,hrep⟩ | ⟨s,k,l,rfl,hgs,rfl,rfl⟩
   ·refine a0c (v:=v) hgd (by simp [Am.put,hd,hlt,hbox]) hnd (AV.free_place hl) ?_;intro G a w R;exact ⟨_,hrun a w,fun d=>hrep hg R _⟩
   intro r n m G a w Q next hm R hn
   have hs:σ.get s = .own k l:=hg.eq hgs (by simp);have hsd:s≠d:=by simpa [a3Z,eq_comm] using hne
   have hrep:=R.slots s;rw [hs] at hrep;cases hrep with | own _ _ _ _ hr ht =>
   refine a0y hnd (hrun a w) (hn (G.move (.s s) (.s d)) _ _ ?_ (Ext.move m G w _ _));rw [hd];have hd':d<a.tmps.size:=by rw [R.size];exact hlt
   have hdb:(σ.get d).isBox=false:=by rw [<-hgd d hd];exact hbox
   have hpr:=G.move_pres w (.s s) (.s d);refine ⟨R.h.move _ _ (by simp [Loc.root]) ?_,by simpa [Act.put,St.upd] using R.size,?_,?_,R.df.move (by simp)⟩
   ·intro i ob hob;exact (R.h.objs i ob hob).pres R.h.sane (by rw [<-R.h.nh];exact (zp2.1 hob).1) hpr (by simp) (by simp)
   ·intro t;simp only [Act.put,a1q _ _ _ _ hd',St.upd,St.get,a0r,List.cons_append,List.nil_append,List.foldl_cons,List.foldl_nil,a0d];split
    ·rename_i e;subst e;exact .own _ _ _ _ hr ht.move
    split
    ·rename_i e;subst e;exact .d _ _ _ hr
    rename_i e1 e2;exact (R.slots t).pres R.h.sane hpr (by simp;exact fun e=>e2 e.symm) (fun _ _ _=>rfl) (fun _ _ _=>⟨rfl,by simp⟩)
   intro t r' off ht;simp only [St.upd,St.get,a0r,List.cons_append,List.nil_append,List.foldl_cons,List.foldl_nil,a0d] at ht ⊢;split at ht
   ·cases ht
   split at ht
   ·cases ht
   obtain ⟨cs,hcs⟩:=R.places t r' off ht;refine ⟨cs,?_⟩;split
   ·rename_i e;subst e;rw [hcs] at hdb;simp [AV.isBox] at hdb
   split
   ·rename_i e;subst e;rw [hcs] at hs;cases hs
   exact hcs
  simp at h
 simp at h
end
section
variable {P:Program} {T:a0i} (hT:TOk P T) {σ:St} {g:Nat->AV} {o:Oper} {ss:a1C} {h':Option (List Obj)} {H:List Obj} {an:Ann}
 (hg:Less g σ) (hgd : ∀ d,o.dst=some d->g d=σ.get d) (hH : ∀ (i:Nat) (ob:Obj),H[i]?=some ob->σ.heap[i]?=some ob) (h:a0E Ar.std T an σ.n g H o=some (ss,h'))
theorem b1Q {w:World} {b:Nat} {vs:Array Value} {e:TypeId} (hb:w.heap[b]?=some (.cells vs e (0,0))) (j:Nat):w.cell? ⟨b,j,none⟩=vs[j]?:=by
 simp [World.cell?,hb]
theorem a0V {w:World} {b:Nat} {vs:Array Value} {e:TypeId} (hb:w.heap[b]?=some (.cells vs e (0,0))) {j:Nat} (hj:j<vs.size):w.cell? ⟨b,j,none⟩=some (vs.getD j Go.undef):=by
 rw [b1Q hb];simp [Array.getD,hj]
theorem a3T {G:Gh} {a:Act} {w:World} (R:Rel G σ a w) {r:Nat} {cs:List AV} (hr:σ.get r = .lbox cs) :
  ∃ (vs:Array Value) (e:TypeId),G.O (G.β (.s r))=some (.s r,0)/\w.heap[G.β (.s r)]?=some (.cells vs e (0,0))/\vs.size=cs.length /\
    (∀ (j:Nat) (hj:j<cs.length),RepV G w (.sc r j) cs[j] (vs.getD j Go.undef))/\(∀ c∈cs,c.isCell=true)/\a.tmps.getD r Go.undef = .pointer (some ⟨G.β (.s r),0,none⟩):=by
 have:=R.slots r;rw [hr] at this;generalize hv:a.tmps.getD r Go.undef=v at this;cases this with | lbox _ _ vs e hO hw hs hh hc=>exact ⟨vs,e,hO,hw,hs,hh,hc,rfl⟩
def b2U (σ:St) (td:TD) (A:Adr) (av:AV):Prop :=
 match A with
 | .slot _ off cs=>a0O td cs off=some av
 | .obj a off => ∃ ob cs,σ.heap[a]?=some ob/\a1L ob=some cs/\a0O td cs off=some av
 | .cells cs=>a0O td (cs.map .d) 0=some av
include hT in
theorem a3C {t:TypeId} {td:TD} (ht:T t=some td) {A:Adr} {G:Gh} {a:Act} {w:World} (R:Rel G σ a w) {b off:Nat} (hA:a3t G σ A (.pointer (some ⟨b,off,none⟩))) {av:AV} (hav:b2U σ td A av) :
  ∃ v,(loadVar t ⟨b,off,none⟩).run P w = .ok v w/\av.free=true /\ ∀ ℓ,RepV G w ℓ av v:=by
 cases A with
 | slot r off' cs =>
   obtain ⟨hr,e⟩:=hA;simp at e;obtain ⟨rfl,rfl⟩:=e;obtain ⟨vs,e,hO,hw,hs,hh,hc,_⟩:=a3T R hr;have:=a1W hT ht (G:=G) (w:=w) (b:=G.β (.s r)) (o:=0) (off:=off) (cs:=cs) (vs:=fun j=>vs.getD j Go.undef)
    (fun j hj=>by rw [Nat.zero_add];exact a0V hw (by omega)) (fun j hj=>⟨_,hh j hj⟩) hc hav
   simpa using this
 | obj i off' =>
   obtain ⟨hi,e⟩:=hA;simp at e;obtain ⟨rfl,rfl⟩:=e;obtain ⟨ob,cs,hob,hcs,hav⟩:=hav;have hobj:=R.h.objs i ob hob;cases ob with
   | cells cs' =>
     simp [a1L] at hcs;subst hcs;obtain ⟨vs,e,hO,hw,hs,hh,hc⟩:=hobj;have:=a1W hT ht (G:=G) (w:=w) (b:=G.β (.o i)) (o:=0) (off:=off) (cs:=cs') (vs:=fun j=>vs.getD j Go.undef)
      (fun j hj=>by rw [Nat.zero_add];exact a0V hw (by omega)) (fun j hj=>⟨_,hh j hj⟩) hc hav
     simpa using this
   | arr k l =>
     simp [a1L] at hcs;subst hcs;obtain ⟨vs,e,hO,hw,hu,hs,h1,hh⟩:=hobj;have hcell : ∀ c∈(D.flat l).map AV.d,c.isCell=true:=a1A h1 hh;have:=a1W hT ht (G:=G) (w:=w) (b:=G.β (.o i)) (o:=0) (off:=off) (cs:=(D.flat l).map .d) (vs:=fun j=>vs.getD j Go.undef)
      (fun j hj=>by rw [Nat.zero_add];simp at hj;exact a0V hw (by omega)) (fun j hj=>⟨.no,by have:=RepV.d (G:=G) (w:=w) .no _ _ (hh j (by simpa using hj));simpa using this⟩) hcell hav
     simpa using this
   | map ag ks es=>simp [a1L] at hcs
   | dead=>simp [a1L] at hcs
   | gro k l=>simp [a1L] at hcs
   | jag k l o=>simp [a1L] at hcs
   | loop L=>simp [a1L] at hcs
 | cells cs =>
   obtain ⟨b',off',vs,e,hK,h1,hh⟩:=hA;simp at e;obtain ⟨rfl,rfl⟩:=e;have hcell : ∀ c∈cs.map AV.d,c.isCell=true:=a1A h1 hh;have:=a1W hT ht (G:=G) (w:=w) (b:=b) (o:=off) (off:=0) (cs:=cs.map .d) (vs:=vs)
    (fun j hj=>R.h.kept _ _ (hK j (by simpa using hj))) (fun j hj=>⟨.no,by have:=RepV.d (G:=G) (w:=w) .no _ _ (hh j (by simpa using hj));simpa using this⟩) hcell hav
   simpa using this
theorem b2V {x:Operand} {i off:Nat} (h:adr g x=some (.obj i off)) : ∃ j,x = .tmp j/\g j = .ptr i off:=by
 unfold adr at h;split at h
 ·rename_i j;split at h
  ·simp at h
  ·split at h <;> simp at h
  ·rename_i a b hg;simp at h;obtain ⟨rfl,rfl⟩:=h;exact ⟨j,rfl,hg⟩
  ·simp at h
  ·simp at h
  simp at h
 simp at h
include hT hg hgd hH h
theorem b2W {t:TypeId} {x:Operand} (hop:o.op = .load t x) (hHe:a0P an g o=true->H=σ.heap):a0f P σ o ss h':=by
 have hnd : ∀ c,o.op ≠ .defer c:=by simp [hop]

 have plain : ∀ (td:TD) (A:Adr) (av:AV),T t=some td->adr g x=some A->Am.put σ.n g o.dst av=some (ss,h') ->
   b2U σ td A av->a0f P σ o ss h':=by
  intro td A av ht hA hp hav r n m G a w Q next hm R hn
  have hAr:=a2L hg R hA;obtain ⟨b,off,hpt⟩:=hAr.pointer;rw [hpt] at hAr;obtain ⟨v,_,hfree,_⟩:=a3C hT ht R hAr hav;refine a0c hgd hp hnd (AV.free_place (AV.free_isLocal hfree)) ?_ r n m G a w Q next hm R hn
  intro G a w R;have hAr:=a2L hg R hA;obtain ⟨b,off,hpt⟩:=hAr.pointer;rw [hpt] at hAr;obtain ⟨v,hv,hfree,hrep⟩:=a3C hT ht R hAr hav;exact ⟨v,by simp [execOp,hop,hpt,Instr.loadAt,Instr.sureAddr,hv],fun d=>hrep _⟩
 simp only [a0E,hop] at h;split at h
 ·rename_i td r off cs ht hA;have ordinary:a5i σ.n g o.dst (a0O td cs off)=some (ss,h')->a0f P σ o ss h':=by
   intro h;obtain ⟨av,hav,hp⟩:=a1o h;exact plain td _ av ht hA hp hav
  split at h
  ·rename_i d k l hd hcs;split at h
   ·rename_i htk;simp at htk;simp only [Option.map_eq_some_iff] at h;obtain ⟨⟨ss1,h1⟩,hp,he⟩:=h;simp at he;obtain ⟨rfl,rfl⟩:=he;obtain ⟨rfl,hcase⟩:=a0G hp;rcases hcase with ⟨hdn,_⟩ | ⟨d',hd',rfl,hlt,hbox⟩
    ·rw [hd] at hdn;cases hdn
    obtain rfl:d=d':=by rw [hd] at hd';injection hd'
    intro r' n m G a w Q next hm R hn
    have hAr:=a2L hg R hA;obtain ⟨hr,hpt⟩:=hAr;obtain ⟨vs,e,hO,hw,hs,hh,hc,hat⟩:=a3T R hr;obtain ⟨hoff,hcsoff⟩:=zp2.1 hcs;have hcell:=hh off hoff;rw [hcsoff] at hcell;generalize hv:vs.getD off Go.undef=v at hcell;cases hcell with | own _ _ _ _ hrl htail =>
    have hdb:(σ.get d).isBox=false:=by rw [<-hgd d hd];exact hbox
    have hrd:r≠d:=by rintro rfl;rw [hr] at hdb;simp [AV.isBox] at hdb
    have hrun:(execOp a.eval o).run P w = .ok (.value v) w:=by
     have:w.cell? ⟨G.β (.s r),off,none⟩=some v:=by rw [<-hv];exact a0V hw (by omega)
     simp [execOp,hop,hpt,Instr.loadAt,Instr.sureAddr,loadVar,hT.isAgg ht,htk.2,this]
    refine a0y hnd hrun (hn (G.move (.sc r off) (.s d)) _ _ ?_ (Ext.move m G w _ _));rw [hd];have hd':d<a.tmps.size:=by rw [R.size];exact hlt
    have hpr:=G.move_pres w (.sc r off) (.s d);refine ⟨R.h.move _ _ (by simp [Loc.root]) ?_,by simpa [Act.put,St.upd] using R.size,?_,?_,R.df.move (by simp)⟩
    ·intro i ob hob;exact (R.h.objs i ob hob).pres R.h.sane (by rw [<-R.h.nh];exact (zp2.1 hob).1) hpr (by simp) (by simp)
    ·intro t;simp only [Act.put,a1q _ _ _ _ hd',St.upd,St.get,a0r,List.cons_append,List.nil_append,List.foldl_cons,List.foldl_nil,a0d];split
     ·rename_i e;subst e;exact .own _ _ _ _ hrl htail.move
     split
     ·rename_i e;subst e;rw [hat];refine .lbox _ _ vs e ?_ hw (by simpa using hs) (fun j hj => ?_) ?_
      ·simp only [Gh.move,hO];simp
      ·simp at hj;by_cases hjo:off=j
       ·subst hjo;simp only [List.getElem_set_self];rw [hv];exact .d _ _ _ hrl
       rw [List.getElem_set_ne hjo];exact (hh j hj).pres R.h.sane hpr (by simp;exact fun e=>hjo e.symm) (fun r' off' e=>absurd e (AV.not_place (AV.isLocal_of_isCell (hc _ (zp6 hj))) r' off')) (fun t e=>by cases e)
      intro c hcm;rcases List.mem_or_eq_of_mem_set hcm with hcm | rfl
      ·exact hc c hcm
      rfl
     exact (R.slots t).pres R.h.sane hpr (by simp) (fun _ _ _=>rfl) (fun t' e hb=>⟨rfl,by intro j;simp;rintro rfl;rename_i e1 e2;simp at e;exact absurd e.symm e2⟩)
    intro t r'' off' ht;simp only [St.upd,St.get,a0r,List.cons_append,List.nil_append,List.foldl_cons,List.foldl_nil,a0d] at ht ⊢;split at ht
    ·cases ht
    split at ht
    ·cases ht
    obtain ⟨cs',hcs'⟩:=R.places t r'' off' ht;split
    ·rename_i e;subst e;rw [hcs'] at hdb;simp [AV.isBox] at hdb
    split
    ·exact ⟨_,rfl⟩
    exact ⟨cs',hcs'⟩
   exact ordinary h
  exact ordinary h
 ·rename_i td i off ht hA;cases hHi:H[i]? with
  | none=>simp [hHi] at h
  | some ob =>
    have hob:=hH i ob hHi;have ordinary:a5i σ.n g o.dst ((a1L ob).bind (a0O td · off))=some (ss,h')->a0f P σ o ss h':=by
     intro h;obtain ⟨av,hav,hp⟩:=a1o h;obtain ⟨cs,hcs,hav⟩:=Option.bind_eq_some_iff.1 hav;exact plain td _ av ht hA hp ⟨ob,cs,hob,hcs,hav⟩
    simp only [hHi] at h;split at h
    ·rename_i cs heq;injection heq with heq
     subst heq;have ordinary:a5i σ.n g o.dst (a0O td cs off)=some (ss,h')->a0f P σ o ss h':=by
      intro h;exact ordinary (by simpa [a1L] using h)
     split at h
     ·rename_i d k l hd hcs;split at h
      ·rename_i htk;simp at htk;simp only [Option.map_eq_some_iff] at h;obtain ⟨⟨ss1,h1⟩,hp,he⟩:=h;simp at he;obtain ⟨rfl,rfl⟩:=he;obtain ⟨rfl,hcase⟩:=a0G hp;rcases hcase with ⟨hdn,_⟩ | ⟨d',hd',rfl,hlt,hbox⟩
       ·rw [hd] at hdn;cases hdn
       obtain rfl:d=d':=by rw [hd] at hd';injection hd'
       have hHσ:H=σ.heap:=by
        obtain ⟨j,rfl,hgj⟩:=b2V hA;exact hHe (by simp [a0P,hop,hgj])
       intro r' n m G a w Q next hm R hn
       have hAr:=a2L hg R hA;obtain ⟨hi,hpt⟩:=hAr;obtain ⟨vs,e,hO,hw,hs,hh,hc⟩:=R.h.objs i _ hob;obtain ⟨hoff,hcsoff⟩:=zp2.1 hcs;have hcell:=hh off hoff;rw [hcsoff] at hcell;generalize hv:vs.getD off Go.undef=v at hcell;cases hcell with | own _ _ _ _ hrl htail =>
       have hdb:(σ.get d).isBox=false:=by rw [<-hgd d hd];exact hbox
       have hrun:(execOp a.eval o).run P w = .ok (.value v) w:=by
        have:w.cell? ⟨G.β (.o i),off,none⟩=some v:=by rw [<-hv];exact a0V hw (by omega)
        simp [execOp,hop,hpt,Instr.loadAt,Instr.sureAddr,loadVar,hT.isAgg ht,htk.2,this]
       refine a0y hnd hrun (hn (G.move (.oc i off) (.s d)) _ _ ?_ (Ext.move m G w _ _));rw [hd];have hd':d<a.tmps.size:=by rw [R.size];exact hlt
       have hpr:=G.move_pres w (.oc i off) (.s d);refine ⟨?_,by simpa [Act.put,St.upd] using R.size,?_,?_,R.df.move (by simp)⟩
       ·have hmove:RelH (G.move (.oc i off) (.s d)) (σ.heap.set i (.cells (cs.set off (.d (.list k l))))) w:=by
         have key:=R.h;refine { sane:=key.sane.move (by simp [Loc.root]),nh:=by rw [List.length_set];exact key.nh,objs := ?_,kept:=key.kept,disj := ?_ }
         ·intro j ob hj;by_cases hij:i=j
          ·subst hij;rw [List.getElem?_set_self (by exact (zp2.1 hob).1)] at hj;injection hj with hj;subst hj
           refine ⟨vs,e,by simp only [Gh.move,hO];simp,hw,by simpa using hs,fun j hj => ?_,?_⟩
           ·simp at hj;by_cases hjo:off=j
            ·subst hjo;simp only [List.getElem_set_self];rw [hv];exact .d _ _ _ hrl
            rw [List.getElem_set_ne hjo];exact (hh j hj).pres R.h.sane hpr (by simp;exact fun e=>hjo e.symm) (fun r' off' e=>absurd e (AV.not_place (AV.isLocal_of_isCell (hc _ (zp6 hj))) r' off')) (fun t e=>by cases e)
           intro c hcm;rcases List.mem_or_eq_of_mem_set hcm with hcm | rfl
           ·exact hc c hcm
           rfl
          rw [List.getElem?_set_ne hij] at hj;exact (key.objs j ob hj).pres key.sane (by rw [<-key.nh];exact (zp2.1 hj).1) hpr (by simp) (by intro j';simp;rintro rfl;exact absurd rfl hij)
         intro b x f hO;obtain ⟨y,hy,rfl⟩:=b2T hO;exact key.disj b y f hy
        simpa [St.upd,hHσ] using hmove
       ·intro t;simp only [Act.put,a1q _ _ _ _ hd',St.upd,St.get,a0r,List.foldl_cons,List.foldl_nil,a0d];split
        ·rename_i e;subst e;exact .own _ _ _ _ hrl htail.move
        exact (R.slots t).pres R.h.sane hpr (by simp) (fun _ _ _=>rfl) (fun t' e hb=>⟨rfl,by simp⟩)
       intro t r'' off' ht;simp only [St.upd,St.get,a0r,List.foldl_cons,List.foldl_nil,a0d] at ht ⊢;split at ht
       ·cases ht
       obtain ⟨cs',hcs'⟩:=R.places t r'' off' ht;split
       ·rename_i e;subst e;rw [hcs'] at hdb;simp [AV.isBox] at hdb
       exact ⟨cs',hcs'⟩
      exact ordinary h
     exact ordinary h
    ·rename_i ob' hnc heq;injection heq with heq
     subst heq;exact ordinary h
    rename_i heq;cases heq
 ·rename_i td cs ht hA;obtain ⟨av,hav,hp⟩:=a1o h;exact plain td _ av ht hA hp hav
 simp at h
end
def Gh.own (G:Gh) (b:Nat) (ℓ:Loc) (f:Nat):Gh:={ G with O:=fun x=>if x=b then some (ℓ,f) else G.O x }
def Gh.at (G:Gh) (r:Root) (b:Nat):Gh:={ G with β:=fun x=>if x=r then b else G.β x }
theorem a0o {w:World} {o:Go.Obj} {b:Nat} (hb:b<w.heap.size):(w.alloc o).heap[b]?=w.heap[b]?:=by
 show (w.heap.push o)[b]?=_;rw [Array.getElem?_push,if_neg (Nat.ne_of_lt hb)]
theorem heap_alloc_new {w:World} {o:Go.Obj}:(w.alloc o).heap[w.heap.size]?=some o:=by
 show (w.heap.push o)[w.heap.size]?=_;simp
theorem a1E {w:World} {o:Go.Obj} {x:Addr} {v:Value} (h:w.cell? x=some v):(w.alloc o).cell? x=some v:=by
 have:=World.block_lt_of_cell? w _ h;unfold World.cell? at *
 rwa [a0o this]
theorem frozen?_alloc_new (w:World) (o:Go.Obj) (ho : ∀ c t f,o = .cells c t f->f=(0,0)) (a:Addr):(w.alloc o).frozen? a=w.frozen? a:=by
 unfold World.frozen?;by_cases h:a.block<w.heap.size
 ·rw [a0o h]
 rw [show w.heap[a.block]?=none by simp;omega];by_cases h2:a.block=w.heap.size
 ·rw [h2,heap_alloc_new];cases o with
  | cells c t f=>obtain rfl:=ho _ _ _ rfl;simp
  | _=>rfl
 rw [show (w.alloc o).heap[a.block]?=none by simp;omega]
theorem Ext.alloc {m:Nat} {G:Gh} {w:World} {o:Go.Obj} {G':Gh} (hK:KLe G.K G'.K) (hn : ∀ x v,G'.K x=some v->G.K x=some v\/w.heap.size<=x.block)
  (hO : ∀ b,b<w.heap.size->G.O b=none->G'.O b=none) (hβ : ∀ i,i<m->G'.β (.o i)=G.β (.o i)) (hf : ∀ a,(w.alloc o).frozen? a=w.frozen? a):Ext m G w G' (w.alloc o) where
 K:=hK
 new x v h:=(hn x v h).imp id .inr
 others b hb h:=⟨a0o hb,hO b hb h⟩
 size:=by simp
 β:=hβ
 io:=⟨rfl,rfl,fun a _=>hf a,rfl,Nat.le_refl _⟩
section
variable {P:Program} {σ:St} {g:Nat->AV} {o:Oper}
theorem a4e {cs:List AV} {d:Nat} (hdst:o.dst=some d) (hlt:d<σ.n) (hun:σ.get d = .undef) (hnd : ∀ c,o.op ≠ .defer c) (hc : ∀ c∈cs,c.isCell=true)
  (hrun : ∀ G a w,Rel G σ a w -> ∃ (vs:Array Value) (e:TypeId),(execOp a.eval o).run P w = .ok (.value (.pointer (some ⟨w.heap.size,0,none⟩))) (w.alloc (.cells vs e))/\vs.size=cs.length /\
   ∀ (j:Nat) (hj:j<cs.length) (ℓ:Loc),RepV G w ℓ cs[j] (vs.getD j Go.undef)):a0f P σ o [(d,.lbox cs)] none:=by
 intro r n m G a w Q next hm R hn
 obtain ⟨vs,e,hr,hs,hrep⟩:=hrun G a w R;have hb:w.heap.size=w.heap.size:=rfl;let G':=(G.own w.heap.size (.s d) 0).at (.s d) w.heap.size;have hOold : ∀ b x f,G.O b=some (x,f)->G'.O b=some (x,f):=by
  intro b x f h;have:=(R.h.disj b x f h).1;simp [G',Gh.own,Gh.at,Nat.ne_of_lt this,h]
 have hpr:Pres G G' w (w.alloc (.cells vs e)) (fun _=>True):=by
  refine ⟨KLe.refl _,fun b x f _ h=>⟨hOold b x f h,a0o (R.h.disj b x f h).1⟩,fun i _=>by simp [G',Gh.own,Gh.at],Nat.le_refl _⟩
 refine a0y hnd hr (hn G' _ _ ?_ (Ext.alloc (KLe.refl _) (fun x v h => .inl h) (fun b hb h=>by simp [G',Gh.own,Gh.at,Nat.ne_of_lt hb,h]) (fun i _=>by simp [G',Gh.own,Gh.at]) (frozen?_alloc_new _ _ (fun _ _ _ e=>by cases e;rfl))));rw [hdst];have hd':d<a.tmps.size:=by rw [R.size];exact hlt
 have hnopl : ∀ t off,σ.get t ≠ .place d off:=by
  intro t off e;obtain ⟨cs,h⟩:=R.places t d off e;rw [hun] at h;cases h
 refine ⟨⟨⟨fun b x f h => ?_⟩,R.h.nh,fun i ob hob => ?_,fun x v h=>a1E (R.h.kept x v h),fun b x f h => ?_⟩,by simpa [Act.put,St.upd] using R.size,?_,?_,?_⟩
 ·simp only [G',Gh.own,Gh.at] at h;split at h
  ·simp at h;rw [<-h.1];simp [Loc.root]
  exact R.h.sane.no b x f h
 ·exact (R.h.objs i ob hob).pres R.h.sane (by rw [<-R.h.nh];exact (zp2.1 hob).1) hpr trivial (fun _=>trivial)
 ·simp only [G',Gh.own,Gh.at] at h;split at h
  ·rename_i hbe;subst hbe;simp at h;refine ⟨by simp,fun j _ => ?_⟩;cases hK:G.K ⟨w.heap.size,j,none⟩ with
   | none=>simpa [G',Gh.own,Gh.at] using hK
   | some v=>exact absurd (World.block_lt_of_cell? w _ (R.h.kept _ _ hK)) (by simp)
  have:=R.h.disj b x f h;exact ⟨by simp;omega,this.2⟩
 ·intro t;simp only [Act.put,a1q _ _ _ _ hd',St.upd,St.get,a0r,List.foldl_cons,List.foldl_nil,a0d];split
  ·rename_i e';subst e';have hβ:G'.β (.s d)=w.heap.size:=by simp [G',Gh.at]
   have:=RepV.lbox (G:=G') (w:=w.alloc (.cells vs e)) d cs vs e (by rw [hβ];simp [G',Gh.own,Gh.at]) (by rw [hβ];exact heap_alloc_new) hs
    (fun j hj=>(hrep j hj (.sc d j)).pres R.h.sane hpr trivial (fun r' off' e=>absurd e (AV.not_place (AV.isLocal_of_isCell (hc _ (zp6 hj))) r' off')) (fun t e=>by cases e)) hc
   rwa [hβ] at this
  rename_i hne;refine (R.slots t).pres R.h.sane hpr trivial (fun r' off e' => ?_) (fun t' e' hbx=>⟨?_,fun _=>trivial⟩)
  ·have:r'≠d:=by rintro rfl;exact hnopl t off e'
   simp [G',Gh.own,Gh.at,this]
  simp at e';subst e';simp [G',Gh.own,Gh.at,Ne.symm hne]
 ·intro t r'' off' ht;simp only [St.upd,St.get,a0r,List.foldl_cons,List.foldl_nil,a0d] at ht ⊢;split at ht
  ·cases ht
  obtain ⟨cs',hcs'⟩:=R.places t r'' off' ht;split
  ·exact ⟨_,rfl⟩
  exact ⟨cs',hcs'⟩
 refine ⟨R.df.1,fun x hx => ?_⟩;obtain ⟨r0,h1,h2,h3⟩:=R.df.2 x hx;exact ⟨r0,h1,hOold _ _ _ h2,by rw [a0o (R.h.disj _ _ _ h2).1];exact h3⟩
theorem a5A {cs:List AV} {d:Nat} (hdst:o.dst=some d) (hlt:d<σ.n) (hun:σ.get d = .undef) (hnd : ∀ c,o.op ≠ .defer c) (hc : ∀ c∈cs,c.isCell=true)
  (hrun : ∀ G a w,Rel G σ a w -> ∃ (vs:Array Value) (e:TypeId),(execOp a.eval o).run P w = .ok (.value (.pointer (some ⟨w.heap.size,0,none⟩))) (w.alloc (.cells vs e))/\vs.size=cs.length /\
   ∀ (j:Nat) (hj:j<cs.length) (ℓ:Loc),RepV G w ℓ cs[j] (vs.getD j Go.undef)):a0f P σ o [(d,.ptr σ.heap.length 0)] (some (σ.heap++[.cells cs])):=by
 intro r n m G a w Q next hm R hn
 obtain ⟨vs,e,hr,hs,hrep⟩:=hrun G a w R;let G':Gh:={ (G.own w.heap.size (.o G.nh) 0).at (.o G.nh) w.heap.size with nh:=G.nh+1 }
 have hOold : ∀ b x f,G.O b=some (x,f)->G'.O b=some (x,f):=by
  intro b x f h;have:=(R.h.disj b x f h).1;simp [G',Gh.own,Gh.at,Nat.ne_of_lt this,h]
 have hβold : ∀ i,i<G.nh->G'.β (.o i)=G.β (.o i):=by
  intro i hi;simp [G',Gh.own,Gh.at,Nat.ne_of_lt hi]
 have hpr:Pres G G' w (w.alloc (.cells vs e)) (fun _=>True) :=
  ⟨KLe.refl _,fun b x f _ h=>⟨hOold b x f h,a0o (R.h.disj b x f h).1⟩,hβold,Nat.le_succ _⟩
 refine a0y hnd hr (hn G' _ _ ?_ (Ext.alloc (KLe.refl _) (fun x v h => .inl h) (fun b hb h=>by simp [G',Gh.own,Gh.at,Nat.ne_of_lt hb,h]) (fun i hi=>hβold i (by omega)) (frozen?_alloc_new _ _ (fun _ _ _ e=>by cases e;rfl))));rw [hdst];have hd':d<a.tmps.size:=by rw [R.size];exact hlt
 have hnopl : ∀ t off,σ.get t ≠ .place d off:=by
  intro t off e;obtain ⟨cs,h⟩:=R.places t d off e;rw [hun] at h;cases h
 have hβn:G'.β (.o G.nh)=w.heap.size:=by simp [G',Gh.at]
 refine ⟨⟨⟨fun b x f h => ?_⟩,?_,fun i ob hob => ?_,fun x v h=>a1E (R.h.kept x v h),fun b x f h => ?_⟩,by simpa [Act.put,St.upd] using R.size,?_,?_,?_⟩
 ·simp only [G',Gh.own,Gh.at] at h;split at h
  ·simp at h;rw [<-h.1];simp [Loc.root]
  exact R.h.sane.no b x f h
 ·simp [St.upd,G',R.h.nh]
 ·simp only [St.upd,Option.getD_some] at hob;rcases Nat.lt_or_ge i σ.heap.length with hi | hi
  ·rw [zp7 hi] at hob;exact (R.h.objs i ob hob).pres R.h.sane (by rw [<-R.h.nh];exact hi) hpr trivial (fun _=>trivial)
  have hi':i=σ.heap.length:=by
   have:=(zp2.1 hob).1;simp at this;omega
  subst hi';simp at hob;subst hob;rw [R.h.nh]
  exact ⟨vs,e,by rw [hβn];simp [G',Gh.own,Gh.at],by rw [hβn];exact heap_alloc_new,hs,
   fun j hj=>(hrep j hj _).pres R.h.sane hpr trivial (fun r' off' e=>absurd e (AV.not_place (AV.isLocal_of_isCell (hc _ (zp6 hj))) r' off')) (fun t e=>by cases e),hc⟩
 ·simp only [G',Gh.own,Gh.at] at h;split at h
  ·rename_i hbe;subst hbe;simp at h;refine ⟨by simp,fun j _ => ?_⟩;cases hK:G.K ⟨w.heap.size,j,none⟩ with
   | none=>simpa [G',Gh.own,Gh.at] using hK
   | some v=>exact absurd (World.block_lt_of_cell? w _ (R.h.kept _ _ hK)) (by simp)
  have:=R.h.disj b x f h;exact ⟨by simp;omega,this.2⟩
 ·intro t;simp only [Act.put,a1q _ _ _ _ hd',St.upd,St.get,a0r,List.foldl_cons,List.foldl_nil,a0d];split
  ·rename_i e';subst e';have:=RepV.ptr (G:=G') (w:=w.alloc (.cells vs e)) (.s d) G.nh 0 (by simp [G']);rw [hβn] at this;rw [R.h.nh];exact this
  refine (R.slots t).pres R.h.sane hpr trivial (fun r' off e'=>by simp [G',Gh.own,Gh.at]) (fun t' e' hbx=>⟨by simp [G',Gh.own,Gh.at],fun _=>trivial⟩)
 ·intro t r'' off' ht;simp only [St.upd,St.get,a0r,List.foldl_cons,List.foldl_nil,a0d] at ht ⊢;split at ht
  ·cases ht
  obtain ⟨cs',hcs'⟩:=R.places t r'' off' ht;split
  ·rename_i e;subst e;exact absurd ht (hnopl t off')
  exact ⟨cs',hcs'⟩
 refine ⟨R.df.1,fun x hx => ?_⟩;obtain ⟨r0,h1,h2,h3⟩:=R.df.2 x hx;exact ⟨r0,h1,hOold _ _ _ h2,by rw [a0o (R.h.disj _ _ _ h2).1];exact h3⟩
end
theorem AV.undef_of {c:AV} (h:c.isUndef=true):c = .undef:=by cases c <;> first | rfl | (simp [AV.isUndef] at h)
theorem a1Y {G:Gh} {w:World} {c:AV} {v:Value} (h : ∀ ℓ,RepV G w ℓ c v) (hl:c.isLocal=false) (hc : ∀ x∈c.cells,x.isCell=true) :
  v.cells.size=c.cells.length /\ ∀ (i:Nat) (hi:i<c.cells.length) (ℓ:Loc),RepV G w ℓ c.cells[i] (v.cells.getD i Go.undef):=by
 by_cases hf:c.free=true
 ·refine (h .no).cells hf ?_ ?_
  ·rintro rfl;simp [AV.cells,AV.isCell] at hc
  rintro l rfl;simp [AV.cells,AV.isCell] at hc
 cases c <;> first | (simp [AV.free] at hf;done) | (simp [AV.isLocal] at hl;done) | skip
 all_goals
 rename_i k l;have hv:v.cells = #[v]:=by
  have:=h .no;cases this;rename_i hr
  first
   | (cases hr <;> rfl;done)
   | (obtain ⟨p,cap,rfl,_⟩:=hr;rfl)
 refine ⟨by rw [hv];rfl,fun i hi ℓ => ?_⟩;have:i=0:=by simpa [AV.cells] using hi
 subst this;simpa [AV.cells,hv] using h ℓ
section
variable {P:Program} {T:a0i} (hT:TOk P T) {σ:St} {g:Nat->AV} {o:Oper} {ss:a1C} {h':Option (List Obj)} {H:List Obj} {an:Ann}
 (hg:Less g σ) (hgd : ∀ d,o.dst=some d->g d=σ.get d) (hHe:a0P an g o=true->H=σ.heap) (h:a0E Ar.std T an σ.n g H o=some (ss,h'))
include hT hg hgd hHe h
theorem b1R {t:TypeId} (hop:o.op = .alloc t):a0f P σ o ss h':=by
 simp only [a0E,hop] at h;split at h
 ·rename_i td d ht hd;split at h
  ·rename_i hc;simp at hc;have hun:σ.get d = .undef:=by rw [<-hgd d hd];exact AV.undef_of hc.2
   obtain ⟨i,dd,hi,hdd,hsz,_,huok,z,hz,hzs,hzl,hzc⟩:=hT.info ht;have hcell : ∀ c∈td.zero,c.isCell=true:=by
    intro c hcm;obtain ⟨j,hj,rfl⟩:=List.mem_iff_getElem.1 hcm;exact (a1v (hzc j hj)).2.1
   have hrun : ∀ G a w,Rel G σ a w -> ∃ (vs:Array Value) (e:TypeId),(execOp a.eval o).run P w = .ok (.value (.pointer (some ⟨w.heap.size,0,none⟩))) (w.alloc (.cells vs e))/\vs.size=td.zero.length /\
     ∀ (j:Nat) (hj:j<td.zero.length) (ℓ:Loc),RepV G w ℓ td.zero[j] (vs.getD j Go.undef):=by
    intro G a w R;refine ⟨z.cells,t,?_,by omega,fun j hj ℓ=>(a1v (hzc j hj)).1 G w ℓ⟩;simp [execOp,hop,Instr.alloc,zeroValue,typeInfo,hi,hz,newVar,newRow]
   split at h
   ·rename_i hesc;have hHσ:H=σ.heap:=hHe (by simp [a0P,hop,hd];left;simpa using hesc);simp at h;obtain ⟨rfl,rfl⟩:=h;rw [hHσ];exact a5A hd hc.1 hun (by simp [hop]) hcell hrun
   simp at h;obtain ⟨rfl,rfl⟩:=h;exact a4e hd hc.1 hun (by simp [hop]) hcell hrun
  simp at h
 simp at h
theorem b5j {t:TypeId} {x:Operand} (hop:o.op = .box t x):a0f P σ o ss h':=by
 simp only [a0E,hop] at h;split at h
 ·rename_i td v d ht hv hd;split at h
  ·rename_i hc;simp at hc;obtain ⟨⟨⟨hlt,hu⟩,hlen⟩,hcell⟩:=hc;have hun:σ.get d = .undef:=by rw [<-hgd d hd];exact AV.undef_of hu
   have hrun : ∀ G a w,Rel G σ a w -> ∃ (vs:Array Value) (e:TypeId),(execOp a.eval o).run P w = .ok (.value (.pointer (some ⟨w.heap.size,0,none⟩))) (w.alloc (.cells vs e))/\vs.size=(v.cells.map AV.unlim).length /\
     ∀ (j:Nat) (hj:j<(v.cells.map AV.unlim).length) (ℓ:Loc),RepV G w ℓ (v.cells.map AV.unlim)[j] (vs.getD j Go.undef):=by
    intro G a w R;have hv':=fun ℓ=>a0Y hg R hv ℓ;obtain ⟨h1,h2⟩:=a1Y (fun ℓ=>(hv' ℓ).1) (hv' .no).2 hcell;exact ⟨(a.eval x).cells,t,by simp [execOp,hop,Instr.box,newVar,newRow],by rw [a2K];exact h1,fun j hj ℓ=>by rw [List.getElem_map];exact (h2 j (by simpa using hj) ℓ).unlim⟩
   split at h
   ·rename_i hesc;have hHσ:H=σ.heap:=hHe (by simp [a0P,hop,hd];left;simpa using hesc);simp at h;obtain ⟨rfl,rfl⟩:=h;rw [hHσ];exact a5A hd hlt hun (by simp [hop]) (unlim_isCell hcell) hrun
   simp at h;obtain ⟨rfl,rfl⟩:=h;exact a4e hd hlt hun (by simp [hop]) (unlim_isCell hcell) hrun
  simp at h
 simp at h
end
theorem a2N {α:Type} (l nv:List α) (off j:Nat) (h:off+nv.length<=l.length) :
  (l.take off++nv++l.drop (off+nv.length))[j]?=if j<off then l[j]? else if j<off+nv.length then nv[j-off]? else l[j]?:=by
 have h1:(l.take off).length=off:=by simp;omega
 by_cases hj:j<off
 ·rw [if_pos hj,List.append_assoc,zp7 (by omega),List.getElem?_take_of_lt hj]
 rw [if_neg hj];by_cases hj2:j<off+nv.length
 ·rw [if_pos hj2,List.append_assoc,zp8 (by omega),h1,zp7 (by omega)]
 rw [if_neg hj2,zp8 (by simp;omega),List.getElem?_drop];congr 1;simp;omega
theorem a2d {α:Type} (l nv:List α) (off:Nat) (h:off+nv.length<=l.length):(l.take off++nv++l.drop (off+nv.length)).length=l.length:=by
 simp;omega
def rowOf (cur:Array Value) (off:Nat) (vs:List Value):Array Value:=(cur.toList.take off++vs++cur.toList.drop (off+vs.length)).toArray
theorem a0X {cur:Array Value} {off:Nat} {vs:List Value} (h:off+vs.length<=cur.size):(rowOf cur off vs).size=cur.size:=by
 simp [rowOf];omega
theorem a1x {cur:Array Value} {off:Nat} {vs:List Value} (h:off+vs.length<=cur.size) (j:Nat) :
  (rowOf cur off vs).getD j Go.undef=if j<off then cur.getD j Go.undef else if j<off+vs.length then vs.getD (j-off) Go.undef else cur.getD j Go.undef:=by
 have:=a2N cur.toList vs off j (by simpa using h);simp only [rowOf,zp5,List.getElem?_toArray,this];split
 ·simp
 split
 ·simp [List.getD]
 simp
theorem written {G':Gh} {w':World} {cs nv:List AV} {cur:Array Value} {vs:List Value} {off:Nat} {L:Nat->Loc} (hs:cur.size=cs.length) (hoff:off+nv.length<=cs.length) (hlen:vs.length=nv.length)
  (hold : ∀ (j:Nat) (hj:j<cs.length),RepV G' w' (L j) cs[j] (cur.getD j Go.undef)) (hnew : ∀ (j:Nat) (hj:j<nv.length),RepV G' w' (L (off+j)) nv[j] (vs.getD j Go.undef))
  (hc : ∀ c∈cs,c.isCell=true) (hcn : ∀ c∈nv,c.isCell=true) :
  (rowOf cur off vs).size=(a0Q cs off nv).length/\(∀ (j:Nat) (hj:j<(a0Q cs off nv).length),RepV G' w' (L j) (a0Q cs off nv)[j] ((rowOf cur off vs).getD j Go.undef)) /\ ∀ c∈a0Q cs off nv,c.isCell=true:=by
 have hl:(a0Q cs off nv).length=cs.length:=a2d _ _ _ hoff;refine ⟨by rw [a0X (by omega),hl,hs],fun j hj => ?_,?_⟩
 ·rw [a1x (by omega)];have e:=a2N cs nv off j hoff;have hj':j<cs.length:=by omega
  have e2:(a0Q cs off nv)[j]?=some (a0Q cs off nv)[j]:=zp1 hj;rw [show (a0Q cs off nv)[j]?=_ from e] at e2;split
  ·rename_i h1;rw [if_pos h1,zp1 hj'] at e2;injection e2 with e2
   rw [<-e2];exact hold j hj'
  rename_i h1;rw [if_neg h1] at e2;split
  ·rename_i h2;rw [if_pos (by omega),zp1 (by omega)] at e2;injection e2 with e2
   rw [<-e2];have:=hnew (j-off) (by omega)
   rwa [show off+(j-off)=j by omega] at this
  rename_i h2;rw [if_neg (by omega),zp1 hj'] at e2;injection e2 with e2
  rw [<-e2];exact hold j hj'
 intro c hcm;unfold a0Q at hcm;rcases List.mem_append.1 hcm with hcm | hcm
 ·rcases List.mem_append.1 hcm with hcm | hcm
  ·exact hc c (List.mem_of_mem_take hcm)
  exact hcn c hcm
 exact hc c (List.mem_of_mem_drop hcm)
theorem a2Y {G:Gh} {w:World} {b:Nat} {ℓ:Loc} (hO:G.O b=some (ℓ,0)) (row:Array Value):Pres G G w (w.setRow b row) (fun x=>x≠ℓ) :=
 ⟨KLe.refl _,fun b' x f hx h=>⟨h,setRow_other _ _ _ _ (by rintro rfl;rw [hO] at h;simp at h;exact hx h.1.symm)⟩,fun _ _=>rfl,Nat.le_refl _⟩
theorem a2t (w:World) (b:Nat) (row:Array Value) (a:Addr):(w.setRow b row).frozen? a=w.frozen? a:=by
 unfold World.frozen?;by_cases h:a.block=b
 ·subst h;cases hw:w.heap[a.block]? with
  | none=>simp [World.setRow,Array.getElem?_modify,hw]
  | some o=>cases o <;> simp [World.setRow,Array.getElem?_modify,hw]
 rw [setRow_other _ _ _ _ h]
theorem Ext.setRow {m:Nat} {G:Gh} {w:World} {b:Nat} {p:Loc×Nat} (hO:G.O b=some p) (row:Array Value):Ext m G w G (w.setRow b row) where
 K:=KLe.refl _
 new x v h := .inl h
 others b' _ h:=⟨setRow_other _ _ _ _ (by rintro rfl;rw [hO] at h;cases h),h⟩
 size:=by simp
 β _ _:=rfl
 io:=⟨rfl,rfl,fun a _=>a2t _ _ _ a,rfl,Nat.le_refl _⟩
theorem a2Z {G:Gh} {w:World} {b:Nat} {ℓ:Loc} (hk : ∀ x v,G.K x=some v->w.cell? x=some v) (hd : ∀ j,G.K ⟨b,j,none⟩=none) (hO:G.O b=some (ℓ,0)) (row:Array Value) :
  ∀ x v,G.K x=some v->(w.setRow b row).cell? x=some v:=by
 intro x v h;have hx:=hk x v h;have hne:x.block≠b:=by
  rintro rfl;have hspot:x.spot=none:=by
   unfold World.cell? at hx;split at hx
   ·split at hx
    ·cases hx
    rename_i hsp;simpa using hsp
   cases hx
  obtain ⟨b,j,s⟩:=x;simp at hspot;subst hspot;rw [hd j] at h;cases h
 rw [cell_setRow_other _ _ _ _ hne];exact hx
theorem a3O {G:Gh} {σ:St} {a:Act} {w:World} (R:Rel G σ a w) {r off:Nat} {cs nv:List AV} {cur:Array Value} {vs:List Value} {e:TypeId} (hr:σ.get r = .lbox cs)
  (hw:w.heap[G.β (.s r)]?=some (.cells cur e (0,0))) (hoff:off+nv.length<=cs.length) (hlen:vs.length=nv.length)
  (hnew : ∀ (j:Nat) (hj:j<nv.length),RepV G w (.sc r (off+j)) nv[j] (vs.getD j Go.undef)) (hcn : ∀ c∈nv,c.isCell=true) :
  Rel G (σ.upd [(r,.lbox (a0Q cs off nv))] none) a (w.setRow (G.β (.s r)) (rowOf cur off vs)):=by
 obtain ⟨vs0,e0,hO,hw0,hs,hh,hc,hat⟩:=a3T R hr;rw [hw] at hw0;injection hw0 with hw0;injection hw0 with h1 h2 h3;subst h1 h2
 have hpr:=a2Y (w:=w) hO (rowOf cur off vs);have hnp : ∀ {c:AV},c.isCell=true -> ∀ r' off',c = .place r' off'->G.β (.s r')=G.β (.s r'):=fun _ _ _ _=>rfl;obtain ⟨k1,k2,k3⟩:=written (L:=fun j => .sc r j) hs hoff hlen
  (fun j hj=>(hh j hj).pres R.h.sane hpr (by simp) (fun _ _ _=>rfl) (fun t e=>by cases e))
  (fun j hj=>(hnew j hj).pres R.h.sane hpr (by simp) (fun _ _ _=>rfl) (fun t e=>by cases e)) hc hcn
 refine ⟨⟨R.h.sane,R.h.nh,fun i ob hob => ?_,a2Z R.h.kept (fun j=>(R.h.disj _ _ _ hO).2 j (Nat.zero_le _)) hO _,fun b ℓ f h => ?_⟩,by simpa [St.upd] using R.size,?_,?_,?_⟩
 ·exact (R.h.objs i ob hob).pres R.h.sane (by rw [<-R.h.nh];exact (zp2.1 hob).1) hpr (by simp) (by simp)
 ·have:=R.h.disj b ℓ f h;exact ⟨by simpa using this.1,this.2⟩
 ·intro t;simp only [St.upd,St.get,a0r,List.foldl_cons,List.foldl_nil,a0d];split
  ·rename_i e';subst e';rw [hat];exact .lbox r _ _ e hO (setRow_heap _ _ _ _ _ _ hw) k1 k2 k3
  rename_i hne;exact (R.slots t).pres R.h.sane hpr (by simp;exact fun e=>hne e.symm) (fun _ _ _=>rfl) (fun t' e' _=>⟨rfl,fun j=>by simp⟩)
 ·intro t r'' off' ht;simp only [St.upd,St.get,a0r,List.foldl_cons,List.foldl_nil,a0d] at ht ⊢;split at ht
  ·cases ht
  obtain ⟨cs',hcs'⟩:=R.places t r'' off' ht;split
  ·exact ⟨_,rfl⟩
  exact ⟨cs',hcs'⟩
 refine ⟨R.df.1,fun x hx => ?_⟩;obtain ⟨r0,h1,h2,h3⟩:=R.df.2 x hx;exact ⟨r0,h1,h2,by rw [setRow_other _ _ _ _ (by rintro rfl;rw [hO] at h2;cases h2)];exact h3⟩
theorem a2k {G:Gh} {σ:St} {a:Act} {w:World} (R:Rel G σ a w) {i off:Nat} {cs nv:List AV} {cur:Array Value} {vs:List Value} {e:TypeId} (hi:σ.heap[i]?=some (.cells cs))
  (hw:w.heap[G.β (.o i)]?=some (.cells cur e (0,0))) (hoff:off+nv.length<=cs.length) (hlen:vs.length=nv.length)
  (hnew : ∀ (j:Nat) (hj:j<nv.length),RepV G w (.oc i (off+j)) nv[j] (vs.getD j Go.undef)) (hcn : ∀ c∈nv,c.isCell=true) :
  Rel G (σ.upd [] (some (σ.heap.set i (.cells (a0Q cs off nv))))) a (w.setRow (G.β (.o i)) (rowOf cur off vs)):=by
 obtain ⟨vs0,e0,hO,hw0,hs,hh,hc⟩:=R.h.objs i _ hi;rw [hw] at hw0;injection hw0 with hw0;injection hw0 with h1 h2 h3;subst h1 h2
 have hpr:=a2Y (w:=w) hO (rowOf cur off vs);obtain ⟨k1,k2,k3⟩:=written (L:=fun j => .oc i j) hs hoff hlen
  (fun j hj=>(hh j hj).pres R.h.sane hpr (by simp) (fun _ _ _=>rfl) (fun t e=>by cases e))
  (fun j hj=>(hnew j hj).pres R.h.sane hpr (by simp) (fun _ _ _=>rfl) (fun t e=>by cases e)) hc hcn
 have hil:i<σ.heap.length:=(zp2.1 hi).1;refine ⟨⟨R.h.sane,by simpa [St.upd] using R.h.nh,fun i' ob hob => ?_,a2Z R.h.kept (fun j=>(R.h.disj _ _ _ hO).2 j (Nat.zero_le _)) hO _,fun b ℓ f h => ?_⟩,by simpa [St.upd] using R.size,?_,?_,?_⟩
 ·simp only [St.upd,Option.getD_some] at hob;by_cases hii:i=i'
  ·subst hii;rw [List.getElem?_set_self hil] at hob;injection hob with hob;subst hob
   exact ⟨_,e,hO,setRow_heap _ _ _ _ _ _ hw,k1,k2,k3⟩
  rw [List.getElem?_set_ne hii] at hob;exact (R.h.objs i' ob hob).pres R.h.sane (by rw [<-R.h.nh];exact (zp2.1 hob).1) hpr (by simp;exact fun e=>hii e.symm) (by simp)
 ·have:=R.h.disj b ℓ f h;exact ⟨by simpa using this.1,this.2⟩
 ·intro t;exact (R.slots t).pres R.h.sane hpr (by simp) (fun _ _ _=>rfl) (fun t' e' _=>⟨rfl,fun j=>by simp⟩)
 ·intro t r'' off' ht;exact R.places t r'' off' ht
 refine ⟨R.df.1,fun x hx => ?_⟩;obtain ⟨r0,h1,h2,h3⟩:=R.df.2 x hx;exact ⟨r0,h1,h2,by rw [setRow_other _ _ _ _ (by rintro rfl;rw [hO] at h2;cases h2)];exact h3⟩
theorem Rel.give {G:Gh} {σ:St} {a:Act} {w:World} (R:Rel G σ a w) {s k:Nat} {l:List D} (hs:σ.get s = .own k l) (ℓ':Loc) (h0:ℓ'.root ≠ .no) :
  Rel (G.move (.s s) ℓ') (σ.upd [(s,.d (.list k l))] none) a w/\RepV (G.move (.s s) ℓ') w ℓ' (.own k l) (a.tmps.getD s Go.undef):=by
 have hrep:=R.slots s;rw [hs] at hrep;generalize hv:a.tmps.getD s Go.undef=v at hrep;cases hrep with | own _ _ _ _ hr ht =>
 have hpr:=G.move_pres w (.s s) ℓ';refine ⟨⟨R.h.move _ _ h0 ?_,by simpa [St.upd] using R.size,?_,?_,R.df.move (by simp)⟩,.own _ _ _ _ hr ht.move⟩
 ·intro i ob hob;exact (R.h.objs i ob hob).pres R.h.sane (by rw [<-R.h.nh];exact (zp2.1 hob).1) hpr (by simp) (by simp)
 ·intro t;simp only [St.upd,St.get,a0r,List.foldl_cons,List.foldl_nil,a0d];split
  ·rename_i e;subst e;rw [hv];exact .d _ _ _ hr
  rename_i e2;exact (R.slots t).pres R.h.sane hpr (by simp;exact fun e=>e2 e.symm) (fun _ _ _=>rfl) (fun _ _ _=>⟨rfl,by simp⟩)
 intro t r' off ht;simp only [St.upd,St.get,a0r,List.foldl_cons,List.foldl_nil,a0d] at ht ⊢;split at ht
 ·cases ht
 obtain ⟨cs,hcs⟩:=R.places t r' off ht;refine ⟨cs,?_⟩;split
 ·rename_i e;subst e;rw [hcs] at hs;cases hs
 exact hcs
theorem a5B (σ:St) (s t:a1C):(σ.upd s none).upd t none=σ.upd (s++t) none:=by simp [St.upd,a0r]
theorem b0k (σ:St) (s t:a1C) (h:List Obj):(σ.upd s none).upd t (some h)=σ.upd (s++t) (some h):=by simp [St.upd,a0r]
section
variable {P:Program} {T:a0i} (hT:TOk P T) {σ:St} {g:Nat->AV} {o:Oper} {ss:a1C} {h':Option (List Obj)} {H:List Obj} {an:Ann}
 (hg:Less g σ) (hHe:a0P an g o=true->H=σ.heap) (h:a0E Ar.std T an σ.n g H o=some (ss,h'))
include hT hg hHe h
omit hg hHe h in
theorem a0Z {t:TypeId} {td:TD} (ht:T t=some td) {w:World} {b off:Nat} {cur:Array Value} {e:TypeId} {v:Value} (hw:w.heap[b]?=some (.cells cur e (0,0))) (hs:v.cells.size=td.size)
  (hoff:off+td.size<=cur.size) (h1 : ∀ x∈v.cells.toList,x.oneCell'=true):(storeVar t ⟨b,off,none⟩ v).run P w = .ok () (w.setRow b (rowOf cur off v.cells.toList)):=by
 have:=run_storeCells_at P b off e v.cells.toList 0 cur w hw (by simp;omega) h1;simp only [Nat.add_zero] at this;simp [storeVar,hT.size ht,hs,this,rowOf]
theorem b1S {t:TypeId} {x y:Operand} (hop:o.op = .store t x y):a0f P σ o ss h':=by
 have hnd : ∀ c,o.op ≠ .defer c:=by simp [hop]
 simp only [a0E,hop] at h;split at h
 ·rename_i td r off cs v ss0 ht hA hv;split at h
  ·rename_i hc;obtain ⟨hlen,hoff,hcell,hdst⟩:=hc;simp at h;obtain ⟨rfl,rfl⟩:=h;simp at hcell;intro r' n m G a w Q next hm R hn
   obtain ⟨hr,hpt⟩:=a2L hg R hA;rcases a4z hv with ⟨rfl,hl,hrep⟩ | ⟨s,k,l,rfl,hgs,rfl,rfl⟩
   ·obtain ⟨e1,e2⟩:=a1Y (fun ℓ=>hrep hg R ℓ) hl hcell;obtain ⟨cur,e,hO,hw,hs,hh,hcc,hat⟩:=a3T R hr;have hcore:=a3O R (off:=off) (nv:=v.cells.map AV.unlim) (vs:=(a.eval y).cells.toList) hr hw (by rw [a2K];omega) (by rw [a2K];simpa using e1)
     (fun j hj=>by rw [List.getElem_map];have:=(e2 j (by simpa using hj) (.sc r (off+j))).unlim;simpa [List.getD,zp5] using this) (unlim_isCell hcell)
    have hone : ∀ x∈(a.eval y).cells.toList,x.oneCell'=true:=by
     intro x hx;obtain ⟨j,hj,rfl⟩:=List.mem_iff_getElem.1 hx;have hj1:j<(a.eval y).cells.size:=by simpa using hj
     have:=(e2 j (by omega) .no).oneCell (hcell _ (zp6 _));simpa [Array.getD,hj1] using this
    have hrun:=a0Z hT ht hw (off:=off) (v:=a.eval y) (by omega) (by omega) hone;refine a1P hnd (w':=w.setRow (G.β (.s r)) (rowOf cur off (a.eval y).cells.toList)) (by simp [execOp,hop,hpt,Instr.storeAt,Instr.sureAddr,hrun]) (hn G _ _ ?_ (Ext.setRow hO _));rw [hdst];simpa [Act.put] using hcore
   have hsg:=hg.eq hgs (by simp);have hrs:r≠s:=by rintro rfl;rw [hr] at hsg;cases hsg
   obtain ⟨R1,hrep1⟩:=R.give hsg (.sc r off) (by simp [Loc.root]);have hr1:(σ.upd [(s,.d (.list k l))] none).get r = .lbox cs:=by
    simp only [St.upd,St.get,a0r,List.foldl_cons,List.foldl_nil,a0d,if_neg (Ne.symm hrs)];exact hr
   obtain ⟨cur,e,hO,hw,hs,hh,hcc,hat⟩:=a3T R1 hr1;have hval:a.eval (.tmp s)=a.tmps.getD s Go.undef:=rfl;generalize hvv:a.tmps.getD s Go.undef=vv at hrep1;have hcells:vv.cells = #[vv]:=by cases hrep1 with | own _ _ _ _ hr _=>cases hr <;> rfl
   have hsz:td.size=1:=by rw [<-hlen];rfl
   have hcore:=a3O R1 (off:=off) (nv:=[.own k l]) (vs:=[vv]) hr1 hw (by simp;omega) rfl
    (fun j hj=>by simp at hj;subst hj;simpa using hrep1) (by simp [AV.isCell])
   have hone : ∀ x∈vv.cells.toList,x.oneCell'=true:=by
    rw [hcells];simp;exact hrep1.oneCell rfl
   have hrun:=a0Z hT ht hw (off:=off) (v:=vv) (by rw [hcells];simp [hsz]) (by omega) hone;have hβ:(G.move (.s s) (.sc r off)).β=G.β:=rfl;rw [hβ] at hrun hcore hO;refine a1P hnd (w':=w.setRow (G.β (.s r)) (rowOf cur off vv.cells.toList)) (by simp [execOp,hop,hpt,Instr.storeAt,Instr.sureAddr,hval,hvv,hrun]) (hn _ _ _ ?_ ((Ext.move m G w _ _).trans (Ext.setRow hO _)));rw [hdst,hcells];rw [a5B] at hcore;simpa [Act.put,AV.cells,AV.unlim] using hcore
  simp at h
 ·rename_i td i off v ss0 ht hA hv;cases hHi:H[i]? with
  | none=>simp [hHi] at h
  | some ob =>
    simp only [hHi] at h;split at h
    ·rename_i hc;obtain ⟨hlen,hcell,hdst⟩:=hc;simp at hcell;have hHσ:H=σ.heap:=by
      obtain ⟨j,rfl,hgj⟩:=b2V hA;exact hHe (by simp [a0P,hop,hgj])
     subst hHσ;simp only [Option.map_eq_some_iff] at h;obtain ⟨ob',hob',he⟩:=h;simp at he;obtain ⟨rfl,rfl⟩:=he;cases ob with
     | cells cs =>
       simp only [a2C] at hob';split at hob'
       ·rename_i hoff;simp at hob';subst hob';intro r' n m G a w Q next hm R hn
        obtain ⟨hi,hpt⟩:=a2L hg R hA;rcases a4z hv with ⟨rfl,hl,hrep⟩ | ⟨s,k,l,rfl,hgs,rfl,rfl⟩
        ·obtain ⟨e1,e2⟩:=a1Y (fun ℓ=>hrep hg R ℓ) hl hcell;obtain ⟨cur,e,hO,hw,hs,hh,hcc⟩:=R.h.objs i _ hHi;rw [a2K] at hoff;have hcore:=a2k R (off:=off) (nv:=v.cells.map AV.unlim) (vs:=(a.eval y).cells.toList) hHi hw (by rw [a2K];omega) (by rw [a2K];simpa using e1)
          (fun j hj=>by rw [List.getElem_map];have:=(e2 j (by simpa using hj) (.oc i (off+j))).unlim;simpa [List.getD,zp5] using this) (unlim_isCell hcell)
         have hone : ∀ x∈(a.eval y).cells.toList,x.oneCell'=true:=by
          intro x hx;obtain ⟨j,hj,rfl⟩:=List.mem_iff_getElem.1 hx;have hj1:j<(a.eval y).cells.size:=by simpa using hj
          have:=(e2 j (by omega) .no).oneCell (hcell _ (zp6 _));simpa [Array.getD,hj1] using this
         have hrun:=a0Z hT ht hw (off:=off) (v:=a.eval y) (by omega) (by omega) hone;refine a1P hnd (w':=w.setRow (G.β (.o i)) (rowOf cur off (a.eval y).cells.toList)) (by simp [execOp,hop,hpt,Instr.storeAt,Instr.sureAddr,hrun]) (hn G _ _ ?_ (Ext.setRow hO _));rw [hdst];simpa [Act.put] using hcore
        have hsg:=hg.eq hgs (by simp);obtain ⟨R1,hrep1⟩:=R.give hsg (.oc i off) (by simp [Loc.root]);obtain ⟨cur,e,hO,hw,hs,hh,hcc⟩:=R1.h.objs i _ hHi;have hval:a.eval (.tmp s)=a.tmps.getD s Go.undef:=rfl;generalize hvv:a.tmps.getD s Go.undef=vv at hrep1;have hcells:vv.cells = #[vv]:=by cases hrep1 with | own _ _ _ _ hr _=>cases hr <;> rfl
        have hsz:td.size=1:=by rw [<-hlen];rfl
        have hcore:=a2k R1 (off:=off) (nv:=[.own k l]) (vs:=[vv]) hHi hw (by simpa [AV.cells] using hoff) rfl
         (fun j hj=>by simp at hj;subst hj;simpa using hrep1) (by simp [AV.isCell])
        have hone : ∀ x∈vv.cells.toList,x.oneCell'=true:=by
         rw [hcells];simp;exact hrep1.oneCell rfl
        have hrun:=a0Z hT ht hw (off:=off) (v:=vv) (by rw [hcells];simp [hsz]) (by simp [AV.cells] at hoff;omega) hone;have hβ:(G.move (.s s) (.oc i off)).β=G.β:=rfl;rw [hβ] at hrun hcore hO;refine a1P hnd (w':=w.setRow (G.β (.o i)) (rowOf cur off vv.cells.toList)) (by simp [execOp,hop,hpt,Instr.storeAt,Instr.sureAddr,hval,hvv,hrun]) (hn _ _ _ ?_ ((Ext.move m G w _ _).trans (Ext.setRow hO _)));rw [hdst,hcells];have hcore':=hcore;simp only [show (σ.upd [(s,AV.d (D.list k l))] none).heap=σ.heap from rfl] at hcore';rw [b0k] at hcore';simpa [Act.put,AV.cells,AV.unlim] using hcore'
       simp at hob'
     | arr k l=>simp [a2C] at hob'
     | loop L=>simp [a2C] at hob'
     | map ag ks es=>simp [a2C] at hob'
     | dead=>simp [a2C] at hob'
     | gro k l=>simp [a2C] at hob'
     | jag k l o=>simp [a2C] at hob'
    simp at h
 simp at h
end
end Go.Am
