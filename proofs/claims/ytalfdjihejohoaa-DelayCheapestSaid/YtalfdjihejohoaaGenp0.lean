/- Own text: Genp0. -/
import Derived.Test.YtalfdjihejohoaaAmLaw
import Derived.Test.YtalfdjihejohoaaAmLaw
import Derived.Test.YtalfdjihejohoaaAmLaw
import Derived.Test.YtalfdjihejohoaaE2H
set_option maxRecDepth 100000
set_option maxHeartbeats 2000000
set_option linter.unusedVariables false
set_option linter.unusedSimpArgs false
namespace Go.Am
noncomputable section
open Go
/-- lineal delay.between -/
def E67 (A:Ar) (c a d:Int):Option (Bool) :=
 ((
  bif (A.zle c a) then
   some (A.zle a d)
  else
   some false:Option (Bool))).bind fun b =>
 some b

/-- lineal delay.asked -/
def E98 (A:Ar) (a d:List D):Option (Int) :=
 (E20 A a).bind fun b =>
 bif b then
  (E93 A a d).bind fun c =>
  bif c then
   some 0
  else
   some 2
 else
  some 90

/--  lineal delay.fence .holds -/
def E105 (A:Ar) (c a d e g:Int):Option (Bool) :=
 ((
  bif (A.zeq c d) then
   bif (A.zle e a) then
    some (A.zlt a g)
   else
    some false
  else
   some false:Option (Bool))).bind fun b =>
 some b

/-- cmp.isNaN int  -/
def E134 (A:Ar) (a:Int):Option (Bool) :=
 some (!(A.zeq a a))

/-- cmp.Compare int  -/
def E109 (A:Ar) (a b:Int):Option (Int) :=
 (E134 A a).bind fun d =>
 (E134 A b).bind fun c =>
 bif d then
  bif c then
   some 0
  else
   some (-1)
 else
  bif c then
   some 1
  else
   bif (A.zlt a b) then
    some (-1)
   else
    bif (A.zlt b a) then
     some 1
    else
     some 0

def E139L0 (A:Ar) (c:List D):Int->Option ((Int)⊕((Unit)⊕(Int))):=fun a =>
 bif (A.zlt a (A.len c)) then
  (gt A (cI .i64) c a).bind fun b =>
  bif (A.zeq b 0) then
   some (.inl (A.wrp .i64 (A.zadd a 1)))
  else
   some (.inr (.inr b))
 else
  some (.inr (.inl ()))

/-- cmp.Or int  -/
def E139 (A:Ar) (b:List D):Option (Int) :=
 (iter (E139L0 A b) 0).bind (Sum.elim (fun _ =>
  some 0) (fun a =>
  some a))

/-- lineal delay.compare$1 -/
def E138 (A:Ar) (d e g i:Int):Option (Int) :=
 (E109 A d g).bind fun b =>
 (E109 A e i).bind fun c =>
 (E139 A [(.int .i64 b),(.int .i64 c)]).bind fun a =>
 some a

def E137L0 (A:Ar) (c d:List D):Int->Option ((Int)⊕((Unit)⊕(Int))):=fun a =>
 bif (A.zlt a (A.len c)) then
  (gt A (cG (lc (cI .i64) (l1 (cI .i64)))) c a).bind fun (e,g) =>
  bif (A.zle (A.len d) a) then
   some (.inr (.inr 1))
  else
   (gt A (cG (lc (cI .i64) (l1 (cI .i64)))) d a).bind fun (i,j) =>
   (E138 A e g i j).bind fun b =>
   bif (A.zeq b 0) then
    some (.inl (A.wrp .i64 (A.zadd a 1)))
   else
    some (.inr (.inr b))
 else
  some (.inr (.inl ()))

/-- slices.CompareFunc   lineal delay.fence   lineal delay.fence lineal delay.fence lineal delay.fence  -/
def E137 (A:Ar) (a b:List D):Option (Int) :=
 (iter (E137L0 A a b) 0).bind (Sum.elim (fun _ =>
  bif (A.zlt (A.len a) (A.len b)) then
   some (-1)
  else
   some 0) (fun c =>
  some c))

/-- lineal delay.compare -/
def E130 (A:Ar) (b c:List D):Option (Int) :=
 (E137 A b c).bind fun a =>
 some a

def E99L0 (A:Ar) (c:List D) (i:Int):(List D×Int)->Option ((List D×Int)⊕(List D)):=fun (b,a) =>
 bif (A.zlt a (A.len c)) then
  (gt A (cG (lc (cI .i64) (l1 (cI .i64)))) c a).bind fun (d,e) =>
  (nk (A.zlt a 0)).bind fun _ =>
  ((
   bif (A.zeq (A.bits .and .i64 (A.shr .i64 i a) 1) 1) then
    (ap A b [(.agg [(.int .i64 d),(.int .i64 e)])]).bind fun g =>
    some g
   else
    some b:Option (List D))).bind fun j =>
  some (.inl (j,(A.wrp .i64 (A.zadd a 1))))
 else
  some (.inr b)

def E99L1 (A:Ar) (u v g:List D):(List D×Int×Bool×Int)->Option ((List D×Int×Bool×Int)⊕(List D)):=fun (a,b,i,e) =>
 bif (A.zlt e (A.shl .i64 1 (A.len g))) then
  ((
   (iter (E99L0 A g e) ([],0)).bind (fun c =>
   (E91 A c v).bind fun k =>
   bif k then
    (E94 A u c).bind fun d =>
    ((
     bif i then
      bif (A.zlt d b) then
       some (true,true)
      else
       bif (A.zeq d b) then
        (E130 A c a).bind fun j =>
        some (true,(A.zlt j 0))
       else
        some (true,false)
     else
      some (false,true):Option (Bool×Bool))).bind fun (l,m) =>
    ((
     bif m then
      some (c,d,true)
     else
      some (a,b,l):Option (List D×Int×Bool))).bind fun (n,o,p) =>
    some (n,o,p)
   else
    some (a,b,i)):Option (List D×Int×Bool))).bind fun (q,r,s) =>
  some (.inl (q,r,s,(A.wrp .i64 (A.zadd e 1))))
 else
  some (.inr a)

/--  lineal delay.threads .cheapest -/
def E99 (A:Ar) (c d e:List D):Option (List D) :=
 (E104 A c).bind fun a =>
 (nk (A.zlt (A.len a) 0)).bind fun _ =>
 (iter (E99L1 A d e a) ([],0,false,0)).bind (fun b =>
 some b)

def E53L0 (A:Ar) (b:List D):(List D×Int)->Option ((List D×Int)⊕(List D)):=fun (c,a) =>
 bif (A.zlt a (A.len b)) then
  (gt A (cG (lc (cI .i64) (l1 (cI .i64)))) b a).bind fun (d,e) =>
  (ap A c [(.agg [(.int .i64 d),(.int .i64 e)])]).bind fun g =>
  some (.inl (g,(A.wrp .i64 (A.zadd a 1))))
 else
  some (.inr c)

/-- lineal delay.Cheapest -/
def E53 (A:Ar) (a c:List D):Option (List D×Int) :=
 (E98 A a c).bind fun b =>
 bif (A.zeq b 0) then
  (E77 A a).bind fun d =>
  (E99 A a c d).bind fun e =>
  (iter (E53L0 A e) ([],0)).bind (fun g =>
  some (g,0))
 else
  some ([],b)

def E50L0 (A:Ar) (b:List D):Int->Option ((Int)⊕((Unit)⊕(Unit))):=fun a =>
 bif (A.zlt a (A.len b)) then
  (gt A (cI .i64) b a).bind fun c =>
  ((
   bif (A.zlt c 1) then
    some true
   else
    some (A.zlt 9 c):Option (Bool))).bind fun d =>
  bif d then
   some (.inr (.inr ()))
  else
   some (.inl (A.wrp .i64 (A.zadd a 1)))
 else
  some (.inr (.inl ()))

def E50L1 (A:Ar) (e c:List D):Int->Option ((Int)⊕((Unit)⊕(Unit))):=fun a =>
 bif (A.zlt a (A.len c)) then
  (gt A (cL 1) c a).bind fun b =>
  (gt A (cL 2) e a).bind fun d =>
  bif (A.zeq (A.len b) (A.zmax (A.wrp .i64 (A.zsub (A.len d) 1)) 0)) then
   (iter (E50L0 A b) 0).bind (Sum.elim (fun _ =>
    some (.inl (A.wrp .i64 (A.zadd a 1)))) (fun _ =>
    some (.inr (.inr ()))))
  else
   some (.inr (.inr ()))
 else
  some (.inr (.inl ()))

/-- lineal linealref09.AreCosts -/
def E50 (A:Ar) (a b:List D):Option (Bool) :=
 bif (A.zeq (A.len b) (A.len a)) then
  (iter (E50L1 A a b) 0).bind (Sum.elim (fun _ =>
   some true) (fun _ =>
   some false))
 else
  some false

/-- lineal linealref09.priced -/
def E100 (A:Ar) (a d:List D):Option (Int) :=
 (E14 A a).bind fun b =>
 bif b then
  (E50 A a d).bind fun c =>
  bif c then
   some 0
  else
   some 2
 else
  some 90

def E60L0 (A:Ar) (e:Int) (c:List D):(List D×Int)->Option ((List D×Int)⊕(List D)):=fun (b,a) =>
 bif (A.zlt a (A.zmax (A.wrp .i64 (A.zsub (A.len c) 1)) 0)) then
  (ap A b [(.agg [(.int .i64 e),(.int .i64 a)])]).bind fun d =>
  some (.inl (d,(A.wrp .i64 (A.zadd a 1))))
 else
  some (.inr b)

def E60L1 (A:Ar) (c:List D):(List D×Int)->Option ((List D×Int)⊕(List D)):=fun (b,a) =>
 bif (A.zlt a (A.len c)) then
  (gt A (cL 2) c a).bind fun d =>
  (iter (E60L0 A a d) (b,0)).bind (fun e =>
  some (.inl (e,(A.wrp .i64 (A.zadd a 1)))))
 else
  some (.inr b)

/-- lineal linealref09.AllFences -/
def E60 (A:Ar) (b:List D):Option (List D) :=
 (iter (E60L1 A b) ([],0)).bind (fun a =>
 some a)

def E131L0 (A:Ar) (g i:List D):Int->Option ((Int)⊕((Unit)⊕(Bool))):=fun a =>
 ((
  bif (A.zlt a (A.len g)) then
   some (A.zlt a (A.len i))
  else
   some false:Option (Bool))).bind fun j =>
 bif j then
  (gt A (cG (lc (cI .i64) (l1 (cI .i64)))) g a).bind fun (b,d) =>
  (gt A (cG (lc (cI .i64) (l1 (cI .i64)))) i a).bind fun (c,e) =>
  bif (A.deq [(.int .i64 b),(.int .i64 d)] [(.int .i64 c),(.int .i64 e)]) then
   some (.inl (A.wrp .i64 (A.zadd a 1)))
  else
   ((
    bif (A.zlt b c) then
     some true
    else
     bif (A.zeq b c) then
      some (A.zlt d e)
     else
      some false:Option (Bool))).bind fun k =>
   some (.inr (.inr k))
 else
  some (.inr (.inl ()))

/-- lineal linealref09.earlier -/
def E131 (A:Ar) (a b:List D):Option (Bool) :=
 (iter (E131L0 A a b) 0).bind (Sum.elim (fun _ =>
  some (A.zlt (A.len a) (A.len b))) (fun c =>
  some c))

def E101L0 (A:Ar) (c:List D) (i:Int):(List D×Int)->Option ((List D×Int)⊕(List D)):=fun (b,a) =>
 bif (A.zlt a (A.len c)) then
  (gt A (cG (lc (cI .i64) (l1 (cI .i64)))) c a).bind fun (d,e) =>
  (nk (A.zlt a 0)).bind fun _ =>
  ((
   bif (A.zeq (A.bits .and .i64 (A.shr .i64 i a) 1) 1) then
    (ap A b [(.agg [(.int .i64 d),(.int .i64 e)])]).bind fun g =>
    some g
   else
    some b:Option (List D))).bind fun j =>
  some (.inl (j,(A.wrp .i64 (A.zadd a 1))))
 else
  some (.inr b)

def E101L1 (A:Ar) (i g l:List D):(List D×Int)->Option ((List D×Int)⊕(List D)):=fun (a,c) =>
 bif (A.zlt c (A.shl .i64 1 (A.len g))) then
  ((
   (iter (E101L0 A g c) ([],0)).bind (fun b =>
   (E92 A b l).bind fun j =>
   bif j then
    (E95 A i b).bind fun d =>
    (E95 A i a).bind fun e =>
    ((
     bif (A.zlt d e) then
      some true
     else
      bif (A.zeq d e) then
       (E131 A b a).bind fun k =>
       some k
      else
       some false:Option (Bool))).bind fun m =>
    ((
     bif m then
      some b
     else
      some a:Option (List D))).bind fun n =>
    some n
   else
    some a):Option (List D))).bind fun o =>
  some (.inl (o,(A.wrp .i64 (A.zadd c 1))))
 else
  some (.inr a)

/-- lineal linealref09.cheapest -/
def E101 (A:Ar) (b e:List D):Option (List D) :=
 (E60 A b).bind fun a =>
 (E83 A b).bind fun c =>
 (nk (A.zlt (A.len a) 0)).bind fun _ =>
 (iter (E101L1 A e a c) (a,0)).bind (fun d =>
 some d)

/-- lineal linealref09.Cheapest -/
def E54 (A:Ar) (b c:List D):Option (List D×Int) :=
 (E100 A b c).bind fun a =>
 bif (A.zeq a 0) then
  (E101 A b c).bind fun d =>
  some (d,0)
 else
  some ([],a)

/-- lineal delay.Least -/
def E52 (A:Ar) (a b:List D):Option (Int×Int) :=
 (E98 A a b).bind fun c =>
 bif (A.zeq c 0) then
  (E77 A a).bind fun e =>
  (E99 A a b e).bind fun g =>
  (E94 A b g).bind fun d =>
  some (d,0)
 else
  some (0,c)

/-- lineal linealref09.Least -/
def E55 (A:Ar) (c a:List D):Option (Int×Int) :=
 (E100 A c a).bind fun b =>
 bif (A.zeq b 0) then
  (E101 A c a).bind fun d =>
  (E95 A a d).bind fun e =>
  some (e,0)
 else
  some (0,b)

/-- lineal delay.Prove$1 -/
def E103 (A:Ar) (b:Int):Option (Bool) :=
 (E67 A 0 b 100).bind fun a =>
 some (!a)

def E132aL0 (A:Ar) (b:List D):Int->Option ((Int)⊕((Unit)⊕(Int))):=fun a =>
 bif (A.zlt a (A.len b)) then
  (gt A (cI .i64) b a).bind fun c =>
  (E103 A c).bind fun d =>
  bif d then
   some (.inr (.inr a))
  else
   some (.inl (A.wrp .i64 (A.zadd a 1)))
 else
  some (.inr (.inl ()))

/-- slices.IndexFunc   int int  -/
def E132a (A:Ar) (b:List D):Option (Int) :=
 (iter (E132aL0 A b) 0).bind (Sum.elim (fun _ =>
  some (-1)) (fun a =>
  some a))

/-- slices.ContainsFunc   int int  -/
def E102a (A:Ar) (b:List D):Option (Bool) :=
 (E132a A b).bind fun a =>
 some (A.zle 0 a)

def E57L0 (A:Ar) (n c:List D) (j k:Int):(Int×Int)->Option ((Int×Int)⊕(Int)):=fun (b,a) =>
 bif (A.zlt a (A.len c)) then
  (gt A (cG (lc (cI .i64) (lc (cI .i64) (l1 (cI .i64))))) c a).bind fun (d,e,g) =>
  (E105 A j k d e g).bind fun l =>
  ((
   bif l then
    (gt A (cI .i64) n a).bind fun i =>
    some (A.wrp .i64 (A.zsub b i))
   else
    some b:Option (Int))).bind fun m =>
  some (.inl (m,(A.wrp .i64 (A.zadd a 1))))
 else
  some (.inr b)

def E57L1 (A:Ar) (k l i d:List D):Int->Option ((Int)⊕((Unit)⊕(Unit))):=fun a =>
 bif (A.zlt a (A.len d)) then
  (gt A (cG (lc (cI .i64) (l1 (cI .i64)))) d a).bind fun (b,c) =>
  (gt A (cL 1) k b).bind fun e =>
  (gt A (cI .i64) e c).bind fun g =>
  (iter (E57L0 A l i b c) (g,0)).bind (fun j =>
  bif (A.zlt j 0) then
   some (.inr (.inr ()))
  else
   some (.inl (A.wrp .i64 (A.zadd a 1))))
 else
  some (.inr (.inl ()))

def E57L2 (A:Ar) (c:List D):(Int×Int)->Option ((Int×Int)⊕(Int)):=fun (b,a) =>
 bif (A.zlt a (A.len c)) then
  (gt A (cI .i64) c a).bind fun d =>
  some (.inl ((A.wrp .i64 (A.zsub b d)),(A.wrp .i64 (A.zadd a 1))))
 else
  some (.inr b)

/-- lineal delay.Prove -/
def E57 (A:Ar) (b e a:List D) (g:Int):Option (Bool×Int) :=
 (E98 A b e).bind fun c =>
 bif (A.zeq c 0) then
  (E77 A b).bind fun d =>
  ((
   bif (A.zeq (A.len a) (A.len d)) then
    (E102a A a).bind fun i =>
    bif i then
     some true
    else
     (E67 A 0 g 1000).bind fun j =>
     some (!j)
   else
    some true:Option (Bool))).bind fun m =>
  bif m then
   some (false,2)
  else
   (E104 A b).bind fun k =>
   (iter (E57L1 A e a d k) 0).bind (Sum.elim (fun _ =>
    (iter (E57L2 A a) (g,0)).bind (fun l =>
    some ((A.zle l 0),0))) (fun _ =>
    some (false,0)))
 else
  some (false,c)

/-- lineal delay.Prices$1 -/
def E108 (A:Ar) (e g:Int) (a:List D):Option (Int) :=
 (gt A (cG (lc (cI .i64) (lc (cI .i64) (l1 (cI .i64))))) a e).bind fun (k,l,c) =>
 (gt A (cG (lc (cI .i64) (lc (cI .i64) (l1 (cI .i64))))) a g).bind fun (i,j,b) =>
 (E109 A c b).bind fun d =>
 some d

def E140L0 (A:Ar) (k:Int) (l:List D):(Int×List D)->Option ((Int×List D)⊕(List D)):=fun (a,b) =>
 ((
  bif (A.zlt k a) then
   (ck (A.zle 0 a)).bind fun _ =>
   (ck (A.zlt a (A.len b))).bind fun _ =>
   (gc A (cI .i64) b (A.nat a)).bind fun d =>
   (ck (A.zle 0 (A.wrp .i64 (A.zsub a 1)))).bind fun _ =>
   (ck (A.zlt (A.wrp .i64 (A.zsub a 1)) (A.len b))).bind fun _ =>
   (gc A (cI .i64) b (A.nat (A.wrp .i64 (A.zsub a 1)))).bind fun e =>
   (E108 A d e l).bind fun i =>
   some (A.zlt i 0)
  else
   some false:Option (Bool))).bind fun j =>
 bif j then
  (ck (A.zle 0 (A.wrp .i64 (A.zsub a 1)))).bind fun _ =>
  (ck (A.zlt (A.wrp .i64 (A.zsub a 1)) (A.len b))).bind fun _ =>
  (gc A (cI .i64) b (A.nat (A.wrp .i64 (A.zsub a 1)))).bind fun c =>
  (ck (A.zle 0 a)).bind fun _ =>
  (ck (A.zlt a (A.len b))).bind fun _ =>
  (gc A (cI .i64) b (A.nat a)).bind fun g =>
  (ck (A.zle 0 a)).bind fun _ =>
  (ck (A.zlt a (A.len b))).bind fun _ =>
  (ck (A.zle 0 (A.wrp .i64 (A.zsub a 1)))).bind fun _ =>
  (ck (A.zlt (A.wrp .i64 (A.zsub a 1)) (A.len (A.lset b (A.nat a) (.int .i64 c))))).bind fun _ =>
  (gc A (cI .i64) (A.lset b (A.nat a) (.int .i64 c)) (A.nat (A.wrp .i64 (A.zsub a 1)))).bind fun m =>
  some (.inl ((A.wrp .i64 (A.zsub a 1)),(A.lset (A.lset b (A.nat a) (.int .i64 c)) (A.nat (A.wrp .i64 (A.zsub a 1))) (.int .i64 g))))
 else
  some (.inr b)

def E140L1 (A:Ar) (d e:Int) (g:List D):(Int×List D)->Option ((Int×List D)⊕(List D)):=fun (a,b) =>
 bif (A.zlt a e) then
  (iter (E140L0 A d g) (a,b)).bind (fun c =>
  some (.inl ((A.wrp .i64 (A.zadd a 1)),c)))
 else
  some (.inr b)

/-- slices.insertionSortCmpFunc int  -/
def E140 (A:Ar) (a c:Int) (d:List D) (g:List (D×D)) (e:List D):Option (List D) :=
 (iter (E140L1 A a c d) ((A.wrp .i64 (A.zadd a 1)),e)).bind (fun b =>
 some b)

def E133L0 (A:Ar) (e:Int) (g:List D) (i:List (D×D)):(Int×Int×List D)->Option ((Int×Int×List D)⊕(Int×List D)):=fun (c,a,b) =>
 bif (A.zle a e) then
  (E140 A c a g i b).bind fun d =>
  some (.inl (a,(A.wrp .i64 (A.zadd a 20)),d))
 else
  some (.inr (c,b))

def E133L1 (A:Ar) (b a:Int):Unit->Option ((Unit)⊕(Unit)):=fun () =>
 bif (A.zle (A.wrp .i64 (A.zmul 2 a)) b) then
  none
 else
  some (.inr ())

def E133L2 (A:Ar) (b:Int):Int->Option ((Int)⊕(Unit)):=fun a =>
 bif (A.zlt a b) then
  (iter (E133L1 A b a) ()).bind (fun _ =>
  bif (A.zlt (A.wrp .i64 (A.zadd 0 a)) b) then
   none
  else
   some (.inl (A.wrp .i64 (A.zmul a 2))))
 else
  some (.inr ())

/-- slices.stableCmpFunc int  -/
def E133 (A:Ar) (a:Int) (b:List D) (c:List (D×D)) (i:List D):Option (List D) :=
 (iter (E133L0 A a b c) (0,20,i)).bind (fun (e,g) =>
 (E140 A e a b c g).bind fun d =>
 (iter (E133L2 A a) 20).bind (fun _ =>
 some d))

/-- slices.SortStableFunc   int int  -/
def E107 (A:Ar) (c:List D) (d:List (D×D)) (a:List D):Option (List D) :=
 (E133 A (A.len a) c d a).bind fun b =>
 some b

def E59L0 (A:Ar) (j d:List D):(Int×List (D×D))->Option ((Int×List (D×D))⊕(List (D×D))):=fun (a,e) =>
 bif (A.zlt a (A.len d)) then
  (gt A (cG (lc (cI .i64) (l1 (cI .i64)))) d a).bind fun (b,c) =>
  (gt A (cL 1) j b).bind fun g =>
  (gt A (cI .i64) g c).bind fun i =>
  some (.inl ((A.wrp .i64 (A.zadd a 1)),(A.mput e (.agg [(.int .i64 b),(.int .i64 c)]) (.int .i64 i))))
 else
  some (.inr e)

def E59L1 (A:Ar) (d:List D):(Int×List D)->Option ((Int×List D)⊕(List D)):=fun (a,b) =>
 bif (A.zlt a (A.len d)) then
  (ap A b [(.int .i64 a)]).bind fun c =>
  some (.inl ((A.wrp .i64 (A.zadd a 1)),c))
 else
  some (.inr b)

def E59L2 (A:Ar) (i:List (D×D)) (c d:Int):(Int×Int)->Option ((Int×Int)⊕(Int)):=fun (a,b) =>
 bif (A.zlt b d) then
  ((
   (lk A (cI .i64) i (.agg [(.int .i64 c),(.int .i64 b)])).bind fun g=>g.elim (
    some (A.zmin a 0)) fun e =>
   some (A.zmin a e):Option (Int))).bind fun j =>
  some (.inl (j,(A.wrp .i64 (A.zadd b 1))))
 else
  some (.inr a)

def E59L3 (A:Ar) (c d i:Int):(Int×List (D×D))->Option ((Int×List (D×D))⊕(List (D×D))):=fun (b,a) =>
 bif (A.zlt b d) then
  (lk A (cI .i64) a (.agg [(.int .i64 c),(.int .i64 b)])).bind fun g=>g.elim (
   none) fun e =>
  (ck (A.mhas a (A.midx a (.agg [(.int .i64 c),(.int .i64 b)])))).bind fun _ =>
  some (.inl ((A.wrp .i64 (A.zadd b 1)),(A.mset a (A.midx a (.agg [(.int .i64 c),(.int .i64 b)])) (.int .i64 (A.wrp .i64 (A.zsub e i))))))
 else
  some (.inr a)

def E59L4 (A:Ar) (l d:List D):(Int×List (D×D)×List D)->Option ((Int×List (D×D)×List D)⊕(List D)):=fun (b,j,c) =>
 bif (A.zlt b (A.len d)) then
  (ck (A.zle 0 b)).bind fun _ =>
  (ck (A.zlt b (A.len d))).bind fun _ =>
  (gc A (cI .i64) d (A.nat b)).bind fun a =>
  (gt A (cG (lc (cI .i64) (lc (cI .i64) (l1 (cI .i64))))) l a).bind fun (e,g,i) =>
  (iter (E59L2 A j e i) (9,g)).bind (fun k =>
  (iter (E59L3 A e i k) (g,j)).bind (fun m =>
  (ck (A.zle 0 a)).bind fun _ =>
  (ck (A.zlt a (A.len c))).bind fun _ =>
  (gc A (cI .i64) c (A.nat a)).bind fun n =>
  some (.inl ((A.wrp .i64 (A.zadd b 1)),m,(A.lset c (A.nat a) (.int .i64 k))))))
 else
  some (.inr c)

/-- lineal delay.Prices -/
def E59 (A:Ar) (b e:List D):Option (List D×Int) :=
 (E98 A b e).bind fun c =>
 bif (A.zeq c 0) then
  (E77 A b).bind fun a =>
  (E104 A b).bind fun i =>
  (iter (E59L0 A e i) (0,[])).bind (fun d =>
  (iter (E59L1 A a) (0,[])).bind (fun k =>
  (E107 A a d k).bind fun g =>
  (ck (A.zeq (A.len a) (A.len a))).bind fun _ =>
  (ck (A.zle 0 (A.len a))).bind fun _ =>
  (ck (A.fits (A.len a))).bind fun _ =>
  (iter (E59L4 A a g) (0,d,(A.rep (A.len a) (.int .i64 0)))).bind (fun j =>
  some (j,0))))
 else
  some ([],c)

/-- lineal delay.Enough -/
def E40 (A:Ar) (b i:List D):Option (Bool×Int) :=
 (E85 A b i).bind fun (d,a) =>
 ((
  bif (A.zeq a 0) then
   (E77 A b).bind fun e =>
   (E91 A d e).bind fun c =>
   some c
  else
   some false:Option (Bool))).bind fun g =>
 some (g,a)

/-- lineal delay.Cost -/
def E42 (A:Ar) (c d k:List D):Option (Int×Int) :=
 (E85 A c k).bind fun (g,a) =>
 ((
  bif (A.zeq a 0) then
   (E93 A c d).bind fun i =>
   some (!i)
  else
   some false:Option (Bool))).bind fun j =>
 ((
  bif j then
   some 2
  else
   some a:Option (Int))).bind fun b =>
 bif (A.zeq b 0) then
  (E94 A d g).bind fun e =>
  some (e,0)
 else
  some (0,b)

/-- lineal lineallaw09.DelayCheapest -/
def E12 (A:Ar) (a b e p:List D) (g:Int):Option (Bool) :=
 ((
  (E13 A a).bind fun S =>
  bif S then
   some true
  else
   (E14 A a).bind fun q =>
   bif q then
    (E50 A a b).bind fun u =>
    bif u then
     bif (A.zlt 40 (A.len e)) then
      some true
     else
      some (A.zlt 100 (A.len p))
    else
     some true
   else
    some true:Option (Bool))).bind fun Y =>
 bif Y then
  (E15 A).bind fun v =>
  some v
 else
  (E53 A a b).bind fun (i,w) =>
  (E52 A a b).bind fun (c,y) =>
  (E59 A a b).bind fun (j,z) =>
  (E27 A a).bind fun (B,C) =>
  ((
   bif (A.zeq w 0) then
    bif (A.zeq y 0) then
     bif (A.zeq z 0) then
      some (!(A.zeq C 0))
     else
      some true
    else
     some true
   else
    some true:Option (Bool))).bind fun a0 =>
  bif a0 then
   some false
  else
   (E40 A a i).bind fun (E,F) =>
   (E42 A a b i).bind fun (G,J) =>
   (E57 A a b j c).bind fun (K,L) =>
   (E57 A a b j (A.wrp .i64 (A.zadd c 1))).bind fun (M,N) =>
   ((
    bif (A.zeq F 0) then
     bif (A.zeq J 0) then
      bif (A.zeq L 0) then
       bif (A.zeq N 0) then
        bif E then
         bif (A.zeq G c) then
          bif K then
           some M
          else
           some true
         else
          some true
        else
         some true
       else
        some true
      else
       some true
     else
      some true
    else
     some true:Option (Bool))).bind fun b0 =>
   bif b0 then
    some false
   else
    (E60 A a).bind fun O =>
    (E40 A a O).bind fun (P,Q) =>
    (E40 A a []).bind fun (k,R) =>
    ((
     bif (A.zeq Q 0) then
      bif (A.zeq R 0) then
       bif P then
        bif (A.beq k (A.zeq (A.len B) 0)) then
         some (!(A.beq k (A.zeq c 0)))
        else
         some true
       else
        some true
      else
       some true
     else
      some true:Option (Bool))).bind fun c0 =>
    bif c0 then
     some false
    else
     (E40 A a e).bind fun (l,d) =>
     (E42 A a b e).bind fun (m,U) =>
     ((
      bif (A.zeq d U) then
       bif (A.zeq d 0) then
        bif l then
         some (A.zlt m c)
        else
         some false
       else
        bif (A.zeq d 2) then
         bif l then
          some (A.zlt m c)
         else
          some false
        else
         some true
      else
       some true:Option (Bool))).bind fun d0 =>
     bif d0 then
      some false
     else
      (E57 A a b p g).bind fun (n,o) =>
      ((
       bif (A.zeq o 0) then
        bif n then
         bif (A.zle g c) then
          (E15 A).bind fun V =>
          some V
         else
          some false
        else
         (E15 A).bind fun W =>
         some W
       else
        bif (A.zeq o 2) then
         bif n then
          bif (A.zle g c) then
           (E15 A).bind fun r =>
           some r
          else
           some false
         else
          (E15 A).bind fun s =>
          some s
        else
         some false:Option (Bool))).bind fun X =>
      some X
end
end Go.Am
