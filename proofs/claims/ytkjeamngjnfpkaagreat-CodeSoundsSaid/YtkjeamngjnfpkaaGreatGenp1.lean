/- Own text: Genp1. -/
import Derived.Test.YtkjeamngjnfpkaaGreatGenp0
set_option maxRecDepth 100000
set_option maxHeartbeats 2000000
set_option linter.unusedVariables false
set_option linter.unusedSimpArgs false
namespace Go.Am
noncomputable section
open Go
/-- lineal linealref02.Valid -/
def Z91 (A:Ar) (a:List D):Option (Bool) :=
 bif (A.zlt 8 (A.len a)) then
  some false
 else
  (iter (Z91L1 A a) 0).bind (Sum.elim (fun _ =>
   some true) (fun _ =>
   some false))

def Z49L0 (A:Ar) (c d:List D):Int->Option ((Int)⊕((Unit)⊕(Unit))):=fun a =>
 bif (A.zlt a (A.len d)) then
  ((
   (gt A (cG (lc (cI .i64) (lc (cI .i64) (lc (cI .i64) (lc (cI .i64) (lc (cI .i64) (l1 (cI .i64)))))))) d a).bind fun (j,b,e,k,l,m) =>
   bif (A.zle (A.len c) b) then
    some true
   else
    (gt A (cG (lc (cI .i64) (lc (cI .i64) (lc (cL 1) (l1 (cL 1)))))) c b).bind fun (n,g,o,p) =>
    some (A.zle g e):Option (Bool))).bind fun i =>
  bif i then
   some (.inr (.inr ()))
  else
   some (.inl (A.wrp .i64 (A.zadd a 1)))
 else
  some (.inr (.inl ()))

/-- lineal linealref02.isFor -/
def Z49 (A:Ar) (a b:List D):Option (Bool) :=
 ((
  (Z48 A a).bind fun c =>
  bif c then
   (Z91 A b).bind fun d =>
   some (!d)
  else
   some true:Option (Bool))).bind fun e =>
 bif e then
  some false
 else
  (iter (Z49L0 A a b) 0).bind (Sum.elim (fun _ =>
   some true) (fun _ =>
   some false))

/-- lineal linealref02.asked -/
def Z92 (A:Ar) (a d:List D):Option (Int) :=
 (Z48 A a).bind fun b =>
 bif b then
  (Z49 A a d).bind fun c =>
  bif c then
   some 0
  else
   some 20
 else
  some 10

def Z136aL0 (A:Ar) (e g:List D):(Int×List D)->Option ((Int×List D)⊕((List D)⊕(List D))):=fun (d,a) =>
 bif (A.zlt d (A.len g)) then
  ((
   (gt A (cI .i64) g d).bind fun b =>
   (Z90 A 0 b (A.wrp .i64 (A.zsub (A.len e) 1))).bind fun j =>
   bif j then
    (ck (A.zle 0 b)).bind fun _ =>
    (ck (A.zlt b (A.len e))).bind fun _ =>
    (gc A cB a (A.nat (A.zadd 0 b))).bind fun i =>
    some i
   else
    some true:Option (Bool))).bind fun k =>
  bif k then
   some (.inr (.inr a))
  else
   (gt A (cI .i64) g d).bind fun c =>
   (ck (A.zle 0 c)).bind fun _ =>
   (ck (A.zlt c (A.len e))).bind fun _ =>
   (A.lget a (A.nat (A.zadd 0 c))).bind fun l =>
   some (.inl ((A.wrp .i64 (A.zadd d 1)),(A.lset a (A.nat (A.zadd 0 c)) (.bool true))))
 else
  some (.inr (.inl a))

def Z136aL1 (A:Ar) (b g:List D):Int->Option ((Int)⊕((Unit)⊕(Unit))):=fun a =>
 bif (A.zlt a (A.len b)) then
  ((
   (gt A (cG (lc (cI .i64) (lc (cI .i64) (lc (cI .i64) (lc (cI .i64) (lc (cI .i64) (l1 (cI .i64)))))))) b a).bind fun (i,j,k,l,m,d) =>
   bif (A.zeq d 0) then
    some false
   else
    (ck (A.zle 0 a)).bind fun _ =>
    (ck (A.zlt a (A.len b))).bind fun _ =>
    (gc A cB g (A.nat (A.zadd 0 a))).bind fun c =>
    some (!c):Option (Bool))).bind fun e =>
  bif e then
   some (.inr (.inr ()))
  else
   some (.inl (A.wrp .i64 (A.zadd a 1)))
 else
  some (.inr (.inl ()))

/-- lineal linealref02.isList -/
def Z136a (A:Ar) (a b:List D):Option (Bool) :=
 bif (A.zlt (A.len a) (A.len b)) then
  some false
 else
  (ck (A.zeq (A.len a) (A.len a))).bind fun _ =>
  (ck (A.zle 0 (A.len a))).bind fun _ =>
  (ck (A.fits (A.len a))).bind fun _ =>
  (iter (Z136aL0 A a b) (0,(A.rep (A.len a) (.bool false)))).bind (Sum.elim (fun c =>
   (iter (Z136aL1 A a c) 0).bind (Sum.elim (fun _ =>
    some true) (fun _ =>
    some false))) (fun d =>
   some false))

def Z137aL0 (A:Ar) (b:List D) (d:Int):Int->Option ((Int)⊕((Unit)⊕(Unit))):=fun a =>
 bif (A.zlt a (A.len b)) then
  (gt A (cI .i64) b a).bind fun c =>
  bif (A.zeq c d) then
   some (.inr (.inr ()))
  else
   some (.inl (A.wrp .i64 (A.zadd a 1)))
 else
  some (.inr (.inl ()))

/-- lineal linealref02.has -/
def Z137a (A:Ar) (a:List D) (b:Int):Option (Bool) :=
 (iter (Z137aL0 A a b) 0).bind (Sum.elim (fun _ =>
  some false) (fun _ =>
  some true))

def Z138aL0 (A:Ar) (c v g:List D):(Int×List D)->Option ((Int×List D)⊕((List D)⊕(List D))):=fun (d,b) =>
 bif (A.zlt d (A.len g)) then
  (gt A (cI .i64) g d).bind fun n =>
  (gt A (cG (lc (cI .i64) (lc (cI .i64) (lc (cI .i64) (lc (cI .i64) (lc (cI .i64) (l1 (cI .i64)))))))) v n).bind fun (w,a,e,o,y,p) =>
  (gt A (cG (lc (cI .i64) (lc (cI .i64) (lc (cL 1) (l1 (cL 1)))))) c a).bind fun (z,B,q,r) =>
  ((
   bif (A.zeq p 0) then
    some false
   else
    (ck (A.zle 0 a)).bind fun _ =>
    (ck (A.zlt a (A.len c))).bind fun _ =>
    (gc A (cI .i64) b (A.nat (A.zadd 0 a))).bind fun s =>
    (gt A (cL 1) r s).bind fun i =>
    (gt A (cI .i64) i e).bind fun j =>
    some (!(A.zeq j o)):Option (Bool))).bind fun u =>
  bif u then
   some (.inr (.inr b))
  else
   (ck (A.zle 0 a)).bind fun _ =>
   (ck (A.zlt a (A.len c))).bind fun _ =>
   (gc A (cI .i64) b (A.nat (A.zadd 0 a))).bind fun k =>
   (gt A (cL 1) q k).bind fun l =>
   (gt A (cI .i64) l e).bind fun m =>
   (ck (A.zle 0 a)).bind fun _ =>
   (ck (A.zlt a (A.len c))).bind fun _ =>
   (A.lget b (A.nat (A.zadd 0 a))).bind fun C =>
   some (.inl ((A.wrp .i64 (A.zadd d 1)),(A.lset b (A.nat (A.zadd 0 a)) (.int .i64 m))))
 else
  some (.inr (.inl b))

/-- lineal linealref02.allows -/
def Z138a (A:Ar) (a b c:List D):Option (Bool) :=
 (ck (A.zeq (A.len a) (A.len a))).bind fun _ =>
 (ck (A.zle 0 (A.len a))).bind fun _ =>
 (ck (A.fits (A.len a))).bind fun _ =>
 (iter (Z138aL0 A a b c) (0,(A.rep (A.len a) (.int .i64 0)))).bind (Sum.elim (fun d =>
  some true) (fun e =>
  some false))

def Z139aL0 (A:Ar) (c d:List D) (b:Int):Int->Option ((Int)⊕((Unit)⊕(Unit))):=fun a =>
 bif (A.zlt a b) then
  ((
   (gt A (cI .i64) d b).bind fun e =>
   (gt A (cG (lc (cI .i64) (lc (cI .i64) (lc (cI .i64) (lc (cI .i64) (lc (cI .i64) (l1 (cI .i64)))))))) c e).bind fun (g,n,o,p,i,q) =>
   (gt A (cI .i64) d a).bind fun j =>
   (gt A (cG (lc (cI .i64) (lc (cI .i64) (lc (cI .i64) (lc (cI .i64) (lc (cI .i64) (l1 (cI .i64)))))))) c j).bind fun (k,r,s,u,l,v) =>
   bif (A.zeq g k) then
    some (A.zlt i l)
   else
    some false:Option (Bool))).bind fun m =>
  bif m then
   some (.inr (.inr ()))
  else
   some (.inl (A.wrp .i64 (A.zadd a 1)))
 else
  some (.inr (.inl ()))

def Z139aL1 (A:Ar) (c b:List D):Int->Option ((Int)⊕((Unit)⊕(Unit))):=fun a =>
 bif (A.zlt a (A.len b)) then
  (iter (Z139aL0 A c b a) 0).bind (Sum.elim (fun _ =>
   some (.inl (A.wrp .i64 (A.zadd a 1)))) (fun _ =>
   some (.inr (.inr ()))))
 else
  some (.inr (.inl ()))

/-- lineal linealref02.keepsThreads -/
def Z139a (A:Ar) (a b:List D):Option (Bool) :=
 (iter (Z139aL1 A a b) 0).bind (Sum.elim (fun _ =>
  some true) (fun _ =>
  some false))

def Z140aL0 (A:Ar) (c d:List D) (b:Int):Int->Option ((Int)⊕((Unit)⊕(Unit))):=fun a =>
 bif (A.zlt a b) then
  (gt A (cI .i64) d b).bind fun e =>
  (gt A (cG (lc (cI .i64) (lc (cI .i64) (lc (cI .i64) (lc (cI .i64) (lc (cI .i64) (l1 (cI .i64)))))))) c e).bind fun (g,i,j,k,l,m) =>
  (gt A (cI .i64) d a).bind fun n =>
  (gt A (cG (lc (cI .i64) (lc (cI .i64) (lc (cI .i64) (lc (cI .i64) (lc (cI .i64) (l1 (cI .i64)))))))) c n).bind fun (o,p,q,r,s,u) =>
  (Z171 A g i j k l m o p q r s u).bind fun v =>
  bif v then
   some (.inr (.inr ()))
  else
   some (.inl (A.wrp .i64 (A.zadd a 1)))
 else
  some (.inr (.inl ()))

def Z140aL1 (A:Ar) (c b:List D):Int->Option ((Int)⊕((Unit)⊕(Unit))):=fun a =>
 bif (A.zlt a (A.len b)) then
  (iter (Z140aL0 A c b a) 0).bind (Sum.elim (fun _ =>
   some (.inl (A.wrp .i64 (A.zadd a 1)))) (fun _ =>
   some (.inr (.inr ()))))
 else
  some (.inr (.inl ()))

/-- lineal linealref02.keepsTime -/
def Z140a (A:Ar) (a b:List D):Option (Bool) :=
 (iter (Z140aL1 A a b) 0).bind (Sum.elim (fun _ =>
  some true) (fun _ =>
  some false))

def Z93L0 (A:Ar) (l m a:List D) (self113:List D->Bool->List D->List D->Bool->Int->List D->(Option (Bool×Int×List D))):(Bool×Int×Bool×Int×List D)->Option ((Bool×Int×Bool×Int×List D)⊕(Bool×Int×List D)):=fun (i,c,d,e,g) =>
 ((
  bif (A.zlt c (A.len a)) then
   bif i then
    some (true,(!(A.zlt 0 e)))
   else
    some (false,true)
  else
   some (i,false):Option (Bool×Bool))).bind fun (j,y) =>
 bif y then
  (ap A [] l).bind fun n =>
  (ap A n [(.int .i64 c)]).bind fun b =>
  ((
   (Z137a A l c).bind fun o =>
   bif o then
    some (false,d)
   else
    (Z138a A m a b).bind fun p =>
    bif p then
     bif d then
      (Z139a A a b).bind fun q =>
      bif q then
       some (true,true)
      else
       some (false,true)
     else
      (Z140a A a b).bind fun r =>
      some (r,false)
    else
     some (false,d):Option (Bool×Bool))).bind fun (z,k) =>
  ((
   bif z then
    (self113 b j m a k e g).bind fun (s,u,v) =>
    some (s,u,v)
   else
    some (k,e,g):Option (Bool×Int×List D))).bind fun (B,C,w) =>
  some (.inl (j,(A.wrp .i64 (A.zadd c 1)),B,C,w))
 else
  some (.inr (d,e,g))

/--  *lineal linealref02.search .from -/
def Z93B (A:Ar) (self113:List D->Bool->List D->List D->Bool->Int->List D->(Option (Bool×Int×List D))) (a:List D) (o:Bool) (p c:List D) (q:Bool) (b:Int) (d:List D):Option (Bool×Int×List D) :=
 (Z136a A c a).bind fun g =>
 ((
  bif g then
   ((
    bif (A.zeq b 0) then
     (ap A [] a).bind fun e =>
     some e
    else
     some d:Option (List D))).bind fun l =>
   some ((A.wrp .i64 (A.zadd b 1)),l)
  else
   some (b,d):Option (Int×List D))).bind fun (m,n) =>
 (iter (Z93L0 A a p c self113) (o,0,q,m,n)).bind (fun (i,j,k) =>
 some (i,j,k))

def Z93R (A:Ar):Nat->List D->Bool->List D->List D->Bool->Int->List D->(Option (Bool×Int×List D))
 | 0=>fun _ _ _ _ _ _ _=>none
 | n+1=>fun a b c d e g i=>Z93B A (Z93R A n) a b c d e g i

def Z93 (A:Ar) (a:List D) (b:Bool) (c d:List D) (e:Bool) (g:Int) (i:List D):Option (Bool×Int×List D):=Z93R A fuel a b c d e g i

/-- lineal linealref02.Order -/
def Z50 (A:Ar) (b c:List D):Option (List D×Int) :=
 (Z92 A b c).bind fun a =>
 bif (A.zeq a 0) then
  (Z93 A [] true b c false 0 []).bind fun (g,d,e) =>
  bif (A.zeq d 0) then
   some ([],5)
  else
   some (e,0)
 else
  some ([],a)

/-- lineal linealref02.Linear -/
def Z14 (A:Ar) (b c:List D):Option (Bool×Int) :=
 (Z50 A b c).bind fun (d,a) =>
 bif (A.zeq a 5) then
  some (false,0)
 else
  some ((A.zeq a 0),a)

/-- lineal linealref08.linear -/
def Z63 (A:Ar) (b c:Int) (d e g:List D):Option (Bool) :=
 (Z14 A [(.agg [(.int .i64 b),(.int .i64 c),(.list 1 d),(.list 1 e)])] g).bind fun (a,i) =>
 some a

def Z21L0 (A:Ar) (b e:List D):Int->Option ((Int)⊕((Unit)⊕(Unit))):=fun a =>
 bif (A.zlt a (A.len b)) then
  (gt A (cI .i64) b a).bind fun c =>
  (gt A (cI .i64) e a).bind fun d =>
  bif (A.zeq c d) then
   some (.inl (A.wrp .i64 (A.zadd a 1)))
  else
   some (.inr (.inr ()))
 else
  some (.inr (.inl ()))

/-- lineal linealref08.SameInts -/
def Z21 (A:Ar) (a b:List D):Option (Bool) :=
 bif (A.zeq (A.len a) (A.len b)) then
  (iter (Z21L0 A a b) 0).bind (Sum.elim (fun _ =>
   some true) (fun _ =>
   some false))
 else
  some false

/--  *lineal code.run .has -/
def Z94b (A:Ar) (a:Int) (u b:List D) (j B C E F G k i l m n o p q r s v w:Int) (y z:List D):Option (Bool) :=
 ((
  (Z82 A 0 a (A.wrp .i64 (A.zsub (A.len b) 1))).bind fun e =>
  bif e then
   bif (A.zeq a 0) then
    (gt A (cL 1) b a).bind fun c =>
    some (A.zlt j (A.len c))
   else
    bif (A.zeq a 1) then
     (gt A (cL 1) b a).bind fun d =>
     some (A.zlt i (A.len d))
    else
     none
  else
   some false:Option (Bool))).bind fun g =>
 some g

def Z55aL0 (A:Ar) (i c:List D) (y z B C E F G j k l m n o p q r s u:Int) (v w:List D):(List D×Int)->Option ((List D×Int)⊕(List D)):=fun (b,a) =>
 bif (A.zlt a (A.len c)) then
  (Z94b A a i c y z B C E F G j k l m n o p q r s u v w).bind fun e =>
  ((
   bif e then
    (ap A b [(.int .i64 a)]).bind fun d =>
    some d
   else
    some b:Option (List D))).bind fun g =>
  some (.inl (g,(A.wrp .i64 (A.zadd a 1))))
 else
  some (.inr b)

/--  *lineal code.run .left -/
def Z55a (A:Ar) (b o:List D) (s u v w y z B c d e g i j k l m n p:Int) (q r:List D):Option (List D) :=
 (iter (Z55aL0 A b o s u v w y z B c d e g i j k l m n p q r) ([],0)).bind (fun a =>
 some a)

/-- slices.Clone   lineal api.Call lineal api.Call  -/
def Z117 (A:Ar) (a:List D):Option (List D) :=
 bif (A.zlt 0 (A.len a)) then
  (ap A [] a).bind fun b =>
  some b
 else
  both (
   some []) (
   (ap A [] a).bind fun c =>
   some c)

/-- slices.Clone   int int  -/
def Z39 (A:Ar) (a:List D):Option (List D) :=
 bif (A.zlt 0 (A.len a)) then
  (ap A [] a).bind fun b =>
  some b
 else
  both (
   some []) (
   (ap A [] a).bind fun c =>
   some c)

/--  lineal code.run .clone -/
def Z83 (A:Ar) (c p:List D) (u v w y z B C d e g i j k l m n o q:Int) (r s:List D):Option (List D×List D×Int×Int×Int×Int×Int×Int×Int×Int×Int×Int×Int×Int×Int×Int×Int×Int×Int×Int×List D×List D) :=
 (Z117 A r).bind fun a =>
 (ck (scalars a)).bind fun _ =>
 (Z39 A s).bind fun b =>
 (ck (scalars b)).bind fun _ =>
 some (c,p,u,v,w,y,z,B,C,d,e,g,i,j,k,l,m,n,o,q,a,b)

/--  *lineal linealref08.Play .HasLine -/
def Z103a (A:Ar) (p g r i:List D) (s u v w:Int) (y q:List D) (a:Int):Option (Bool) :=
 ((
  (gt A (cG (lc (cI .i64) (lc (cI .i64) (lc cB (lc (cI .i64) (lc (cI .i64) (lc (cI .i64) (lc (cI .i64) (l1 (cI .i64)))))))))) i a).bind fun (b,j,c,k,l,m,n,o) =>
  bif c then
   some true
  else
   (gt A (cL 1) g a).bind fun d =>
   some (A.zlt b (A.len d)):Option (Bool))).bind fun e =>
 some e

def Z65aL0 (A:Ar) (d b g i:List D) (j k l m:Int) (n e:List D):Int->Option ((Int)⊕((Unit)⊕(Unit))):=fun a =>
 bif (A.zlt a (A.len b)) then
  (Z103a A d b g i j k l m n e a).bind fun c =>
  bif c then
   some (.inr (.inr ()))
  else
   some (.inl (A.wrp .i64 (A.zadd a 1)))
 else
  some (.inr (.inl ()))

/--  *lineal linealref08.Play .Over -/
def Z65a (A:Ar) (a c d e:List D) (g i j k:Int) (l b:List D):Option (Bool) :=
 (iter (Z65aL0 A a c d e g i j k l b) 0).bind (Sum.elim (fun _ =>
  some true) (fun _ =>
  some false))

/--  *lineal linealref08.Play .copied -/
def Z148 (A:Ar) (d g i j:List D) (k l m n:Int) (o e:List D):Option (List D×List D×List D×Int×Int×Int×Int×List D×List D×List D) :=
 (ap A [] j).bind fun a =>
 (ap A [] o).bind fun b =>
 (ap A [] e).bind fun c =>
 some (d,g,i,k,l,m,n,a,b,c)

/--  *lineal linealref08.Play .Step -/
def Z104a (A:Ar) (a:Int) (x2 x3 x4:List D) (w r s u:Int) (y G n0:List D):Option (List D×List D×List D×Int×Int×Int×Int×List D×List D×List D) :=
 (ck (A.zle 0 a)).bind fun _ =>
 (ck (A.zlt a (A.len y))).bind fun _ =>
 (gc A (cG (lc (cI .i64) (lc (cI .i64) (lc cB (lc (cI .i64) (lc (cI .i64) (lc (cI .i64) (lc (cI .i64) (l1 (cI .i64)))))))))) y (A.nat a)).bind fun (b0,k4,k1,l4,m4,n4,o4,p4) =>
 ((
  bif k1 then
   some (y,G,n0)
  else
   (gt A (cL 1) x3 a).bind fun i2 =>
   (gc A (cG (lc (cI .i64) (lc (cI .i64) (lc cB (lc (cI .i64) (lc (cI .i64) (lc (cI .i64) (lc (cI .i64) (l1 (cI .i64)))))))))) (A.lset y (A.nat a) (.agg [(.int .i64 (A.wrp .i64 (A.zadd b0 1))),(.int .i64 0),(.bool true),(.int .i64 (A.len G)),(.int .i64 0),(.int .i64 1),(.int .i64 0),(.int .i64 0)])) (A.nat a)).bind fun (p2,v4,d5,i5,j5,k5,l5,m5) =>
   (gt A (cI .i64) i2 (A.wrp .i64 (A.zsub p2 1))).bind fun r2 =>
   (ap A G [(.agg [(.int .i64 a),(.int .i64 0),(.int .i64 r2),(.int .i64 0),(.int .i64 (A.wrp .i64 (A.zadd (A.wrp .i64 (A.zmul 2 w)) 1))),(.int .i64 0)])]).bind fun u2 =>
   (ap A n0 [(.int .i64 (-1))]).bind fun v2 =>
   some ((A.lset y (A.nat a) (.agg [(.int .i64 (A.wrp .i64 (A.zadd b0 1))),(.int .i64 0),(.bool true),(.int .i64 (A.len G)),(.int .i64 0),(.int .i64 1),(.int .i64 0),(.int .i64 0)])),u2,v2):Option (List D×List D×List D))).bind fun (g,o,F) =>
 (gc A (cG (lc (cI .i64) (lc (cI .i64) (lc cB (lc (cI .i64) (lc (cI .i64) (lc (cI .i64) (lc (cI .i64) (l1 (cI .i64)))))))))) g (A.nat a)).bind fun (i,d,j,c,k,l,m,n) =>
 (ck (A.zle 0 c)).bind fun _ =>
 (ck (A.zlt c (A.len o))).bind fun _ =>
 (gc A (cG (lc (cI .i64) (lc (cI .i64) (lc (cI .i64) (lc (cI .i64) (lc (cI .i64) (l1 (cI .i64)))))))) o (A.nat c)).bind fun (n5,o5,Y,p5,q5,r5) =>
 (gt A (cL 4) x2 Y).bind fun s2 =>
 (gt A (cG (lc (cI .i64) (lc (cI .i64) (lc (cI .i64) (l1 (cI .i64)))))) s2 d).bind fun (q,b,e,v) =>
 ((
  bif (A.zeq q 1) then
   (ck (A.zle 0 e)).bind fun _ =>
   (ck (A.zlt e (Int.ofNat 3))).bind fun _ =>
   (gc A (cI .i64) [(.int .i64 r),(.int .i64 s),(.int .i64 u)] (A.nat e)).bind fun E =>
   (ck (A.zle 0 b)).bind fun _ =>
   (ck (A.zlt b (Int.ofNat 4))).bind fun _ =>
   (gc A (cG (lc (cI .i64) (lc (cI .i64) (lc cB (lc (cI .i64) (lc (cI .i64) (lc (cI .i64) (lc (cI .i64) (l1 (cI .i64)))))))))) (A.lset g (A.nat a) (.agg [(.int .i64 i),(.int .i64 (A.wrp .i64 (A.zadd d 1))),(.bool j),(.int .i64 c),(.int .i64 k),(.int .i64 l),(.int .i64 m),(.int .i64 n)])) (A.nat a)).bind fun (o0,p0,q0,r0,s0,u0,v0,w0) =>
   some (r,s,u,(A.lset (A.lset g (A.nat a) (.agg [(.int .i64 i),(.int .i64 (A.wrp .i64 (A.zadd d 1))),(.bool j),(.int .i64 c),(.int .i64 k),(.int .i64 l),(.int .i64 m),(.int .i64 n)])) (A.nat a) (.agg [(.int .i64 o0),(.int .i64 p0),(.bool q0),(.int .i64 r0),(.int .i64 (bif A.zeq b (Int.ofNat 0) then E else s0)),(.int .i64 (bif A.zeq b (Int.ofNat 1) then E else u0)),(.int .i64 (bif A.zeq b (Int.ofNat 2) then E else v0)),(.int .i64 (bif A.zeq b (Int.ofNat 3) then E else w0))])),o)
  else
   ((
    bif (A.zeq q 2) then
     (ck (A.zle 0 e)).bind fun _ =>
     (ck (A.zlt e (Int.ofNat 4))).bind fun _ =>
     (gc A (cG (lc (cI .i64) (lc (cI .i64) (lc cB (lc (cI .i64) (lc (cI .i64) (lc (cI .i64) (lc (cI .i64) (l1 (cI .i64)))))))))) (A.lset g (A.nat a) (.agg [(.int .i64 i),(.int .i64 (A.wrp .i64 (A.zadd d 1))),(.bool j),(.int .i64 c),(.int .i64 k),(.int .i64 l),(.int .i64 m),(.int .i64 n)])) (A.nat a)).bind fun (e4,g4,i4,j4,y0,z0,a1,b1) =>
     (gc A (cI .i64) [(.int .i64 y0),(.int .i64 z0),(.int .i64 a1),(.int .i64 b1)] (A.nat e)).bind fun J =>
     (ck (A.zle 0 b)).bind fun _ =>
     (ck (A.zlt b (Int.ofNat 3))).bind fun _ =>
     some ((bif A.zeq b (Int.ofNat 0) then J else r),(bif A.zeq b (Int.ofNat 1) then J else s),(bif A.zeq b (Int.ofNat 2) then J else u),(A.lset g (A.nat a) (.agg [(.int .i64 i),(.int .i64 (A.wrp .i64 (A.zadd d 1))),(.bool j),(.int .i64 c),(.int .i64 k),(.int .i64 l),(.int .i64 m),(.int .i64 n)])),o)
    else
     ((
      bif (A.zeq q 3) then
       (ck (A.zle 0 b)).bind fun _ =>
       (ck (A.zlt b (Int.ofNat 3))).bind fun _ =>
       (gc A (cI .i64) [(.int .i64 r),(.int .i64 s),(.int .i64 u)] (A.nat b)).bind fun c1 =>
       (ck (A.zle 0 e)).bind fun _ =>
       (ck (A.zlt e (Int.ofNat 4))).bind fun _ =>
       (gc A (cG (lc (cI .i64) (lc (cI .i64) (lc cB (lc (cI .i64) (lc (cI .i64) (lc (cI .i64) (lc (cI .i64) (l1 (cI .i64)))))))))) (A.lset g (A.nat a) (.agg [(.int .i64 i),(.int .i64 (A.wrp .i64 (A.zadd d 1))),(.bool j),(.int .i64 c),(.int .i64 k),(.int .i64 l),(.int .i64 m),(.int .i64 n)])) (A.nat a)).bind fun (e1,g1,i1,j1,K,L,M,a0) =>
       (gc A (cI .i64) [(.int .i64 K),(.int .i64 L),(.int .i64 M),(.int .i64 a0)] (A.nat e)).bind fun d1 =>
       ((
        bif (A.zeq c1 d1) then
         (ck (A.zle 0 v)).bind fun _ =>
         (ck (A.zlt v (Int.ofNat 4))).bind fun _ =>
         (gc A (cI .i64) [(.int .i64 K),(.int .i64 L),(.int .i64 M),(.int .i64 a0)] (A.nat v)).bind fun N =>
         (ck (A.zle 0 b)).bind fun _ =>
         (ck (A.zlt b (Int.ofNat 3))).bind fun _ =>
         some (1,(bif A.zeq b (Int.ofNat 0) then N else r),(bif A.zeq b (Int.ofNat 1) then N else s),(bif A.zeq b (Int.ofNat 2) then N else u))
        else
         some (0,r,s,u):Option (Int×Int×Int×Int))).bind fun (w2,y2,z2,a3) =>
       some (y2,z2,a3,(A.lset (A.lset g (A.nat a) (.agg [(.int .i64 i),(.int .i64 (A.wrp .i64 (A.zadd d 1))),(.bool j),(.int .i64 c),(.int .i64 k),(.int .i64 l),(.int .i64 m),(.int .i64 n)])) (A.nat a) (.agg [(.int .i64 e1),(.int .i64 g1),(.bool i1),(.int .i64 j1),(.int .i64 K),(.int .i64 L),(.int .i64 M),(.int .i64 w2)])),o)
      else
       ((
        bif (A.zeq q 4) then
         (ck (A.zle 0 b)).bind fun _ =>
         (ck (A.zlt b (Int.ofNat 4))).bind fun _ =>
         (gc A (cG (lc (cI .i64) (lc (cI .i64) (lc cB (lc (cI .i64) (lc (cI .i64) (lc (cI .i64) (lc (cI .i64) (l1 (cI .i64)))))))))) (A.lset g (A.nat a) (.agg [(.int .i64 i),(.int .i64 (A.wrp .i64 (A.zadd d 1))),(.bool j),(.int .i64 c),(.int .i64 k),(.int .i64 l),(.int .i64 m),(.int .i64 n)])) (A.nat a)).bind fun (m1,n1,o1,p1,q1,r1,s1,u1) =>
         some ((A.lset (A.lset g (A.nat a) (.agg [(.int .i64 i),(.int .i64 (A.wrp .i64 (A.zadd d 1))),(.bool j),(.int .i64 c),(.int .i64 k),(.int .i64 l),(.int .i64 m),(.int .i64 n)])) (A.nat a) (.agg [(.int .i64 m1),(.int .i64 n1),(.bool o1),(.int .i64 p1),(.int .i64 (bif A.zeq b (Int.ofNat 0) then e else q1)),(.int .i64 (bif A.zeq b (Int.ofNat 1) then e else r1)),(.int .i64 (bif A.zeq b (Int.ofNat 2) then e else s1)),(.int .i64 (bif A.zeq b (Int.ofNat 3) then e else u1))])),o)
        else
         ((
          bif (A.zeq q 5) then
           (ck (A.zle 0 e)).bind fun _ =>
           (ck (A.zlt e (Int.ofNat 4))).bind fun _ =>
           (gc A (cG (lc (cI .i64) (lc (cI .i64) (lc cB (lc (cI .i64) (lc (cI .i64) (lc (cI .i64) (lc (cI .i64) (l1 (cI .i64)))))))))) (A.lset g (A.nat a) (.agg [(.int .i64 i),(.int .i64 (A.wrp .i64 (A.zadd d 1))),(.bool j),(.int .i64 c),(.int .i64 k),(.int .i64 l),(.int .i64 m),(.int .i64 n)])) (A.nat a)).bind fun (v1,w1,y1,z1,O,P,Q,R) =>
           (gc A (cI .i64) [(.int .i64 O),(.int .i64 P),(.int .i64 Q),(.int .i64 R)] (A.nat e)).bind fun z =>
           (ck (A.zle 0 v)).bind fun _ =>
           (ck (A.zlt v (Int.ofNat 4))).bind fun _ =>
           (gc A (cI .i64) [(.int .i64 O),(.int .i64 P),(.int .i64 Q),(.int .i64 R)] (A.nat v)).bind fun B =>
           (nk (A.zeq 10 0)).bind fun _ =>
           (ck (A.zle 0 b)).bind fun _ =>
           (ck (A.zlt b (Int.ofNat 4))).bind fun _ =>
           some ((A.lset (A.lset g (A.nat a) (.agg [(.int .i64 i),(.int .i64 (A.wrp .i64 (A.zadd d 1))),(.bool j),(.int .i64 c),(.int .i64 k),(.int .i64 l),(.int .i64 m),(.int .i64 n)])) (A.nat a) (.agg [(.int .i64 v1),(.int .i64 w1),(.bool y1),(.int .i64 z1),(.int .i64 (bif A.zeq b (Int.ofNat 0) then (A.rem (A.wrp .i64 (A.zadd z B)) 10) else O)),(.int .i64 (bif A.zeq b (Int.ofNat 1) then (A.rem (A.wrp .i64 (A.zadd z B)) 10) else P)),(.int .i64 (bif A.zeq b (Int.ofNat 2) then (A.rem (A.wrp .i64 (A.zadd z B)) 10) else Q)),(.int .i64 (bif A.zeq b (Int.ofNat 3) then (A.rem (A.wrp .i64 (A.zadd z B)) 10) else R))])),o)
          else
           ((
            bif (A.zeq q 6) then
             (ck (A.zle 0 b)).bind fun _ =>
             (ck (A.zlt b (Int.ofNat 4))).bind fun _ =>
             (gc A (cG (lc (cI .i64) (lc (cI .i64) (lc cB (lc (cI .i64) (lc (cI .i64) (lc (cI .i64) (lc (cI .i64) (l1 (cI .i64)))))))))) (A.lset g (A.nat a) (.agg [(.int .i64 i),(.int .i64 (A.wrp .i64 (A.zadd d 1))),(.bool j),(.int .i64 c),(.int .i64 k),(.int .i64 l),(.int .i64 m),(.int .i64 n)])) (A.nat a)).bind fun (b2,q4,c2,d2,c0,d0,e0,g0) =>
             (gc A (cI .i64) [(.int .i64 c0),(.int .i64 d0),(.int .i64 e0),(.int .i64 g0)] (A.nat b)).bind fun a2 =>
             ((
              bif (A.zeq a2 0) then
               some (A.lset (A.lset g (A.nat a) (.agg [(.int .i64 i),(.int .i64 (A.wrp .i64 (A.zadd d 1))),(.bool j),(.int .i64 c),(.int .i64 k),(.int .i64 l),(.int .i64 m),(.int .i64 n)])) (A.nat a) (.agg [(.int .i64 b2),(.int .i64 e),(.bool c2),(.int .i64 d2),(.int .i64 c0),(.int .i64 d0),(.int .i64 e0),(.int .i64 g0)]))
              else
               some (A.lset g (A.nat a) (.agg [(.int .i64 i),(.int .i64 (A.wrp .i64 (A.zadd d 1))),(.bool j),(.int .i64 c),(.int .i64 k),(.int .i64 l),(.int .i64 m),(.int .i64 n)])):Option (List D))).bind fun b3 =>
             some (b3,o)
            else
             ((
              bif (A.zeq q 7) then
               (gc A (cG (lc (cI .i64) (lc (cI .i64) (lc cB (lc (cI .i64) (lc (cI .i64) (lc (cI .i64) (lc (cI .i64) (l1 (cI .i64)))))))))) (A.lset g (A.nat a) (.agg [(.int .i64 i),(.int .i64 (A.wrp .i64 (A.zadd d 1))),(.bool j),(.int .i64 c),(.int .i64 k),(.int .i64 l),(.int .i64 m),(.int .i64 n)])) (A.nat a)).bind fun (e2,g2,r4,p,i0,j0,k0,l0) =>
               (ck (A.zle 0 p)).bind fun _ =>
               (ck (A.zlt p (A.len o))).bind fun _ =>
               (gc A (cG (lc (cI .i64) (lc (cI .i64) (lc (cI .i64) (lc (cI .i64) (lc (cI .i64) (l1 (cI .i64)))))))) o (A.nat p)).bind fun (S,U,V,W,X,s4) =>
               (ck (A.zle 0 b)).bind fun _ =>
               (ck (A.zlt b (Int.ofNat 4))).bind fun _ =>
               (gc A (cI .i64) [(.int .i64 i0),(.int .i64 j0),(.int .i64 k0),(.int .i64 l0)] (A.nat b)).bind fun j2 =>
               (ck (A.zle 0 p)).bind fun _ =>
               (ck (A.zlt p (A.len (A.lset o (A.nat p) (.agg [(.int .i64 S),(.int .i64 U),(.int .i64 V),(.int .i64 W),(.int .i64 X),(.int .i64 (A.wrp .i64 (A.zadd (A.wrp .i64 (A.zmul 2 w)) 2)))]))))).bind fun _ =>
               (gc A (cG (lc (cI .i64) (lc (cI .i64) (lc (cI .i64) (lc (cI .i64) (lc (cI .i64) (l1 (cI .i64)))))))) (A.lset o (A.nat p) (.agg [(.int .i64 S),(.int .i64 U),(.int .i64 V),(.int .i64 W),(.int .i64 X),(.int .i64 (A.wrp .i64 (A.zadd (A.wrp .i64 (A.zmul 2 w)) 2)))])) (A.nat p)).bind fun (k2,l2,m2,u4,n2,o2) =>
               some ((A.lset (A.lset g (A.nat a) (.agg [(.int .i64 i),(.int .i64 (A.wrp .i64 (A.zadd d 1))),(.bool j),(.int .i64 c),(.int .i64 k),(.int .i64 l),(.int .i64 m),(.int .i64 n)])) (A.nat a) (.agg [(.int .i64 e2),(.int .i64 g2),(.bool false),(.int .i64 p),(.int .i64 i0),(.int .i64 j0),(.int .i64 k0),(.int .i64 l0)])),(A.lset (A.lset o (A.nat p) (.agg [(.int .i64 S),(.int .i64 U),(.int .i64 V),(.int .i64 W),(.int .i64 X),(.int .i64 (A.wrp .i64 (A.zadd (A.wrp .i64 (A.zmul 2 w)) 2)))])) (A.nat p) (.agg [(.int .i64 k2),(.int .i64 l2),(.int .i64 m2),(.int .i64 j2),(.int .i64 n2),(.int .i64 o2)])))
              else
               some ((A.lset g (A.nat a) (.agg [(.int .i64 i),(.int .i64 (A.wrp .i64 (A.zadd d 1))),(.bool j),(.int .i64 c),(.int .i64 k),(.int .i64 l),(.int .i64 m),(.int .i64 n)])),o):Option (List D×List D))).bind fun (c3,d3) =>
             some (c3,d3):Option (List D×List D))).bind fun (e3,g3) =>
           some (e3,g3):Option (List D×List D))).bind fun (i3,j3) =>
         some (i3,j3):Option (List D×List D))).bind fun (k3,l3) =>
       some (r,s,u,k3,l3):Option (Int×Int×Int×List D×List D))).bind fun (m3,n3,o3,p3,q3) =>
     some (m3,n3,o3,p3,q3):Option (Int×Int×Int×List D×List D))).bind fun (r3,s3,u3,v3,w3) =>
   some (r3,s3,u3,v3,w3):Option (Int×Int×Int×List D×List D))).bind fun (y3,z3,a4,m0,b4) =>
 ((
  bif (A.zlt Y (A.len x4)) then
   (gt A (cI .i64) x4 Y).bind fun q2 =>
   some (A.zeq q2 d)
  else
   some false:Option (Bool))).bind fun c4 =>
 ((
  bif c4 then
   (gc A (cG (lc (cI .i64) (lc (cI .i64) (lc cB (lc (cI .i64) (lc (cI .i64) (lc (cI .i64) (lc (cI .i64) (l1 (cI .i64)))))))))) m0 (A.nat a)).bind fun (w4,y4,z4,C,a5,b5,c5,e5) =>
   (ck (A.zle 0 C)).bind fun _ =>
   (ck (A.zlt C (A.len F))).bind fun _ =>
   (gc A (cI .i64) F (A.nat C)).bind fun g5 =>
   some (A.lset F (A.nat C) (.int .i64 w))
  else
   some F:Option (List D))).bind fun d4 =>
 some (x2,x3,x4,(A.wrp .i64 (A.zadd w 1)),y3,z3,a4,m0,b4,d4)

def Z102L0 (A:Ar) (d c g i:List D) (j k l m:Int) (n e U:List D) (V:Int) (self177:List D->List D->List D->List D->Int->Int->Int->Int->List D->List D->List D->Int->List D->Option (List D)):(List D×Int)->Option ((List D×Int)⊕(List D)):=fun (b,a) =>
 bif (A.zlt a (A.len c)) then
  (Z103a A d c g i j k l m n e a).bind fun q =>
  ((
   bif q then
    (Z148 A d c g i j k l m n e).bind fun (r,s,u,v,w,y,z,B,C,E) =>
    (Z104a A a r s u v w y z B C E).bind fun (F,G,J,K,L,M,N,O,P,Q) =>
    (ap A [] U).bind fun o =>
    (ap A o [(.int .i64 a)]).bind fun p =>
    (self177 F G J O K L M N P Q p (A.wrp .i64 (A.zsub V 1)) b).bind fun R =>
    some R
   else
    some b:Option (List D))).bind fun S =>
  some (.inl (S,(A.wrp .i64 (A.zadd a 1))))
 else
  some (.inr b)

/--  *lineal linealref08.Play .ends -/
def Z102B (A:Ar) (self177:List D->List D->List D->List D->Int->Int->Int->Int->List D->List D->List D->Int->List D->Option (List D)) (a c d e:List D) (g i j k:Int) (l b m:List D) (n:Int) (o:List D):Option (List D) :=
 ((
  bif (A.zeq n 0) then
   some true
  else
   (Z65a A a c d e g i j k l b).bind fun q =>
   some q:Option (Bool))).bind fun s =>
 bif s then
  (ap A o [(.agg [(.ref [(.list 1 a),(.list 1 c),(.list 1 d),(.list 8 e),(.int .i64 g),(.int .i64 i),(.int .i64 j),(.int .i64 k),(.list 6 l),(.list 1 b)]),(.list 1 m)])]).bind fun p =>
  some p
 else
  (iter (Z102L0 A a c d e g i j k l b m n self177) (o,0)).bind (fun r =>
  some r)

def Z102R (A:Ar):Nat->List D->List D->List D->List D->Int->Int->Int->Int->List D->List D->List D->Int->List D->Option (List D)
 | 0=>fun _ _ _ _ _ _ _ _ _ _ _ _ _=>none
 | n+1=>fun a g i j k l m o p b c d e=>Z102B A (Z102R A n) a g i j k l m o p b c d e

def Z102 (A:Ar) (a g i j:List D) (k l m n:Int) (o b c:List D) (d:Int) (e:List D):Option (List D):=Z102R A fuel a g i j k l m n o b c d e

/-- lineal linealref08.all -/
def Z62 (A:Ar) (g i j:List D) (k:Int):Option (List D) :=
 (Z101 A g i j).bind fun (b,c,d,e) =>
 (Z102 A b c d e 0 0 0 0 [] [] [] k []).bind fun a =>
 some a

/-- lineal code.isSteps -/
def Z34 (A:Ar) (b:Int):Option (Bool) :=
 (Z82 A 0 b 12).bind fun a =>
 some a

/-- lineal code.Break$1 -/
def Z37 (A:Ar) (s J:List D) (M N O P Q R S u v w y z B C E F G K:Int) (a L m:List D) (n o:Int) (p q:List D) (b:List (D×D)) (r:List D):Option (Bool×List (D×D)×List D) :=
 (ck (A.zle (A.len a) (Int.ofNat 6))).bind fun _ =>
 (ck (A.zle (A.zmul (A.zadd 0 (Int.ofNat 6)) (Int.ofNat 6)) (A.len (A.rep (Int.ofNat 36) (.int .i64 0))))).bind fun _ =>
 ((
  (ga A (A.spl (A.rep (Int.ofNat 36) (.int .i64 0)) (A.zmul 0 (Int.ofNat 6)) (A.flat a)) (A.zadd 0 (Int.ofNat 0)) (Int.ofNat 36)).bind fun d =>
  (ck (A.conf [.int .i64,.int .i64,.int .i64,.int .i64,.int .i64,.int .i64,.int .i64,.int .i64,.int .i64,.int .i64,.int .i64,.int .i64,.int .i64,.int .i64,.int .i64,.int .i64,.int .i64,.int .i64,.int .i64,.int .i64,.int .i64,.int .i64,.int .i64,.int .i64,.int .i64,.int .i64,.int .i64,.int .i64,.int .i64,.int .i64,.int .i64,.int .i64,.int .i64,.int .i64,.int .i64,.int .i64] d)).bind fun _ =>
  (lk A cB b (.agg d)).bind fun i=>i.elim (
   some true) fun g =>
  some (!g):Option (Bool))).bind fun k =>
 jn (fun (l:List (D×D)) =>
  some (true,l,r)) fun c =>
  bif k then
   (Z38 A n o p q a).bind fun j =>
   bif j then
    (ga A (A.spl (A.rep (Int.ofNat 36) (.int .i64 0)) (A.zmul 0 (Int.ofNat 6)) (A.flat a)) (A.zadd 0 (Int.ofNat 0)) (Int.ofNat 36)).bind fun e =>
    (ck (A.conf [.int .i64,.int .i64,.int .i64,.int .i64,.int .i64,.int .i64,.int .i64,.int .i64,.int .i64,.int .i64,.int .i64,.int .i64,.int .i64,.int .i64,.int .i64,.int .i64,.int .i64,.int .i64,.int .i64,.int .i64,.int .i64,.int .i64,.int .i64,.int .i64,.int .i64,.int .i64,.int .i64,.int .i64,.int .i64,.int .i64,.int .i64,.int .i64,.int .i64,.int .i64,.int .i64,.int .i64] e)).bind fun _ =>
    c (A.mput b (.agg e) (.bool true))
   else
    some (false,b,m)
  else
   c b

def Z36eL0 (A:Ar) (x1 x2:List D) (x3 x4 x5 x6 x7 x8 x9 q0 r0 s0 u0 v0 w0 y0 z0 a1 b1 c1:Int) (d1 e1:List D) (g1:Int) (M a:List D) (i1 j1:Int) (k1 l1 J:List D) (self194:List D->List D->Int->Int->Int->Int->Int->Int->Int->Int->Int->Int->Int->Int->Int->Int->Int->Int->Int->Int->List D->List D->Int->List D->List D->Int->Int->List D->List D->(List (D×D))->List D->(Option (Bool×List (D×D)×List D))):(Int×List (D×D)×List D)->Option ((Int×List (D×D)×List D)⊕((List (D×D)×List D)⊕(List (D×D)×List D×List D×List D×Int×Int×Int×Int×Int×Int×Int×Int×Int×Int×Int×Int×Int×Int×Int×Int×Int×Int×List D×List D))):=fun (b,K,L) =>
 bif (A.zlt b (A.len J)) then
  (gt A (cI .i64) J b).bind fun c =>
  (Z83 A x1 x2 x3 x4 x5 x6 x7 x8 x9 q0 r0 s0 u0 v0 w0 y0 z0 a1 b1 c1 d1 e1).bind fun (P,Q,R,S,U,V,W,X,Y,a0,b0,c0,d0,e0,g0,i0,j0,k0,l0,m0,n0,o0) =>
  (Z84 A c M P Q R S U V W X Y a0 b0 c0 d0 e0 g0 i0 j0 k0 l0 m0 n0 o0).bind fun (d,e,g,i,j,k,l,m,n,o,p,q,r,s,u,v,w,y,z,B,C,E) =>
  (sl A a 0 (A.len a)).bind fun N =>
  (ck (A.zeq (A.len a) (A.len a))).bind fun _ =>
  (ap A N [(.int .i64 c)]).bind fun O =>
  (self194 d e g i j k l m n o p q r s u v w y z B C E g1 M O i1 j1 k1 l1 K L).bind fun (p0,F,G) =>
  bif p0 then
   some (.inl ((A.wrp .i64 (A.zadd b 1)),F,G))
  else
   some (.inr (.inr (F,G,d,e,g,i,j,k,l,m,n,o,p,q,r,s,u,v,w,y,z,B,C,E)))
 else
  some (.inr (.inl (K,L)))

/--  lineal code.run .all -/
def Z36eB (A:Ar) (self194:List D->List D->Int->Int->Int->Int->Int->Int->Int->Int->Int->Int->Int->Int->Int->Int->Int->Int->Int->Int->List D->List D->Int->List D->List D->Int->Int->List D->List D->(List (D×D))->List D->(Option (Bool×List (D×D)×List D))) (b o:List D) (r s u v w y z c d e g i j k l m n a:Int) (p q:List D) (C:Int) (W E:List D) (F G:Int) (J K:List D) (L:List (D×D)) (M:List D):Option (Bool×List (D×D)×List D) :=
 (Z55a A b o r s u v w y z c d e g i j k l m n a p q).bind fun B =>
 ((
  bif (A.zeq (A.len B) 0) then
   some true
  else
   some (A.zeq a C):Option (Bool))).bind fun V =>
 bif V then
  (Z37 A b o r s u v w y z c d e g i j k l m n a p q E F G J K L M).bind fun (N,O,P) =>
  some (N,O,P)
 else
  (iter (Z36eL0 A b o r s u v w y z c d e g i j k l m n a p q C W E F G J K B self194) (0,L,M)).bind (Sum.elim (fun (Q,R) =>
   some (true,Q,R)) (fun (S,U,X,Y,a0,b0,c0,d0,e0,g0,i0,j0,k0,l0,m0,n0,o0,p0,q0,r0,s0,u0,v0,w0) =>
   some (false,S,U)))

def Z36eR (A:Ar):Nat->List D->List D->Int->Int->Int->Int->Int->Int->Int->Int->Int->Int->Int->Int->Int->Int->Int->Int->Int->Int->List D->List D->Int->List D->List D->Int->Int->List D->List D->(List (D×D))->List D->(Option (Bool×List (D×D)×List D))
 | 0=>fun _ _ _ _ _ _ _ _ _ _ _ _ _ _ _ _ _ _ _ _ _ _ _ _ _ _ _ _ _ _ _=>none
 | n+1=>fun a o C G J K L M N b c d e g i j k l m p q r s u v w y z B E F=>Z36eB A (Z36eR A n) a o C G J K L M N b c d e g i j k l m p q r s u v w y z B E F

def Z36e (A:Ar) (a n:List D) (B F G J K L M b c d e g i j k l m o:Int) (p q:List D) (r:Int) (s u:List D) (v w:Int) (y z:List D) (C:List (D×D)) (E:List D):Option (Bool×List (D×D)×List D):=Z36eR A fuel a n B F G J K L M b c d e g i j k l m o p q r s u v w y z C E

def Z36dL0 (A:Ar) (x1 x2:List D) (x3 x4 x5 x6 x7 x8 x9 q0 r0 s0 u0 v0 w0 y0 z0 a1 b1 c1 d1:Int) (M a:List D) (e1 g1:Int) (i1 j1 k1 l1 J:List D):(Int×List D×List (D×D))->Option ((Int×List D×List (D×D))⊕((List D×List (D×D))⊕(List D×List (D×D)×List D×List D×Int×Int×Int×Int×Int×Int×Int×Int×Int×Int×Int×Int×Int×Int×Int×Int×Int×Int×List D×List D))):=fun (b,K,L) =>
 bif (A.zlt b (A.len J)) then
  (gt A (cI .i64) J b).bind fun c =>
  (Z83 A x1 x2 x3 x4 x5 x6 x7 x8 x9 q0 r0 s0 u0 v0 w0 y0 z0 a1 b1 c1 k1 l1).bind fun (P,Q,R,S,U,V,W,X,Y,a0,b0,c0,d0,e0,g0,i0,j0,k0,l0,m0,n0,o0) =>
  (Z84 A c M P Q R S U V W X Y a0 b0 c0 d0 e0 g0 i0 j0 k0 l0 m0 n0 o0).bind fun (d,e,g,i,j,k,l,m,n,o,p,q,r,s,u,v,w,y,z,B,C,E) =>
  (sl A a 0 (A.len a)).bind fun N =>
  (ck (A.zeq (A.len a) (A.len a))).bind fun _ =>
  (ap A N [(.int .i64 c)]).bind fun O =>
  (Z36e A d e g i j k l m n o p q r s u v w y z B C E d1 M O e1 g1 i1 j1 L K).bind fun (p0,F,G) =>
  bif p0 then
   some (.inl ((A.wrp .i64 (A.zadd b 1)),G,F))
  else
   some (.inr (.inr (G,F,d,e,g,i,j,k,l,m,n,o,p,q,r,s,u,v,w,y,z,B,C,E)))
 else
  some (.inr (.inl (K,L)))

/--  lineal code.run .all -/
def Z36d (A:Ar) (b o:List D) (p s u v w y z c d e g i j k l m n a C:Int) (W E:List D) (F G:Int) (J K L:List D) (M:List (D×D)) (q r:List D):Option (Bool×List D×List (D×D)) :=
 (Z55a A b o p s u v w y z c d e g i j k l m n a q r).bind fun B =>
 ((
  bif (A.zeq (A.len B) 0) then
   some true
  else
   some (A.zeq a C):Option (Bool))).bind fun V =>
 bif V then
  (Z37 A b o p s u v w y z c d e g i j k l m n a q r E F G J K M L).bind fun (N,O,P) =>
  some (N,P,O)
 else
  (iter (Z36dL0 A b o p s u v w y z c d e g i j k l m n a C W E F G J K q r B) (0,L,M)).bind (Sum.elim (fun (Q,R) =>
   some (true,Q,R)) (fun (S,U,X,Y,a0,b0,c0,d0,e0,g0,i0,j0,k0,l0,m0,n0,o0,p0,q0,r0,s0,u0,v0,w0) =>
   some (false,S,U)))

/-- lineal code.Break -/
def Z11 (A:Ar) (b c:Int) (d e g i:List D) (j:Int):Option (List D×Int) :=
 (Z33 A b c d e g i).bind fun a =>
 bif (A.zeq a 0) then
  (Z34 A j).bind fun k =>
  bif k then
   (Z35 A g i).bind fun (l,m) =>
   (Z36d A l m 0 0 0 0 0 0 0 0 0 0 0 0 0 0 0 0 0 0 j [] [] b c d e [] [] [] []).bind fun (n,o,q) =>
   bif n then
    some ([],5)
   else
    (Z39 A o).bind fun p =>
    some (p,0)
  else
   some ([],2)
 else
  some ([],a)

/-- lineal code.Sound -/
def Z10 (A:Ar) (b c:Int) (d e g i:List D) (j:Int):Option (Bool×Int) :=
 (Z11 A b c d e g i j).bind fun (k,a) =>
 bif (A.zeq a 5) then
  some (true,0)
 else
  some (false,a)

/-- lineal linealref08.counted -/
def Z61 (A:Ar) (e g:List D) (i:Int):Option (Int) :=
 (Z67 A e g).bind fun a =>
 ((
  bif (A.zeq a 0) then
   (Z77 A 0 i 12).bind fun b =>
   some (!b)
  else
   some false:Option (Bool))).bind fun d =>
 ((
  bif d then
   some 2
  else
   some a:Option (Int))).bind fun c =>
 some c

def Z20L0 (A:Ar) (g i:Int) (j k b:List D):Int->Option ((Int)⊕((Unit)⊕(List D))):=fun a =>
 bif (A.zlt a (A.len b)) then
  (gt A (cG (refN 10 (lc (cL 1) (lc (cL 1) (lc (cL 1) (lc (cL 8) (lc (cI .i64) (lc (cI .i64) (lc (cI .i64) (lc (cI .i64) (lc (cL 6) (lc (cL 1) (l1 (cL 1)))))))))))) (fun _=>lb rfl))) b a).bind fun (l,m,n,o,p,q,r,s,c,u,d) =>
  (Z63 A g i j k c).bind fun e =>
  bif e then
   some (.inl (A.wrp .i64 (A.zadd a 1)))
  else
   some (.inr (.inr d))
 else
  some (.inr (.inl ()))

/-- lineal linealref08.Break -/
def Z20 (A:Ar) (e g:Int) (i j a b:List D) (k:Int):Option (List D×Int) :=
 (Z60 A e g i j a b).bind fun c =>
 ((
  bif (A.zeq c 0) then
   (Z61 A a b k).bind fun l =>
   some l
  else
   some c:Option (Int))).bind fun d =>
 bif (A.zeq d 0) then
  (Z62 A a b [] k).bind fun m =>
  (iter (Z20L0 A e g i j m) 0).bind (Sum.elim (fun _ =>
   some ([],5)) (fun n =>
   some (n,0)))
 else
  some ([],d)

/-- lineal linealref08.Sound -/
def Z19 (A:Ar) (b c:Int) (d e g i:List D) (j:Int):Option (Bool×Int) :=
 (Z20 A b c d e g i j).bind fun (k,a) =>
 bif (A.zeq a 5) then
  some (true,0)
 else
  some (false,a)

/-- lineal lineallaw08.CodeSounds -/
def Z4 (A:Ar) (a b:Int) (c d e g:List D) (i:Int):Option (Bool) :=
 (Z18 A a b c d e g).bind fun v =>
 bif v then
  (Z9 A).bind fun j =>
  some j
 else
  (Z10 A a b c d e g i).bind fun (k,l) =>
  (Z19 A a b c d e g i).bind fun (m,n) =>
  (Z11 A a b c d e g i).bind fun (o,p) =>
  (Z20 A a b c d e g i).bind fun (q,r) =>
  ((
   bif (A.beq k m) then
    bif (A.zeq l n) then
     (Z21 A o q).bind fun s =>
     bif s then
      bif (A.zeq p r) then
       (Z9 A).bind fun u =>
       some u
      else
       some false
     else
      some false
    else
     some false
   else
    some false:Option (Bool))).bind fun w =>
  some w
end
end Go.Am
