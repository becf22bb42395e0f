/- Own text: Genp1. -/
import Derived.Test.YtkjeamngjnfpkaaGenp0
set_option maxRecDepth 100000
set_option maxHeartbeats 2000000
set_option linter.unusedVariables false
set_option linter.unusedSimpArgs false
namespace Go.Am
noncomputable section
open Go
/-- slices.CompareFunc   lineal api.Call   lineal api.Call lineal api.Call lineal api.Call  -/
def K96 (A:Ar) (a b:List D):Option (Int) :=
 (iter (K96L0 A a b) 0).bind (Sum.elim (fun _ =>
  bif (A.zlt (A.len a) (A.len b)) then
   some (-1)
  else
   some 0) (fun c =>
  some c))

/-- lineal code.Histories$2 -/
def K95 (A:Ar) (b c:List D):Option (Int) :=
 (K96 A b c).bind fun a =>
 some a

def K94a (A:Ar) (c d g i:Int) (e:List D):Option (List D):=srt (cL 6) (fun a b=>K95 A a b) c d e

def K99L0 (A:Ar) (b q:List D):Int->Option ((Int)⊕((Unit)⊕(Unit))):=fun a =>
 bif (A.zlt a (A.len b)) then
  (gt A (cG (lc (cI .i64) (lc (cI .i64) (lc (cI .i64) (lc (cI .i64) (lc (cI .i64) (l1 (cI .i64)))))))) b a).bind fun (c,d,e,g,i,j) =>
  (gt A (cG (lc (cI .i64) (lc (cI .i64) (lc (cI .i64) (lc (cI .i64) (lc (cI .i64) (l1 (cI .i64)))))))) q a).bind fun (k,l,m,n,o,p) =>
  bif (A.deq [(.int .i64 c),(.int .i64 d),(.int .i64 e),(.int .i64 g),(.int .i64 i),(.int .i64 j)] [(.int .i64 k),(.int .i64 l),(.int .i64 m),(.int .i64 n),(.int .i64 o),(.int .i64 p)]) then
   some (.inl (A.wrp .i64 (A.zadd a 1)))
  else
   some (.inr (.inr ()))
 else
  some (.inr (.inl ()))

/-- slices.Equal   lineal api.Call lineal api.Call  -/
def K99 (A:Ar) (a b:List D):Option (Bool) :=
 bif (A.zeq (A.len a) (A.len b)) then
  (iter (K99L0 A a b) 0).bind (Sum.elim (fun _ =>
   some true) (fun _ =>
   some false))
 else
  some false

def K98L0 (A:Ar) (e g b:Int):(Int×Int×List D)->Option ((Int×Int×List D)⊕(Int×List D)):=fun (c,a,d) =>
 bif (A.zlt a (A.zsub g b)) then
  (ck (A.zle 0 a)).bind fun _ =>
  (ck (A.zlt a (A.zsub g b))).bind fun _ =>
  (gc A (cL 6) d (A.nat (A.zadd (A.zadd e b) a))).bind fun i =>
  (ck (A.zle 0 (A.wrp .i64 (A.zsub a 1)))).bind fun _ =>
  (ck (A.zlt (A.wrp .i64 (A.zsub a 1)) (A.zsub g b))).bind fun _ =>
  (gc A (cL 6) d (A.nat (A.zadd (A.zadd e b) (A.wrp .i64 (A.zsub a 1))))).bind fun j =>
  (K99 A i j).bind fun l =>
  ((
   bif l then
    some (c,d)
   else
    (ck (A.zle 0 a)).bind fun _ =>
    (ck (A.zlt a (A.zsub g b))).bind fun _ =>
    (gc A (cL 6) d (A.nat (A.zadd (A.zadd e b) a))).bind fun k =>
    (ck (A.zle 0 c)).bind fun _ =>
    (ck (A.zlt c g)).bind fun _ =>
    (A.lget d (A.nat (A.zadd e c))).bind fun o =>
    some ((A.wrp .i64 (A.zadd c 1)),(A.lset d (A.nat (A.zadd e c)) (.list 6 k))):Option (Int×List D))).bind fun (m,n) =>
  some (.inl (m,(A.wrp .i64 (A.zadd a 1)),n))
 else
  some (.inr (c,d))

def K98L1 (A:Ar) (d a:Int) (e:List D):Int->Option ((Int)⊕((Unit)⊕(Int×List D))):=fun b =>
 bif (A.zlt b a) then
  (ck (A.zle 0 b)).bind fun _ =>
  (ck (A.zlt b a)).bind fun _ =>
  (gc A (cL 6) e (A.nat (A.zadd d b))).bind fun i =>
  (ck (A.zle 0 (A.wrp .i64 (A.zsub b 1)))).bind fun _ =>
  (ck (A.zlt (A.wrp .i64 (A.zsub b 1)) a)).bind fun _ =>
  (gc A (cL 6) e (A.nat (A.zadd d (A.wrp .i64 (A.zsub b 1))))).bind fun j =>
  (K99 A i j).bind fun k =>
  bif k then
   (ck (A.zle 0 b)).bind fun _ =>
   (ck (A.zle b a)).bind fun _ =>
   (ck (A.zle a a)).bind fun _ =>
   (iter (K98L0 A d a b) (b,1,e)).bind (fun (c,g) =>
   (ck (A.zle 0 c)).bind fun _ =>
   (ck (A.zle c a)).bind fun _ =>
   (ck (A.zle a a)).bind fun _ =>
   (ck (A.zle (A.zadd (A.zadd d c) (A.zsub a c)) (A.len g))).bind fun _ =>
   (ck (A.zle 0 0)).bind fun _ =>
   (ck (A.zle 0 c)).bind fun _ =>
   (ck (A.zle c a)).bind fun _ =>
   some (.inr (.inr ((A.zsub c 0),(A.fill g (A.zadd d c) (A.zsub a c) (.list 6 []))))))
  else
   some (.inl (A.wrp .i64 (A.zadd b 1)))
 else
  some (.inr (.inl ()))

/-- slices.CompactFunc     lineal api.Call   lineal api.Call  -/
def K98 (A:Ar) (a b g i:Int) (c:List D):Option (Int×Int×List D) :=
 bif (A.zlt b 2) then
  some (a,b,c)
 else
  (iter (K98L1 A a b c) 1).bind (Sum.elim (fun _ =>
   some (a,b,c)) (fun (d,e) =>
   some ((A.zadd a 0),d,e)))

def K98aL0 (A:Ar) (b:List D):Int->Option ((Int)⊕(Unit)):=fun a =>
 bif (A.zlt a (A.len b)) then
  (gt A (cL 6) b a).bind fun c =>
  (gt A (cL 6) b (A.wrp .i64 (A.zsub a 1))).bind fun d =>
  (K99 A c d).bind fun e =>
  bif e then
   some (.inl (A.wrp .i64 (A.zadd a 1)))
  else
   none
 else
  some (.inr ())

def K98aL1 (A:Ar) (a:List D):Int->Option ((Int)⊕(Unit)):=fun b =>
 bif (A.zlt b (A.len a)) then
  (gt A (cL 6) a b).bind fun c =>
  (gt A (cL 6) a (A.wrp .i64 (A.zsub b 1))).bind fun d =>
  (K99 A c d).bind fun g =>
  bif g then
   (sl A a b (A.len a)).bind fun e =>
   (iter (K98aL0 A e) 1).bind (fun _ =>
   (sl A a b (A.len a)).bind fun i =>
   none)
  else
   some (.inl (A.wrp .i64 (A.zadd b 1)))
 else
  some (.inr ())

/-- slices.CompactFunc     lineal api.Call   lineal api.Call  -/
def K98a (A:Ar) (a:List D):Option (List D) :=
 bif (A.zlt (A.len a) 2) then
  some a
 else
  (iter (K98aL1 A a) 1).bind (fun _ =>
  some a)

/-- lineal code.Histories -/
def K38 (A:Ar) (c d:List D) (e:Int):Option (List D×Int) :=
 (K89 A c d).bind fun b =>
 bif (A.zeq b 0) then
  (K84 A e).bind fun p =>
  bif p then
   (K69 A c d).bind fun (i,j) =>
   (K85b A i j 0 0 0 0 0 0 0 0 0 0 0 0 0 0 0 0 0 0 e [] [] [] [] []).bind fun (q,a) =>
   bif (A.zlt 0 (A.len a)) then
    (ck (loose a)).bind fun _ =>
    (K94a A 0 (A.len a) 0 (A.len a) a).bind fun k =>
    (K98 A 0 (A.len a) 0 (A.len a) k).bind fun (l,m,n) =>
    (fz A n l m).bind fun g =>
    some (g,0)
   else
    (K94 A a).bind fun () =>
    (K98a A a).bind fun o =>
    some (o,0)
  else
   some ([],2)
 else
  some ([],b)

def K161L0 (A:Ar) (c:List D):(List D×Int)->Option ((List D×Int)⊕(List D)):=fun (b,a) =>
 bif (A.zlt a (A.len c)) then
  (gt A (cG (lc (cI .i64) (lc (cI .i64) (lc (cI .i64) (lc (cI .i64) (lc (cI .i64) (l1 (cI .i64)))))))) c a).bind fun (d,l,e,g,i,j) =>
  (ap A b [(.agg [(.int .i64 d),(.int .i64 e),(.int .i64 g),(.int .i64 i),(.int .i64 j)])]).bind fun k =>
  some (.inl (k,(A.wrp .i64 (A.zadd a 1))))
 else
  some (.inr b)

/-- lineal linealref08.key -/
def K161 (A:Ar) (b:List D):Option (List D) :=
 (iter (K161L0 A b) ([],0)).bind (fun a =>
 some a)

def K133L0 (A:Ar) (d c:List D) (a:Int):Int->Option ((Int)⊕((Unit)⊕(Int))):=fun b =>
 bif (A.zlt b 5) then
  ((
   (gt A (cG (lc (cI .i64) (lc (cI .i64) (lc (cI .i64) (lc (cI .i64) (l1 (cI .i64))))))) d a).bind fun (e,g,i,j,k) =>
   bif (A.zeq b 0) then
    (gt A (cG (lc (cI .i64) (lc (cI .i64) (lc (cI .i64) (lc (cI .i64) (l1 (cI .i64))))))) c a).bind fun (l,G,J,K,L) =>
    some (!(A.zeq e l))
   else
    bif (A.zeq b 1) then
     (gt A (cG (lc (cI .i64) (lc (cI .i64) (lc (cI .i64) (lc (cI .i64) (l1 (cI .i64))))))) c a).bind fun (M,m,N,O,P) =>
     some (!(A.zeq g m))
    else
     bif (A.zeq b 2) then
      (gt A (cG (lc (cI .i64) (lc (cI .i64) (lc (cI .i64) (lc (cI .i64) (l1 (cI .i64))))))) c a).bind fun (Q,R,n,S,U) =>
      some (!(A.zeq i n))
     else
      bif (A.zeq b 3) then
       (gt A (cG (lc (cI .i64) (lc (cI .i64) (lc (cI .i64) (lc (cI .i64) (l1 (cI .i64))))))) c a).bind fun (V,W,X,o,Y) =>
       some (!(A.zeq j o))
      else
       bif (A.zeq b 4) then
        (gt A (cG (lc (cI .i64) (lc (cI .i64) (lc (cI .i64) (lc (cI .i64) (l1 (cI .i64))))))) c a).bind fun (a0,b0,c0,d0,p) =>
        some (!(A.zeq k p))
       else
        none:Option (Bool))).bind fun E =>
  bif E then
   ((
    (gt A (cG (lc (cI .i64) (lc (cI .i64) (lc (cI .i64) (lc (cI .i64) (l1 (cI .i64))))))) d a).bind fun (q,r,s,u,v) =>
    bif (A.zeq b 0) then
     (gt A (cG (lc (cI .i64) (lc (cI .i64) (lc (cI .i64) (lc (cI .i64) (l1 (cI .i64))))))) c a).bind fun (w,e0,g0,i0,j0) =>
     some (A.wrp .i64 (A.zsub q w))
    else
     bif (A.zeq b 1) then
      (gt A (cG (lc (cI .i64) (lc (cI .i64) (lc (cI .i64) (lc (cI .i64) (l1 (cI .i64))))))) c a).bind fun (k0,y,l0,m0,n0) =>
      some (A.wrp .i64 (A.zsub r y))
     else
      bif (A.zeq b 2) then
       (gt A (cG (lc (cI .i64) (lc (cI .i64) (lc (cI .i64) (lc (cI .i64) (l1 (cI .i64))))))) c a).bind fun (o0,p0,z,q0,r0) =>
       some (A.wrp .i64 (A.zsub s z))
      else
       bif (A.zeq b 3) then
        (gt A (cG (lc (cI .i64) (lc (cI .i64) (lc (cI .i64) (lc (cI .i64) (l1 (cI .i64))))))) c a).bind fun (s0,u0,v0,B,w0) =>
        some (A.wrp .i64 (A.zsub u B))
       else
        bif (A.zeq b 4) then
         (gt A (cG (lc (cI .i64) (lc (cI .i64) (lc (cI .i64) (lc (cI .i64) (l1 (cI .i64))))))) c a).bind fun (y0,z0,a1,b1,C) =>
         some (A.wrp .i64 (A.zsub v C))
        else
         none:Option (Int))).bind fun F =>
   some (.inr (.inr F))
  else
   some (.inl (A.wrp .i64 (A.zadd b 1)))
 else
  some (.inr (.inl ()))

def K133L1 (A:Ar) (b c:List D):Int->Option ((Int)⊕((Unit)⊕(Int))):=fun a =>
 ((
  bif (A.zlt a (A.len b)) then
   some (A.zlt a (A.len c))
  else
   some false:Option (Bool))).bind fun d =>
 bif d then
  (iter (K133L0 A b c a) 0).bind (Sum.elim (fun _ =>
   some (.inl (A.wrp .i64 (A.zadd a 1)))) (fun e =>
   some (.inr (.inr e))))
 else
  some (.inr (.inl ()))

/-- lineal linealref08.compare -/
def K133 (A:Ar) (d e:List D):Option (Int) :=
 (K161 A d).bind fun a =>
 (K161 A e).bind fun b =>
 (iter (K133L1 A a b) 0).bind (Sum.elim (fun _ =>
  some (A.wrp .i64 (A.zsub (A.len a) (A.len b)))) (fun c =>
  some c))

def K100L0 (A:Ar) (j c:List D):(Int×Int)->Option ((Int×Int)⊕(Int)):=fun (a,b) =>
 bif (A.zlt a b) then
  (nk (A.zeq 2 0)).bind fun _ =>
  (ck (A.zle 0 (A.quo .i64 (A.wrp .i64 (A.zadd a b)) 2))).bind fun _ =>
  (ck (A.zlt (A.quo .i64 (A.wrp .i64 (A.zadd a b)) 2) (A.len c))).bind fun _ =>
  (gc A (cL 6) c (A.nat (A.quo .i64 (A.wrp .i64 (A.zadd a b)) 2))).bind fun d =>
  (K133 A d j).bind fun e =>
  ((
   bif (A.zlt e 0) then
    some ((A.wrp .i64 (A.zadd (A.quo .i64 (A.wrp .i64 (A.zadd a b)) 2) 1)),b)
   else
    some (a,(A.quo .i64 (A.wrp .i64 (A.zadd a b)) 2)):Option (Int×Int))).bind fun (g,i) =>
  some (.inl (g,i))
 else
  some (.inr a)

def K100L1 (A:Ar) (d:Int):(Int×List D)->Option ((Int×List D)⊕(List D)):=fun (a,b) =>
 bif (A.zlt d a) then
  (ck (A.zle 0 (A.wrp .i64 (A.zsub a 1)))).bind fun _ =>
  (ck (A.zlt (A.wrp .i64 (A.zsub a 1)) (A.len b))).bind fun _ =>
  (gc A (cL 6) b (A.nat (A.wrp .i64 (A.zsub a 1)))).bind fun c =>
  (ck (A.zle 0 a)).bind fun _ =>
  (ck (A.zlt a (A.len b))).bind fun _ =>
  (gc A (cL 6) b (A.nat a)).bind fun e =>
  some (.inl ((A.wrp .i64 (A.zsub a 1)),(A.lset b (A.nat a) (.list 6 c))))
 else
  some (.inr b)

/-- lineal linealref08.put -/
def K100 (A:Ar) (d b:List D):Option (List D) :=
 (iter (K100L0 A d b) (0,(A.len b))).bind (fun a =>
 ((
  bif (A.zlt a (A.len b)) then
   (ck (A.zle 0 a)).bind fun _ =>
   (ck (A.zlt a (A.len b))).bind fun _ =>
   (gc A (cL 6) b (A.nat a)).bind fun g =>
   (K133 A g d).bind fun i =>
   some (A.zeq i 0)
  else
   some false:Option (Bool))).bind fun j =>
 bif j then
  some b
 else
  (ap A b [(.list 6 [])]).bind fun e =>
  (iter (K100L1 A a) ((A.wrp .i64 (A.zsub (A.len e) 1)),e)).bind (fun c =>
  (ck (A.zle 0 a)).bind fun _ =>
  (ck (A.zlt a (A.len c))).bind fun _ =>
  (gc A (cL 6) c (A.nat a)).bind fun k =>
  some (A.lset c (A.nat a) (.list 6 d))))

def K39L0 (A:Ar) (b:List D):(Int×List D)->Option ((Int×List D)⊕(List D)):=fun (a,c) =>
 bif (A.zlt a (A.len b)) then
  (gt A (cG (refN 10 (lc (cL 1) (lc (cL 1) (lc (cL 1) (lc (cL 8) (lc (cI .i64) (lc (cI .i64) (lc (cI .i64) (lc (cI .i64) (lc (cL 6) (lc (cL 1) (l1 (cL 1)))))))))))) (fun _=>lb rfl))) b a).bind fun (g,i,j,k,l,m,n,o,d,p,q) =>
  (K100 A d c).bind fun e =>
  some (.inl ((A.wrp .i64 (A.zadd a 1)),e))
 else
  some (.inr c)

/-- lineal linealref08.Histories -/
def K39 (A:Ar) (b c:List D) (d:Int):Option (List D×Int) :=
 (K91 A b c d).bind fun a =>
 bif (A.zeq a 0) then
  (K92 A b c [] d).bind fun e =>
  (iter (K39L0 A e) (0,[])).bind (fun g =>
  some (g,0))
 else
  some ([],a)

def K17L0 (A:Ar) (b q:List D):Int->Option ((Int)⊕((Unit)⊕(Unit))):=fun a =>
 bif (A.zlt a (A.len b)) then
  (gt A (cG (lc (cI .i64) (lc (cI .i64) (lc (cI .i64) (lc (cI .i64) (lc (cI .i64) (l1 (cI .i64)))))))) b a).bind fun (c,d,e,g,i,j) =>
  (gt A (cG (lc (cI .i64) (lc (cI .i64) (lc (cI .i64) (lc (cI .i64) (lc (cI .i64) (l1 (cI .i64)))))))) q a).bind fun (k,l,m,n,o,p) =>
  bif (A.deq [(.int .i64 c),(.int .i64 d),(.int .i64 e),(.int .i64 g),(.int .i64 i),(.int .i64 j)] [(.int .i64 k),(.int .i64 l),(.int .i64 m),(.int .i64 n),(.int .i64 o),(.int .i64 p)]) then
   some (.inl (A.wrp .i64 (A.zadd a 1)))
  else
   some (.inr (.inr ()))
 else
  some (.inr (.inl ()))

/-- lineal linealref02.Same -/
def K17 (A:Ar) (a b:List D):Option (Bool) :=
 bif (A.zeq (A.len a) (A.len b)) then
  (iter (K17L0 A a b) 0).bind (Sum.elim (fun _ =>
   some true) (fun _ =>
   some false))
 else
  some false

def K40L0 (A:Ar) (b g:List D):Int->Option ((Int)⊕((Unit)⊕(Unit))):=fun a =>
 bif (A.zlt a (A.len b)) then
  (gt A (cL 6) b a).bind fun c =>
  (gt A (cL 6) g a).bind fun d =>
  (K17 A c d).bind fun e =>
  bif e then
   some (.inl (A.wrp .i64 (A.zadd a 1)))
  else
   some (.inr (.inr ()))
 else
  some (.inr (.inl ()))

/-- lineal linealref08.SameHistories -/
def K40 (A:Ar) (a b:List D):Option (Bool) :=
 bif (A.zeq (A.len a) (A.len b)) then
  (iter (K40L0 A a b) 0).bind (Sum.elim (fun _ =>
   some true) (fun _ =>
   some false))
 else
  some false

/-- lineal lineallaw08.CodeSchedules -/
def K7 (A:Ar) (s u:Int) (v w a b:List D) (c:Int):Option (Bool) :=
 (K9 A s u v w a b).bind fun q =>
 bif q then
  (K10 A).bind fun d =>
  some d
 else
  (K36 A a b c).bind fun (e,g) =>
  (K37 A a b c).bind fun (i,j) =>
  (K38 A a b c).bind fun (k,l) =>
  (K39 A a b c).bind fun (m,n) =>
  ((
   bif (A.zeq e i) then
    bif (A.zeq g j) then
     (K40 A k m).bind fun o =>
     bif o then
      bif (A.zeq l n) then
       (K10 A).bind fun p =>
       some p
      else
       some false
     else
      some false
    else
     some false
   else
    some false:Option (Bool))).bind fun r =>
  some r
end
end Go.Am
