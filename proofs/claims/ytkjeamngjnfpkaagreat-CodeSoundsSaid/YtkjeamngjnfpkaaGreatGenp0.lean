/- Own text: Genp0. -/
import Derived.Test.YtkjeamngjnfpkaaGreatAmLaw
import Derived.Test.YtkjeamngjnfpkaaGreatAmLaw
import Derived.Test.YtkjeamngjnfpkaaGreatAmLaw
set_option maxRecDepth 100000
set_option maxHeartbeats 2000000
set_option linter.unusedVariables false
set_option linter.unusedSimpArgs false
namespace Go.Am
noncomputable section
open Go
def Z59L0 (A:Ar) (b:List D):Int->Option ((Int)⊕((Unit)⊕(Unit))):=fun a =>
 bif (A.zlt a (A.len b)) then
  (gt A (cL 1) b a).bind fun c =>
  bif (A.zlt 20 (A.len c)) then
   some (.inr (.inr ()))
  else
   some (.inl (A.wrp .i64 (A.zadd a 1)))
 else
  some (.inr (.inl ()))

def Z59L1 (A:Ar) (b:List D):Int->Option ((Int)⊕((Unit)⊕(Unit))):=fun a =>
 bif (A.zlt a (A.len b)) then
  (gt A (cL 1) b a).bind fun c =>
  bif (A.zlt 20 (A.len c)) then
   some (.inr (.inr ()))
  else
   some (.inl (A.wrp .i64 (A.zadd a 1)))
 else
  some (.inr (.inl ()))

def Z59L2 (A:Ar) (d:List D):Int->Option ((Int)⊕((Unit)⊕(Unit))):=fun a =>
 bif (A.zlt a (A.len d)) then
  (gt A (cG (lc (cI .i64) (lc (cI .i64) (lc (cL 1) (l1 (cL 1)))))) d a).bind fun (g,i,b,c) =>
  ((
   bif (A.zlt 20 (A.len b)) then
    some true
   else
    some (A.zlt 20 (A.len c)):Option (Bool))).bind fun e =>
  bif e then
   some (.inr (.inr ()))
  else
   (iter (Z59L0 A b) 0).bind (Sum.elim (fun _ =>
    (iter (Z59L1 A c) 0).bind (Sum.elim (fun _ =>
     some (.inl (A.wrp .i64 (A.zadd a 1)))) (fun _ =>
     some (.inr (.inr ()))))) (fun _ =>
    some (.inr (.inr ()))))
 else
  some (.inr (.inl ()))

/-- lineal lineallaw02.Large -/
def Z59 (A:Ar) (a:List D):Option (Bool) :=
 (iter (Z59L2 A a) 0).bind (Sum.elim (fun _ =>
  some (A.zlt 5 (A.len a))) (fun _ =>
  some true))

def Z18L0 (A:Ar) (b:List D):Int->Option ((Int)⊕((Unit)⊕(Unit))):=fun a =>
 bif (A.zlt a (A.len b)) then
  (gt A (cL 4) b a).bind fun c =>
  bif (A.zlt 30 (A.len c)) then
   some (.inr (.inr ()))
  else
   some (.inl (A.wrp .i64 (A.zadd a 1)))
 else
  some (.inr (.inl ()))

def Z18L1 (A:Ar) (b:List D):Int->Option ((Int)⊕((Unit)⊕(Unit))):=fun a =>
 bif (A.zlt a (A.len b)) then
  (gt A (cL 1) b a).bind fun c =>
  bif (A.zlt 20 (A.len c)) then
   some (.inr (.inr ()))
  else
   some (.inl (A.wrp .i64 (A.zadd a 1)))
 else
  some (.inr (.inl ()))

/-- lineal lineallaw08.Large -/
def Z18 (A:Ar) (e g:Int) (i j a b:List D):Option (Bool) :=
 (iter (Z18L0 A a) 0).bind (Sum.elim (fun _ =>
  (iter (Z18L1 A b) 0).bind (Sum.elim (fun _ =>
   ((
    (Z59 A [(.agg [(.int .i64 e),(.int .i64 g),(.list 1 i),(.list 1 j)])]).bind fun c =>
    bif c then
     some true
    else
     bif (A.zlt 10 (A.len a)) then
      some true
     else
      some (A.zlt 10 (A.len b)):Option (Bool))).bind fun d =>
   some d) (fun _ =>
   some true))) (fun _ =>
  some true))

/-- lineal code.between -/
def Z82 (A:Ar) (c a d:Int):Option (Bool) :=
 ((
  bif (A.zle c a) then
   some (A.zle a d)
  else
   some false:Option (Bool))).bind fun b =>
 some b

/-- lineal code.isRegister$1 -/
def Z199 (A:Ar) (b:Int):Option (Bool) :=
 (Z82 A 0 b 3).bind fun a =>
 some (!a)

def Z189L0 (A:Ar) (b:List D):Int->Option ((Int)⊕((Unit)⊕(Int))):=fun a =>
 bif (A.zlt a (A.len b)) then
  (gt A (cI .i64) b a).bind fun c =>
  (Z199 A c).bind fun d =>
  bif d then
   some (.inr (.inr a))
  else
   some (.inl (A.wrp .i64 (A.zadd a 1)))
 else
  some (.inr (.inl ()))

/-- slices.IndexFunc   int int  -/
def Z189 (A:Ar) (b:List D):Option (Int) :=
 (iter (Z189L0 A b) 0).bind (Sum.elim (fun _ =>
  some (-1)) (fun a =>
  some a))

/-- slices.ContainsFunc   int int  -/
def Z158 (A:Ar) (b:List D):Option (Bool) :=
 (Z189 A b).bind fun a =>
 some (A.zle 0 a)

/-- lineal code.isRegister -/
def Z187 (A:Ar) (b:List D):Option (Bool) :=
 (Z158 A b).bind fun a =>
 some (!a)

/-- lineal code.isCell -/
def Z188 (A:Ar) (b:Int):Option (Bool) :=
 (Z82 A 0 b 2).bind fun a =>
 some a

/-- lineal code.isLine -/
def Z156 (A:Ar) (a b c d B:Int):Option (Bool) :=
 bif (A.zeq a 1) then
  ((
   (Z187 A [(.int .i64 b)]).bind fun r =>
   bif r then
    (Z188 A c).bind fun e =>
    bif e then
     some (A.zeq d 0)
    else
     some false
   else
    some false:Option (Bool))).bind fun s =>
  some s
 else
  bif (A.zeq a 2) then
   ((
    (Z188 A b).bind fun g =>
    bif g then
     (Z187 A [(.int .i64 c)]).bind fun i =>
     bif i then
      some (A.zeq d 0)
     else
      some false
    else
     some false:Option (Bool))).bind fun u =>
   some u
  else
   bif (A.zeq a 3) then
    ((
     (Z188 A b).bind fun j =>
     bif j then
      (Z187 A [(.int .i64 c),(.int .i64 d)]).bind fun k =>
      some k
     else
      some false:Option (Bool))).bind fun v =>
    some v
   else
    bif (A.zeq a 4) then
     ((
      (Z187 A [(.int .i64 b)]).bind fun l =>
      bif l then
       (Z82 A 0 c 9).bind fun m =>
       bif m then
        some (A.zeq d 0)
       else
        some false
      else
       some false:Option (Bool))).bind fun w =>
     some w
    else
     bif (A.zeq a 5) then
      (Z187 A [(.int .i64 b),(.int .i64 c),(.int .i64 d)]).bind fun n =>
      some n
     else
      bif (A.zeq a 6) then
       ((
        (Z187 A [(.int .i64 b)]).bind fun o =>
        bif o then
         (Z82 A 0 c (A.wrp .i64 (A.zsub B 1))).bind fun p =>
         bif p then
          some (A.zeq d 0)
         else
          some false
        else
         some false:Option (Bool))).bind fun y =>
       some y
      else
       bif (A.zeq a 7) then
        ((
         (Z187 A [(.int .i64 b)]).bind fun q =>
         bif q then
          bif (A.zeq c 0) then
           some (A.zeq d 0)
          else
           some false
         else
          some false:Option (Bool))).bind fun z =>
        some z
       else
        some false

/-- lineal code.isCall$1 -/
def Z155 (A:Ar) (b c d e:Int) (g:List D):Option (Bool) :=
 (Z156 A b c d e (A.len g)).bind fun a =>
 some (!a)

def Z186L0 (A:Ar) (b j:List D):Int->Option ((Int)⊕((Unit)⊕(Int))):=fun a =>
 bif (A.zlt a (A.len b)) then
  (gt A (cG (lc (cI .i64) (lc (cI .i64) (lc (cI .i64) (l1 (cI .i64)))))) b a).bind fun (c,d,e,g) =>
  (Z155 A c d e g j).bind fun i =>
  bif i then
   some (.inr (.inr a))
  else
   some (.inl (A.wrp .i64 (A.zadd a 1)))
 else
  some (.inr (.inl ()))

/-- slices.IndexFunc   lineal api.Line lineal api.Line  -/
def Z186 (A:Ar) (b c:List D):Option (Int) :=
 (iter (Z186L0 A b c) 0).bind (Sum.elim (fun _ =>
  some (-1)) (fun a =>
  some a))

/-- slices.ContainsFunc   lineal api.Line lineal api.Line  -/
def Z154 (A:Ar) (b c:List D):Option (Bool) :=
 (Z186 A b c).bind fun a =>
 some (A.zle 0 a)

/-- lineal code.isCall -/
def Z114 (A:Ar) (a:List D):Option (Bool) :=
 ((
  (Z82 A 1 (A.len a) 8).bind fun c =>
  bif c then
   (Z154 A a a).bind fun d =>
   bif d then
    some false
   else
    (gt A (cG (lc (cI .i64) (lc (cI .i64) (lc (cI .i64) (l1 (cI .i64)))))) a (A.wrp .i64 (A.zsub (A.len a) 1))).bind fun (b,j,g,i) =>
    some (A.zeq b 7)
  else
   some false:Option (Bool))).bind fun e =>
 some e

/-- lineal code.Valid$1 -/
def Z113 (A:Ar) (b:List D):Option (Bool) :=
 (Z114 A b).bind fun a =>
 some (!a)

def Z153L0 (A:Ar) (b:List D):Int->Option ((Int)⊕((Unit)⊕(Int))):=fun a =>
 bif (A.zlt a (A.len b)) then
  (gt A (cL 4) b a).bind fun c =>
  (Z113 A c).bind fun d =>
  bif d then
   some (.inr (.inr a))
  else
   some (.inl (A.wrp .i64 (A.zadd a 1)))
 else
  some (.inr (.inl ()))

/-- slices.IndexFunc     lineal api.Line   lineal api.Line  -/
def Z153 (A:Ar) (b:List D):Option (Int) :=
 (iter (Z153L0 A b) 0).bind (Sum.elim (fun _ =>
  some (-1)) (fun a =>
  some a))

/-- slices.ContainsFunc     lineal api.Line   lineal api.Line  -/
def Z112 (A:Ar) (b:List D):Option (Bool) :=
 (Z153 A b).bind fun a =>
 some (A.zle 0 a)

/-- lineal code.Valid -/
def Z80 (A:Ar) (a:List D):Option (Bool) :=
 ((
  (Z82 A 1 (A.len a) 4).bind fun b =>
  bif b then
   (Z112 A a).bind fun c =>
   some (!c)
  else
   some false:Option (Bool))).bind fun d =>
 some d

/-- lineal code.isWord$1 -/
def Z165 (A:Ar) (b:Int) (c:List D):Option (Bool) :=
 (Z82 A 0 b (A.wrp .i64 (A.zsub (A.len c) 1))).bind fun a =>
 some (!a)

def Z189aL0 (A:Ar) (b e:List D):Int->Option ((Int)⊕((Unit)⊕(Int))):=fun a =>
 bif (A.zlt a (A.len b)) then
  (gt A (cI .i64) b a).bind fun c =>
  (Z165 A c e).bind fun d =>
  bif d then
   some (.inr (.inr a))
  else
   some (.inl (A.wrp .i64 (A.zadd a 1)))
 else
  some (.inr (.inl ()))

/-- slices.IndexFunc   int int  -/
def Z189a (A:Ar) (b c:List D):Option (Int) :=
 (iter (Z189aL0 A b c) 0).bind (Sum.elim (fun _ =>
  some (-1)) (fun a =>
  some a))

/-- slices.ContainsFunc   int int  -/
def Z158a (A:Ar) (b c:List D):Option (Bool) :=
 (Z189a A b c).bind fun a =>
 some (A.zle 0 a)

/-- lineal code.isWord -/
def Z124 (A:Ar) (d a:List D):Option (Bool) :=
 ((
  bif (A.zle (A.len a) 3) then
   (Z158a A a d).bind fun b =>
   some (!b)
  else
   some false:Option (Bool))).bind fun c =>
 some c

/-- lineal code.isUse$1 -/
def Z123 (A:Ar) (b c:List D):Option (Bool) :=
 (Z124 A c b).bind fun a =>
 some (!a)

def Z164L0 (A:Ar) (b e:List D):Int->Option ((Int)⊕((Unit)⊕(Int))):=fun a =>
 bif (A.zlt a (A.len b)) then
  (gt A (cL 1) b a).bind fun c =>
  (Z123 A c e).bind fun d =>
  bif d then
   some (.inr (.inr a))
  else
   some (.inl (A.wrp .i64 (A.zadd a 1)))
 else
  some (.inr (.inl ()))

/-- slices.IndexFunc     int   int  -/
def Z164 (A:Ar) (b c:List D):Option (Int) :=
 (iter (Z164L0 A b c) 0).bind (Sum.elim (fun _ =>
  some (-1)) (fun a =>
  some a))

/-- slices.ContainsFunc     int   int  -/
def Z122 (A:Ar) (b c:List D):Option (Bool) :=
 (Z164 A b c).bind fun a =>
 some (A.zle 0 a)

/-- lineal code.isUse -/
def Z86 (A:Ar) (e a:List D):Option (Bool) :=
 ((
  (Z82 A 1 (A.len a) 2).bind fun b =>
  bif b then
   (Z122 A a e).bind fun c =>
   some (!c)
  else
   some false:Option (Bool))).bind fun d =>
 some d

/-- lineal code.checked -/
def Z40 (A:Ar) (a d:List D):Option (Int) :=
 (Z80 A a).bind fun b =>
 bif b then
  (Z86 A a d).bind fun c =>
  bif c then
   some 0
  else
   some 81
 else
  some 80

/-- lineal code.newRun -/
def Z35 (A:Ar) (a b:List D):Option (List D×List D) :=
 some (a,b)

/--  *lineal code.run .has -/
def Z94 (A:Ar) (a:Int) (u b:List D) (j B C E F G k i l m n o p q r s v w:Int) (y z:List D):Option (Bool) :=
 ((
  (Z82 A 0 a (A.wrp .i64 (A.zsub (A.len b) 1))).bind fun e =>
  bif e then
   bif (A.zeq a 0) then
    (gt A (cL 1) b a).bind fun c =>
    some (A.zlt j (A.len c))
   else
    bif (A.zeq a 1) then
     (gt A (cL 1) b a).bind fun d =>
     some (A.zlt i (A.len d))
    else
     none
  else
   some false:Option (Bool))).bind fun g =>
 some g

/--  *lineal code.run .begun$1 -/
def Z161 (A:Ar) (b e g i j c d:Int):Option (Bool) :=
 ((
  bif (A.zeq b d) then
   some (A.zeq c 0)
  else
   some false:Option (Bool))).bind fun a =>
 some a

def Z190L0 (A:Ar) (l:Int) (b:List D):Int->Option ((Int)⊕((Unit)⊕(Int))):=fun a =>
 bif (A.zlt a (A.len b)) then
  (ck (A.zle 0 a)).bind fun _ =>
  (ck (A.zlt a (A.len b))).bind fun _ =>
  (gc A (cG (lc (cI .i64) (lc (cI .i64) (lc (cI .i64) (lc (cI .i64) (lc (cI .i64) (l1 (cI .i64)))))))) b (A.nat a)).bind fun (c,d,e,g,i,j) =>
  (Z161 A c d e g i j l).bind fun k =>
  bif k then
   some (.inr (.inr a))
  else
   some (.inl (A.wrp .i64 (A.zadd a 1)))
 else
  some (.inr (.inl ()))

/-- slices.IndexFunc   lineal api.Call lineal api.Call  -/
def Z190 (A:Ar) (b:Int) (p u:List D) (v w y z B C d e g i j k l m n o q r:Int) (c s:List D):Option (Int) :=
 (iter (Z190L0 A b c) 0).bind (Sum.elim (fun _ =>
  some (-1)) (fun a =>
  some a))

/-- slices.ContainsFunc   lineal api.Call lineal api.Call  -/
def Z160 (A:Ar) (b:Int) (o u:List D) (v w y z B C c d e g i j k l m n p q:Int) (r s:List D):Option (Bool) :=
 (Z190 A b o u v w y z B C c d e g i j k l m n p q r s).bind fun a =>
 some (A.zle 0 a)

/--  *lineal code.run .begun -/
def Z118 (A:Ar) (b:Int) (o u:List D) (v w y z B C c d e g i j k l m n p q:Int) (r s:List D):Option (Bool) :=
 (Z160 A b o u v w y z B C c d e g i j k l m n p q r s).bind fun a =>
 some a

/-- lineal code.start -/
def Z119 (A:Ar):Option (Unit) :=
 some ()

/--  *lineal code.run .swap -/
def Z120 (A:Ar) (p a g i:Int) (F G:List D) (J K m j k l q r s u v w y z c d e B:Int) (C E:List D):Option (Int×Int×Int×Int) :=
 (ck (A.zle 0 a)).bind fun _ =>
 (ck (A.zlt a (Int.ofNat 3))).bind fun _ =>
 (gc A (cI .i64) [(.int .i64 c),(.int .i64 d),(.int .i64 e)] (A.nat a)).bind fun n =>
 (ck (A.zle 0 g)).bind fun _ =>
 (ck (A.zlt g (Int.ofNat 4))).bind fun _ =>
 (gc A (cI .i64) [(.int .i64 m),(.int .i64 j),(.int .i64 k),(.int .i64 l)] (A.nat g)).bind fun o =>
 bif (A.zeq n o) then
  (ck (A.zle 0 i)).bind fun _ =>
  (ck (A.zlt i (Int.ofNat 4))).bind fun _ =>
  (gc A (cI .i64) [(.int .i64 m),(.int .i64 j),(.int .i64 k),(.int .i64 l)] (A.nat i)).bind fun b =>
  (ck (A.zle 0 a)).bind fun _ =>
  (ck (A.zlt a (Int.ofNat 3))).bind fun _ =>
  some (1,(bif A.zeq a (Int.ofNat 0) then b else c),(bif A.zeq a (Int.ofNat 1) then b else d),(bif A.zeq a (Int.ofNat 2) then b else e))
 else
  some (0,c,d,e)

/--  *lineal code.run .swap -/
def Z120a (A:Ar) (p a g i:Int) (E F:List D) (G J K q r s u v w j k l m y c d e z:Int) (B C:List D):Option (Int×Int×Int×Int) :=
 (ck (A.zle 0 a)).bind fun _ =>
 (ck (A.zlt a (Int.ofNat 3))).bind fun _ =>
 (gc A (cI .i64) [(.int .i64 c),(.int .i64 d),(.int .i64 e)] (A.nat a)).bind fun n =>
 (ck (A.zle 0 g)).bind fun _ =>
 (ck (A.zlt g (Int.ofNat 4))).bind fun _ =>
 (gc A (cI .i64) [(.int .i64 j),(.int .i64 k),(.int .i64 l),(.int .i64 m)] (A.nat g)).bind fun o =>
 bif (A.zeq n o) then
  (ck (A.zle 0 i)).bind fun _ =>
  (ck (A.zlt i (Int.ofNat 4))).bind fun _ =>
  (gc A (cI .i64) [(.int .i64 j),(.int .i64 k),(.int .i64 l),(.int .i64 m)] (A.nat i)).bind fun b =>
  (ck (A.zle 0 a)).bind fun _ =>
  (ck (A.zlt a (Int.ofNat 3))).bind fun _ =>
  some (1,(bif A.zeq a (Int.ofNat 0) then b else c),(bif A.zeq a (Int.ofNat 1) then b else d),(bif A.zeq a (Int.ofNat 2) then b else e))
 else
  some (0,c,d,e)

/--  *lineal code.run .step -/
def Z84 (A:Ar) (G:Int) (x2 K L:List D) (k g V W X N O i e P Q R S U w y z j:Int) (J M:List D):Option (List D×List D×Int×Int×Int×Int×Int×Int×Int×Int×Int×Int×Int×Int×Int×Int×Int×Int×Int×Int×List D×List D) :=
 bif (A.zeq G 0) then
  (gt A (cL 1) L G).bind fun q1 =>
  (gt A (cI .i64) q1 k).bind fun o0 =>
  ((
   bif (A.zeq g 0) then
    (Z118 A G K L k g V W X N O i e P Q R S U w y z j J M).bind fun r2 =>
    some (!r2)
   else
    some false:Option (Bool))).bind fun l5 =>
  ((
   bif l5 then
    (Z119 A).bind fun () =>
    (ap A J [(.agg [(.int .i64 G),(.int .i64 0),(.int .i64 o0),(.int .i64 0),(.int .i64 (A.wrp .i64 (A.zadd (A.wrp .i64 (A.zmul 2 j)) 1))),(.int .i64 0)])]).bind fun e2 =>
    (ap A M [(.int .i64 0)]).bind fun g2 =>
    some (0,1,0,0,(A.len J),e2,g2)
   else
    some (V,W,X,N,O,J,M):Option (Int×Int×Int×Int×Int×List D×List D))).bind fun (r,s,u,C,m,v,k0) =>
  ((
   bif (A.zlt 0 (A.len x2)) then
    (gt A (cI .i64) x2 o0).bind fun a2 =>
    some (A.zeq a2 g)
   else
    some false:Option (Bool))).bind fun n7 =>
  ((
   bif n7 then
    (ck (A.zle 0 m)).bind fun _ =>
    (ck (A.zlt m (A.len k0))).bind fun _ =>
    (gc A (cI .i64) k0 (A.nat m)).bind fun u7 =>
    some (A.lset k0 (A.nat m) (.int .i64 (A.wrp .i64 (A.zadd j 1))))
   else
    some k0:Option (List D))).bind fun c1 =>
  (gt A (cL 4) K o0).bind fun b2 =>
  (gt A (cG (lc (cI .i64) (lc (cI .i64) (lc (cI .i64) (l1 (cI .i64)))))) b2 g).bind fun (F,b,d,g0) =>
  ((
   bif (A.zeq F 1) then
    (ck (A.zle 0 d)).bind fun _ =>
    (ck (A.zlt d (Int.ofNat 3))).bind fun _ =>
    (gc A (cI .i64) [(.int .i64 w),(.int .i64 y),(.int .i64 z)] (A.nat d)).bind fun i0 =>
    (ck (A.zle 0 b)).bind fun _ =>
    (ck (A.zlt b (Int.ofNat 4))).bind fun _ =>
    some (k,(A.wrp .i64 (A.zadd g 1)),(bif A.zeq b (Int.ofNat 0) then i0 else r),(bif A.zeq b (Int.ofNat 1) then i0 else s),(bif A.zeq b (Int.ofNat 2) then i0 else u),(bif A.zeq b (Int.ofNat 3) then i0 else C),w,y,z,v)
   else
    ((
     bif (A.zeq F 2) then
      (ck (A.zle 0 d)).bind fun _ =>
      (ck (A.zlt d (Int.ofNat 4))).bind fun _ =>
      (gc A (cI .i64) [(.int .i64 r),(.int .i64 s),(.int .i64 u),(.int .i64 C)] (A.nat d)).bind fun l0 =>
      (ck (A.zle 0 b)).bind fun _ =>
      (ck (A.zlt b (Int.ofNat 3))).bind fun _ =>
      some (k,(A.wrp .i64 (A.zadd g 1)),r,s,u,C,(bif A.zeq b (Int.ofNat 0) then l0 else w),(bif A.zeq b (Int.ofNat 1) then l0 else y),(bif A.zeq b (Int.ofNat 2) then l0 else z),v)
     else
      ((
       bif (A.zeq F 3) then
        (Z120 A F b d g0 K L k (A.wrp .i64 (A.zadd g 1)) r s u C m i e P Q R S U w y z (A.wrp .i64 (A.zadd j 1)) v c1).bind fun (i2,j2,k2,l2) =>
        some (k,(A.wrp .i64 (A.zadd g 1)),r,s,u,i2,j2,k2,l2,v)
       else
        ((
         bif (A.zeq F 4) then
          (ck (A.zle 0 b)).bind fun _ =>
          (ck (A.zlt b (Int.ofNat 4))).bind fun _ =>
          some (k,(A.wrp .i64 (A.zadd g 1)),(bif A.zeq b (Int.ofNat 0) then d else r),(bif A.zeq b (Int.ofNat 1) then d else s),(bif A.zeq b (Int.ofNat 2) then d else u),(bif A.zeq b (Int.ofNat 3) then d else C),v)
         else
          ((
           bif (A.zeq F 5) then
            (ck (A.zle 0 d)).bind fun _ =>
            (ck (A.zlt d (Int.ofNat 4))).bind fun _ =>
            (gc A (cI .i64) [(.int .i64 r),(.int .i64 s),(.int .i64 u),(.int .i64 C)] (A.nat d)).bind fun Y =>
            (ck (A.zle 0 g0)).bind fun _ =>
            (ck (A.zlt g0 (Int.ofNat 4))).bind fun _ =>
            (gc A (cI .i64) [(.int .i64 r),(.int .i64 s),(.int .i64 u),(.int .i64 C)] (A.nat g0)).bind fun a0 =>
            (nk (A.zeq 10 0)).bind fun _ =>
            (ck (A.zle 0 b)).bind fun _ =>
            (ck (A.zlt b (Int.ofNat 4))).bind fun _ =>
            some (k,(A.wrp .i64 (A.zadd g 1)),(bif A.zeq b (Int.ofNat 0) then (A.rem (A.wrp .i64 (A.zadd Y a0)) 10) else r),(bif A.zeq b (Int.ofNat 1) then (A.rem (A.wrp .i64 (A.zadd Y a0)) 10) else s),(bif A.zeq b (Int.ofNat 2) then (A.rem (A.wrp .i64 (A.zadd Y a0)) 10) else u),(bif A.zeq b (Int.ofNat 3) then (A.rem (A.wrp .i64 (A.zadd Y a0)) 10) else C),v)
           else
            ((
             bif (A.zeq F 6) then
              (ck (A.zle 0 b)).bind fun _ =>
              (ck (A.zlt b (Int.ofNat 4))).bind fun _ =>
              (gc A (cI .i64) [(.int .i64 r),(.int .i64 s),(.int .i64 u),(.int .i64 C)] (A.nat b)).bind fun d1 =>
              ((
               bif (A.zeq d1 0) then
                some d
               else
                some (A.wrp .i64 (A.zadd g 1)):Option (Int))).bind fun s2 =>
              some (k,s2,v)
             else
              ((
               bif (A.zeq F 7) then
                (ck (A.zle 0 m)).bind fun _ =>
                (ck (A.zlt m (A.len v))).bind fun _ =>
                (ck (A.zle 0 b)).bind fun _ =>
                (ck (A.zlt b (Int.ofNat 4))).bind fun _ =>
                (gc A (cI .i64) [(.int .i64 r),(.int .i64 s),(.int .i64 u),(.int .i64 C)] (A.nat b)).bind fun e1 =>
                (gc A (cG (lc (cI .i64) (lc (cI .i64) (lc (cI .i64) (lc (cI .i64) (lc (cI .i64) (l1 (cI .i64)))))))) v (A.nat m)).bind fun (p0,q0,r0,s0,u0,o7) =>
                (gc A (cG (lc (cI .i64) (lc (cI .i64) (lc (cI .i64) (lc (cI .i64) (lc (cI .i64) (l1 (cI .i64)))))))) (A.lset v (A.nat m) (.agg [(.int .i64 p0),(.int .i64 q0),(.int .i64 r0),(.int .i64 s0),(.int .i64 u0),(.int .i64 (A.wrp .i64 (A.zmul 2 (A.wrp .i64 (A.zadd j 1)))))])) (A.nat m)).bind fun (g1,i1,j1,p7,k1,m1) =>
                some ((A.wrp .i64 (A.zadd k 1)),0,(A.lset (A.lset v (A.nat m) (.agg [(.int .i64 p0),(.int .i64 q0),(.int .i64 r0),(.int .i64 s0),(.int .i64 u0),(.int .i64 (A.wrp .i64 (A.zmul 2 (A.wrp .i64 (A.zadd j 1)))))])) (A.nat m) (.agg [(.int .i64 g1),(.int .i64 i1),(.int .i64 j1),(.int .i64 e1),(.int .i64 k1),(.int .i64 m1)])))
               else
                some (k,(A.wrp .i64 (A.zadd g 1)),v):Option (Int×Int×List D))).bind fun (u2,v2,w2) =>
              some (u2,v2,w2):Option (Int×Int×List D))).bind fun (y2,z2,a3) =>
            some (y2,z2,r,s,u,C,a3):Option (Int×Int×Int×Int×Int×Int×List D))).bind fun (b3,c3,d3,e3,g3,i3,j3) =>
          some (b3,c3,d3,e3,g3,i3,j3):Option (Int×Int×Int×Int×Int×Int×List D))).bind fun (k3,l3,m3,n3,o3,p3,q3) =>
        some (k3,l3,m3,n3,o3,p3,w,y,z,q3):Option (Int×Int×Int×Int×Int×Int×Int×Int×Int×List D))).bind fun (r3,s3,u3,v3,w3,y3,z3,a4,b4,c4) =>
      some (r3,s3,u3,v3,w3,y3,z3,a4,b4,c4):Option (Int×Int×Int×Int×Int×Int×Int×Int×Int×List D))).bind fun (d4,e4,g4,i4,j4,k4,l4,m4,n4,o4) =>
    some (d4,e4,g4,i4,j4,k4,l4,m4,n4,o4):Option (Int×Int×Int×Int×Int×Int×Int×Int×Int×List D))).bind fun (p4,q4,r4,s4,u4,v4,w4,y4,z4,a5) =>
  some (K,L,p4,q4,r4,s4,u4,v4,m,i,e,P,Q,R,S,U,w4,y4,z4,(A.wrp .i64 (A.zadd j 1)),a5,c1)
 else
  bif (A.zeq G 1) then
   (gt A (cL 1) L G).bind fun n1 =>
   (gt A (cI .i64) n1 i).bind fun m0 =>
   ((
    bif (A.zeq e 0) then
     (Z118 A G K L k g V W X N O i e P Q R S U w y z j J M).bind fun m2 =>
     some (!m2)
    else
     some false:Option (Bool))).bind fun b5 =>
   ((
    bif b5 then
     (Z119 A).bind fun () =>
     (ap A J [(.agg [(.int .i64 G),(.int .i64 0),(.int .i64 m0),(.int .i64 0),(.int .i64 (A.wrp .i64 (A.zadd (A.wrp .i64 (A.zmul 2 j)) 1))),(.int .i64 0)])]).bind fun c2 =>
     (ap A M [(.int .i64 0)]).bind fun d2 =>
     some (0,1,0,0,(A.len J),c2,d2)
    else
     some (P,Q,R,S,U,J,M):Option (Int×Int×Int×Int×Int×List D×List D))).bind fun (n,o,p,B,l,q,j0) =>
   ((
    bif (A.zlt 0 (A.len x2)) then
     (gt A (cI .i64) x2 m0).bind fun o1 =>
     some (A.zeq o1 e)
    else
     some false:Option (Bool))).bind fun c5 =>
   ((
    bif c5 then
     (ck (A.zle 0 l)).bind fun _ =>
     (ck (A.zlt l (A.len j0))).bind fun _ =>
     (gc A (cI .i64) j0 (A.nat l)).bind fun q7 =>
     some (A.lset j0 (A.nat l) (.int .i64 (A.wrp .i64 (A.zadd j 1))))
    else
     some j0:Option (List D))).bind fun b1 =>
   (gt A (cL 4) K m0).bind fun p1 =>
   (gt A (cG (lc (cI .i64) (lc (cI .i64) (lc (cI .i64) (l1 (cI .i64)))))) p1 e).bind fun (E,a,c,b0) =>
   ((
    bif (A.zeq E 1) then
     (ck (A.zle 0 c)).bind fun _ =>
     (ck (A.zlt c (Int.ofNat 3))).bind fun _ =>
     (gc A (cI .i64) [(.int .i64 w),(.int .i64 y),(.int .i64 z)] (A.nat c)).bind fun c0 =>
     (ck (A.zle 0 a)).bind fun _ =>
     (ck (A.zlt a (Int.ofNat 4))).bind fun _ =>
     some (i,(A.wrp .i64 (A.zadd e 1)),(bif A.zeq a (Int.ofNat 0) then c0 else n),(bif A.zeq a (Int.ofNat 1) then c0 else o),(bif A.zeq a (Int.ofNat 2) then c0 else p),(bif A.zeq a (Int.ofNat 3) then c0 else B),w,y,z,q)
    else
     ((
      bif (A.zeq E 2) then
       (ck (A.zle 0 c)).bind fun _ =>
       (ck (A.zlt c (Int.ofNat 4))).bind fun _ =>
       (gc A (cI .i64) [(.int .i64 n),(.int .i64 o),(.int .i64 p),(.int .i64 B)] (A.nat c)).bind fun n0 =>
       (ck (A.zle 0 a)).bind fun _ =>
       (ck (A.zlt a (Int.ofNat 3))).bind fun _ =>
       some (i,(A.wrp .i64 (A.zadd e 1)),n,o,p,B,(bif A.zeq a (Int.ofNat 0) then n0 else w),(bif A.zeq a (Int.ofNat 1) then n0 else y),(bif A.zeq a (Int.ofNat 2) then n0 else z),q)
      else
       ((
        bif (A.zeq E 3) then
         (Z120a A E a c b0 K L k g V W X N O i (A.wrp .i64 (A.zadd e 1)) n o p B l w y z (A.wrp .i64 (A.zadd j 1)) q b1).bind fun (n2,o2,p2,q2) =>
         some (i,(A.wrp .i64 (A.zadd e 1)),n,o,p,n2,o2,p2,q2,q)
        else
         ((
          bif (A.zeq E 4) then
           (ck (A.zle 0 a)).bind fun _ =>
           (ck (A.zlt a (Int.ofNat 4))).bind fun _ =>
           some (i,(A.wrp .i64 (A.zadd e 1)),(bif A.zeq a (Int.ofNat 0) then c else n),(bif A.zeq a (Int.ofNat 1) then c else o),(bif A.zeq a (Int.ofNat 2) then c else p),(bif A.zeq a (Int.ofNat 3) then c else B),q)
          else
           ((
            bif (A.zeq E 5) then
             (ck (A.zle 0 c)).bind fun _ =>
             (ck (A.zlt c (Int.ofNat 4))).bind fun _ =>
             (gc A (cI .i64) [(.int .i64 n),(.int .i64 o),(.int .i64 p),(.int .i64 B)] (A.nat c)).bind fun d0 =>
             (ck (A.zle 0 b0)).bind fun _ =>
             (ck (A.zlt b0 (Int.ofNat 4))).bind fun _ =>
             (gc A (cI .i64) [(.int .i64 n),(.int .i64 o),(.int .i64 p),(.int .i64 B)] (A.nat b0)).bind fun e0 =>
             (nk (A.zeq 10 0)).bind fun _ =>
             (ck (A.zle 0 a)).bind fun _ =>
             (ck (A.zlt a (Int.ofNat 4))).bind fun _ =>
             some (i,(A.wrp .i64 (A.zadd e 1)),(bif A.zeq a (Int.ofNat 0) then (A.rem (A.wrp .i64 (A.zadd d0 e0)) 10) else n),(bif A.zeq a (Int.ofNat 1) then (A.rem (A.wrp .i64 (A.zadd d0 e0)) 10) else o),(bif A.zeq a (Int.ofNat 2) then (A.rem (A.wrp .i64 (A.zadd d0 e0)) 10) else p),(bif A.zeq a (Int.ofNat 3) then (A.rem (A.wrp .i64 (A.zadd d0 e0)) 10) else B),q)
            else
             ((
              bif (A.zeq E 6) then
               (ck (A.zle 0 a)).bind fun _ =>
               (ck (A.zlt a (Int.ofNat 4))).bind fun _ =>
               (gc A (cI .i64) [(.int .i64 n),(.int .i64 o),(.int .i64 p),(.int .i64 B)] (A.nat a)).bind fun r1 =>
               ((
                bif (A.zeq r1 0) then
                 some c
                else
                 some (A.wrp .i64 (A.zadd e 1)):Option (Int))).bind fun d5 =>
               some (i,d5,q)
              else
               ((
                bif (A.zeq E 7) then
                 (ck (A.zle 0 l)).bind fun _ =>
                 (ck (A.zlt l (A.len q))).bind fun _ =>
                 (ck (A.zle 0 a)).bind fun _ =>
                 (ck (A.zlt a (Int.ofNat 4))).bind fun _ =>
                 (gc A (cI .i64) [(.int .i64 n),(.int .i64 o),(.int .i64 p),(.int .i64 B)] (A.nat a)).bind fun s1 =>
                 (gc A (cG (lc (cI .i64) (lc (cI .i64) (lc (cI .i64) (lc (cI .i64) (lc (cI .i64) (l1 (cI .i64)))))))) q (A.nat l)).bind fun (v0,w0,y0,z0,a1,r7) =>
                 (gc A (cG (lc (cI .i64) (lc (cI .i64) (lc (cI .i64) (lc (cI .i64) (lc (cI .i64) (l1 (cI .i64)))))))) (A.lset q (A.nat l) (.agg [(.int .i64 v0),(.int .i64 w0),(.int .i64 y0),(.int .i64 z0),(.int .i64 a1),(.int .i64 (A.wrp .i64 (A.zmul 2 (A.wrp .i64 (A.zadd j 1)))))])) (A.nat l)).bind fun (u1,v1,w1,s7,y1,z1) =>
                 some ((A.wrp .i64 (A.zadd i 1)),0,(A.lset (A.lset q (A.nat l) (.agg [(.int .i64 v0),(.int .i64 w0),(.int .i64 y0),(.int .i64 z0),(.int .i64 a1),(.int .i64 (A.wrp .i64 (A.zmul 2 (A.wrp .i64 (A.zadd j 1)))))])) (A.nat l) (.agg [(.int .i64 u1),(.int .i64 v1),(.int .i64 w1),(.int .i64 s1),(.int .i64 y1),(.int .i64 z1)])))
                else
                 some (i,(A.wrp .i64 (A.zadd e 1)),q):Option (Int×Int×List D))).bind fun (e5,g5,i5) =>
               some (e5,g5,i5):Option (Int×Int×List D))).bind fun (j5,k5,m5) =>
             some (j5,k5,n,o,p,B,m5):Option (Int×Int×Int×Int×Int×Int×List D))).bind fun (n5,o5,p5,q5,r5,s5,u5) =>
           some (n5,o5,p5,q5,r5,s5,u5):Option (Int×Int×Int×Int×Int×Int×List D))).bind fun (v5,w5,y5,z5,a6,b6,c6) =>
         some (v5,w5,y5,z5,a6,b6,w,y,z,c6):Option (Int×Int×Int×Int×Int×Int×Int×Int×Int×List D))).bind fun (d6,e6,g6,i6,j6,k6,l6,m6,n6,o6) =>
       some (d6,e6,g6,i6,j6,k6,l6,m6,n6,o6):Option (Int×Int×Int×Int×Int×Int×Int×Int×Int×List D))).bind fun (p6,q6,r6,s6,u6,v6,w6,y6,z6,a7) =>
     some (p6,q6,r6,s6,u6,v6,w6,y6,z6,a7):Option (Int×Int×Int×Int×Int×Int×Int×Int×Int×List D))).bind fun (b7,c7,d7,e7,g7,i7,j7,k7,l7,m7) =>
   some (K,L,k,g,V,W,X,N,O,b7,c7,d7,e7,g7,i7,l,j7,k7,l7,(A.wrp .i64 (A.zadd j 1)),m7,b1)
  else
   none

def Z69L0 (A:Ar) (E x4:List D):(Int×List D×List D×Int×Int×Int×Int×Int×Int×Int×Int×Int×Int×Int×Int×Int×Int×Int×Int×Int×Int×List D×List D)->Option ((Int×List D×List D×Int×Int×Int×Int×Int×Int×Int×Int×Int×Int×Int×Int×Int×Int×Int×Int×Int×Int×List D×List D)⊕((List D×List D×Int×Int×Int×Int×Int×Int×Int×Int×Int×Int×Int×Int×Int×Int×Int×Int×Int×Int×List D×List D)⊕(List D×List D×Int×Int×Int×Int×Int×Int×Int×Int×Int×Int×Int×Int×Int×Int×Int×Int×Int×Int×List D×List D×List D×List D×Int×Int×Int×Int×Int×Int×Int×Int×Int×Int×Int×Int×Int×Int×Int×Int×Int×Int×List D×List D))):=fun (B,a,b,c,d,e,g,i,j,k,l,m,n,o,p,q,r,s,u,v,w,y,z) =>
 bif (A.zlt B (A.len E)) then
  (gt A (cI .i64) E B).bind fun C =>
  (Z94 A C a b c d e g i j k l m n o p q r s u v w y z).bind fun F =>
  bif F then
   (Z84 A C x4 a b c d e g i j k l m n o p q r s u v w y z).bind fun (G,J,K,L,M,N,O,P,Q,R,S,U,V,W,X,Y,a0,b0,c0,d0,e0,g0) =>
   some (.inl ((A.wrp .i64 (A.zadd B 1)),G,J,K,L,M,N,O,P,Q,R,S,U,V,W,X,Y,a0,b0,c0,d0,e0,g0))
  else
   some (.inr (.inr (a,b,c,d,e,g,i,j,k,l,m,n,o,p,q,r,s,u,v,w,y,z,a,b,c,d,e,g,i,j,k,l,m,n,o,p,q,r,s,u,v,w,y,z)))
 else
  some (.inr (.inl (a,b,c,d,e,g,i,j,k,l,m,n,o,p,q,r,s,u,v,w,y,z)))

/-- lineal code.done -/
def Z69 (A:Ar) (x1 x2 c x4:List D):Option (List D×List D×Int×Int×Int×Int×Int×Int×Int×Int×Int×Int×Int×Int×Int×Int×Int×Int×Int×Int×List D×List D×Bool) :=
 (Z35 A x1 x2).bind fun (a,b) =>
 bif (A.zlt 12 (A.len c)) then
  some (a,b,0,0,0,0,0,0,0,0,0,0,0,0,0,0,0,0,0,0,[],[],false)
 else
  (iter (Z69L0 A c x4) (0,a,b,0,0,0,0,0,0,0,0,0,0,0,0,0,0,0,0,0,0,[],[])).bind (Sum.elim (fun (Y,a0,b0,c0,d0,e0,d,e,g,i,j,k,l,m,n,o,p,q,r,s,u,v) =>
   some (Y,a0,b0,c0,d0,e0,d,e,g,i,j,k,l,m,n,o,p,q,r,s,u,v,true)) (fun (w,y,z,B,C,E,F,G,J,K,L,M,N,O,P,Q,R,S,U,V,W,X,g0,i0,j0,k0,l0,m0,n0,o0,p0,q0,r0,s0,u0,v0,w0,y0,z0,a1,b1,c1,d1,e1) =>
   some (w,y,z,B,C,E,F,G,J,K,L,M,N,O,P,Q,R,S,U,V,W,X,false)))

/-- lineal code.Run$1 -/
def Z52 (A:Ar) (b o:List D) (s u v w y z B c d e g i j k l m n p:Int) (a q r:List D):Option (List D) :=
 some a

/-- lineal code.behind -/
def Z51 (A:Ar) (b c J K:List D):Option ((List D)⊕(Int)) :=
 (Z40 A b c).bind fun a =>
 bif (A.zeq a 0) then
  (Z69 A b c J []).bind fun (G,d,e,g,i,j,k,l,m,n,o,p,q,r,s,u,v,w,y,z,B,C,E) =>
  bif E then
   (Z52 A G d e g i j k l m n o p q r s u v w y z B C K).bind fun F =>
   some (.inl F)
  else
   some (.inr 2)
 else
  some (.inr a)

/-- lineal code.Run -/
def Z15 (A:Ar) (e g i:List D):Option (List D×Int) :=
 ((
  (Z51 A e g i []).bind (Sum.elim (fun a =>
   some (0,a)) (fun b =>
   some (b,[]))):Option (Int×List D))).bind fun (c,d) =>
 some (d,c)

/-- lineal lineallaw08.Sane -/
def Z9 (A:Ar):Option (Bool) :=
 (Z15 A [(.list 4 [(.agg [(.int .i64 1),(.int .i64 0),(.int .i64 0),(.int .i64 0)]),(.agg [(.int .i64 5),(.int .i64 2),(.int .i64 0),(.int .i64 1)]),(.agg [(.int .i64 2),(.int .i64 0),(.int .i64 2),(.int .i64 0)]),(.agg [(.int .i64 7),(.int .i64 0),(.int .i64 0),(.int .i64 0)])])] [(.list 1 [(.int .i64 0)]),(.list 1 [(.int .i64 0)])] [(.int .i64 0),(.int .i64 0),(.int .i64 1),(.int .i64 1),(.int .i64 0),(.int .i64 0),(.int .i64 1),(.int .i64 1)]).bind fun (a,p) =>
 ((
  bif (A.zeq p 0) then
   bif (A.zeq (A.len a) 2) then
    (gc A (cG (lc (cI .i64) (lc (cI .i64) (lc (cI .i64) (lc (cI .i64) (lc (cI .i64) (l1 (cI .i64)))))))) a 0).bind fun (l,m,n,o,b,c) =>
    bif (A.deq [(.int .i64 l),(.int .i64 m),(.int .i64 n),(.int .i64 o),(.int .i64 b),(.int .i64 c)] [(.int .i64 0),(.int .i64 0),(.int .i64 0),(.int .i64 0),(.int .i64 1),(.int .i64 12)]) then
     (gc A (cG (lc (cI .i64) (lc (cI .i64) (lc (cI .i64) (lc (cI .i64) (lc (cI .i64) (l1 (cI .i64)))))))) a 1).bind fun (d,e,g,i,j,k) =>
     some (A.deq [(.int .i64 d),(.int .i64 e),(.int .i64 g),(.int .i64 i),(.int .i64 j),(.int .i64 k)] [(.int .i64 1),(.int .i64 0),(.int .i64 0),(.int .i64 0),(.int .i64 5),(.int .i64 16)])
    else
     some false
   else
    some false
  else
   some false:Option (Bool))).bind fun q =>
 some q

/-- lineal spec.between -/
def Z115 (A:Ar) (c a d:Int):Option (Bool) :=
 ((
  bif (A.zle c a) then
   some (A.zle a d)
  else
   some false:Option (Bool))).bind fun b =>
 some b

/-- lineal spec.table$1$1 -/
def Z159 (A:Ar) (b c:Int):Option (Bool) :=
 (Z115 A 0 b c).bind fun a =>
 some (!a)

def Z189bL0 (A:Ar) (b:List D) (e:Int):Int->Option ((Int)⊕((Unit)⊕(Int))):=fun a =>
 bif (A.zlt a (A.len b)) then
  (gt A (cI .i64) b a).bind fun c =>
  (Z159 A c e).bind fun d =>
  bif d then
   some (.inr (.inr a))
  else
   some (.inl (A.wrp .i64 (A.zadd a 1)))
 else
  some (.inr (.inl ()))

/-- slices.IndexFunc   int int  -/
def Z189b (A:Ar) (b:List D) (c:Int):Option (Int) :=
 (iter (Z189bL0 A b c) 0).bind (Sum.elim (fun _ =>
  some (-1)) (fun a =>
  some a))

/-- slices.ContainsFunc   int int  -/
def Z158b (A:Ar) (b:List D) (c:Int):Option (Bool) :=
 (Z189b A b c).bind fun a =>
 some (A.zle 0 a)

/-- lineal spec.table$1 -/
def Z157 (A:Ar) (a:List D) (g d:Int) (i j:List D) (e:Int):Option (Bool) :=
 ((
  bif (A.zeq (A.len a) d) then
   (Z158b A a e).bind fun b =>
   some b
  else
   some true:Option (Bool))).bind fun c =>
 some c

def Z164aL0 (A:Ar) (b:List D) (e g:Int) (i j:List D) (k:Int):Int->Option ((Int)⊕((Unit)⊕(Int))):=fun a =>
 bif (A.zlt a (A.len b)) then
  (gt A (cL 1) b a).bind fun c =>
  (Z157 A c e g i j k).bind fun d =>
  bif d then
   some (.inr (.inr a))
  else
   some (.inl (A.wrp .i64 (A.zadd a 1)))
 else
  some (.inr (.inl ()))

/-- slices.IndexFunc     int   int  -/
def Z164a (A:Ar) (b:List D) (c d:Int) (e g:List D) (i:Int):Option (Int) :=
 (iter (Z164aL0 A b c d e g i) 0).bind (Sum.elim (fun _ =>
  some (-1)) (fun a =>
  some a))

/-- slices.ContainsFunc     int   int  -/
def Z122a (A:Ar) (b:List D) (c d:Int) (e g:List D) (i:Int):Option (Bool) :=
 (Z164a A b c d e g i).bind fun a =>
 some (A.zle 0 a)

/-- lineal spec.table -/
def Z116 (A:Ar) (a e:Int) (g i b:List D) (j:Int):Option (Bool) :=
 ((
  bif (A.zeq (A.len b) a) then
   (Z122a A b a e g i j).bind fun c =>
   some (!c)
  else
   some false:Option (Bool))).bind fun d =>
 some d

/-- lineal spec.Valid -/
def Z81 (A:Ar) (a b:Int) (c d:List D):Option (Bool) :=
 ((
  (Z115 A 1 a 8).bind fun i =>
  bif i then
   (Z115 A 1 b 4).bind fun j =>
   bif j then
    (Z116 A a b c d c (A.wrp .i64 (A.zsub a 1))).bind fun e =>
    bif e then
     (Z116 A a b c d d 5).bind fun g =>
     some g
    else
     some false
   else
    some false
  else
   some false:Option (Bool))).bind fun k =>
 some k

/-- lineal code.specified -/
def Z33 (A:Ar) (i b:Int) (j k a l:List D):Option (Int) :=
 (Z80 A a).bind fun e =>
 bif e then
  ((
   (Z81 A i b j k).bind fun c =>
   bif c then
    some (!(A.zeq b (A.len a)))
   else
    some true:Option (Bool))).bind fun g =>
  bif g then
   some 10
  else
   (Z40 A a l).bind fun d =>
   some d
 else
  some 80

/-- lineal history.between -/
def Z152 (A:Ar) (c a d:Int):Option (Bool) :=
 ((
  bif (A.zle c a) then
   some (A.zle a d)
  else
   some false:Option (Bool))).bind fun b =>
 some b

/-- lineal history.areSpecs$1 -/
def Z183 (A:Ar) (b c:Int) (d e:List D):Option (Bool) :=
 (Z81 A b c d e).bind fun a =>
 some (!a)

def Z198L0 (A:Ar) (b:List D):Int->Option ((Int)⊕((Unit)⊕(Int))):=fun a =>
 bif (A.zlt a (A.len b)) then
  (gt A (cG (lc (cI .i64) (lc (cI .i64) (lc (cL 1) (l1 (cL 1)))))) b a).bind fun (c,d,e,g) =>
  (Z183 A c d e g).bind fun i =>
  bif i then
   some (.inr (.inr a))
  else
   some (.inl (A.wrp .i64 (A.zadd a 1)))
 else
  some (.inr (.inl ()))

/-- slices.IndexFunc   lineal api.Spec lineal api.Spec  -/
def Z198 (A:Ar) (b:List D):Option (Int) :=
 (iter (Z198L0 A b) 0).bind (Sum.elim (fun _ =>
  some (-1)) (fun a =>
  some a))

/-- slices.ContainsFunc   lineal api.Spec lineal api.Spec  -/
def Z182 (A:Ar) (b:List D):Option (Bool) :=
 (Z198 A b).bind fun a =>
 some (A.zle 0 a)

/-- lineal history.areSpecs -/
def Z149 (A:Ar) (a:List D):Option (Bool) :=
 ((
  (Z152 A 1 (A.len a) 2).bind fun b =>
  bif b then
   (Z182 A a).bind fun c =>
   some (!c)
  else
   some false:Option (Bool))).bind fun d =>
 some d

/-- lineal history.isCall -/
def Z184 (A:Ar) (o p q c d a:Int):Option (Bool) :=
 ((
  (Z152 A 0 o 3).bind fun l =>
  bif l then
   (Z152 A 0 p 1).bind fun e =>
   bif e then
    (Z152 A 0 q 3).bind fun g =>
    bif g then
     (Z152 A 0 c 9).bind fun i =>
     bif i then
      (Z152 A 1 d 100).bind fun j =>
      some j
     else
      some false
    else
     some false
   else
    some false
  else
   some false:Option (Bool))).bind fun b =>
 bif (A.zeq a 0) then
  ((
   bif b then
    some (A.zeq c 0)
   else
    some false:Option (Bool))).bind fun m =>
  some m
 else
  ((
   bif b then
    (Z152 A 2 a 100).bind fun k =>
    bif k then
     some (A.zlt d a)
    else
     some false
   else
    some false:Option (Bool))).bind fun n =>
  some n

/-- lineal history.before -/
def Z75 (A:Ar) (d i j k l a m n o e c g:Int):Option (Bool) :=
 ((
  bif (A.zlt 0 a) then
   some (A.zlt a c)
  else
   some false:Option (Bool))).bind fun b =>
 some b

def Z150L0 (A:Ar) (b o d e g i:Int) (p:List D):Int->Option ((Int)⊕((Unit)⊕(Unit))):=fun c =>
 bif (A.zlt c (A.len p)) then
  (gt A (cG (lc (cI .i64) (lc (cI .i64) (lc (cI .i64) (lc (cI .i64) (lc (cI .i64) (l1 (cI .i64)))))))) p c).bind fun (a,j,k,l,m,n) =>
  ((
   bif (A.zeq b a) then
    (Z75 A b o d e g i a j k l m n).bind fun q =>
    bif q then
     some false
    else
     (Z75 A a j k l m n b o d e g i).bind fun r =>
     some (!r)
   else
    some false:Option (Bool))).bind fun s =>
  bif s then
   some (.inr (.inr ()))
  else
   some (.inl (A.wrp .i64 (A.zadd c 1)))
 else
  some (.inr (.inl ()))

def Z150L1 (A:Ar) (e:List D):(Int×List D)->Option ((Int×List D)⊕((List D)⊕(List D))):=fun (d,c) =>
 bif (A.zlt d (A.len e)) then
  (gt A (cG (lc (cI .i64) (lc (cI .i64) (lc (cI .i64) (lc (cI .i64) (lc (cI .i64) (l1 (cI .i64)))))))) e d).bind fun (k,l,i,j,a,b) =>
  ((
   (Z184 A k l i j a b).bind fun q =>
   bif q then
    (ck (A.zle 0 a)).bind fun _ =>
    (ck (A.zlt a (Int.ofNat 101))).bind fun _ =>
    (gc A cB c (A.nat (A.zadd 0 (A.zmul a (Int.ofNat 1))))).bind fun n =>
    some n
   else
    some true:Option (Bool))).bind fun r =>
  bif r then
   some (.inr (.inr c))
  else
   (ck (A.zle 0 a)).bind fun _ =>
   (ck (A.zlt a (Int.ofNat 101))).bind fun _ =>
   (A.lget c (A.nat (A.zadd 0 (A.zmul a (Int.ofNat 1))))).bind fun s =>
   jn (fun (m:List D) =>
    (sl A e 0 d).bind fun p =>
    (iter (Z150L0 A k l i j a b p) 0).bind (Sum.elim (fun _ =>
     some (.inl ((A.wrp .i64 (A.zadd d 1)),m))) (fun _ =>
     some (.inr (.inr m))))) fun g =>
    bif (A.zlt 0 b) then
     (ck (A.zle 0 b)).bind fun _ =>
     (ck (A.zlt b (Int.ofNat 101))).bind fun _ =>
     (gc A cB (A.lset c (A.nat (A.zadd 0 (A.zmul a (Int.ofNat 1)))) (.bool true)) (A.nat (A.zadd 0 (A.zmul b (Int.ofNat 1))))).bind fun o =>
     bif o then
      some (.inr (.inr (A.lset c (A.nat (A.zadd 0 (A.zmul a (Int.ofNat 1)))) (.bool true))))
     else
      (ck (A.zle 0 b)).bind fun _ =>
      (ck (A.zlt b (Int.ofNat 101))).bind fun _ =>
      (A.lget (A.lset c (A.nat (A.zadd 0 (A.zmul a (Int.ofNat 1)))) (.bool true)) (A.nat (A.zadd 0 (A.zmul b (Int.ofNat 1))))).bind fun u =>
      g (A.lset (A.lset c (A.nat (A.zadd 0 (A.zmul a (Int.ofNat 1)))) (.bool true)) (A.nat (A.zadd 0 (A.zmul b (Int.ofNat 1)))) (.bool true))
    else
     g (A.lset c (A.nat (A.zadd 0 (A.zmul a (Int.ofNat 1)))) (.bool true))
 else
  some (.inr (.inl c))

/-- lineal history.Valid -/
def Z150 (A:Ar) (a:List D):Option (Bool) :=
 bif (A.zlt 8 (A.len a)) then
  some false
 else
  (iter (Z150L1 A a) (0,(A.rep (Int.ofNat 101) (.bool false)))).bind (Sum.elim (fun b =>
   some true) (fun c =>
   some false))

/-- lineal history.fits$1 -/
def Z185 (A:Ar) (k a e l m n:Int) (b:List D):Option (Bool) :=
 ((
  bif (A.zle (A.len b) a) then
   some true
  else
   (gt A (cG (lc (cI .i64) (lc (cI .i64) (lc (cL 1) (l1 (cL 1)))))) b a).bind fun (j,c,g,i) =>
   some (A.zle c e):Option (Bool))).bind fun d =>
 some d

def Z190aL0 (A:Ar) (b l:List D):Int->Option ((Int)⊕((Unit)⊕(Int))):=fun a =>
 bif (A.zlt a (A.len b)) then
  (gt A (cG (lc (cI .i64) (lc (cI .i64) (lc (cI .i64) (lc (cI .i64) (lc (cI .i64) (l1 (cI .i64)))))))) b a).bind fun (c,d,e,g,i,j) =>
  (Z185 A c d e g i j l).bind fun k =>
  bif k then
   some (.inr (.inr a))
  else
   some (.inl (A.wrp .i64 (A.zadd a 1)))
 else
  some (.inr (.inl ()))

/-- slices.IndexFunc   lineal api.Call lineal api.Call  -/
def Z190a (A:Ar) (b c:List D):Option (Int) :=
 (iter (Z190aL0 A b c) 0).bind (Sum.elim (fun _ =>
  some (-1)) (fun a =>
  some a))

/-- slices.ContainsFunc   lineal api.Call lineal api.Call  -/
def Z160a (A:Ar) (b c:List D):Option (Bool) :=
 (Z190a A b c).bind fun a =>
 some (A.zle 0 a)

/-- lineal history.fits -/
def Z151 (A:Ar) (b c:List D):Option (Bool) :=
 (Z160a A c b).bind fun a =>
 some (!a)

/-- lineal history.For -/
def Z106 (A:Ar) (a b:List D):Option (Bool×Int) :=
 (Z149 A a).bind fun d =>
 bif d then
  ((
   (Z150 A b).bind fun e =>
   bif e then
    (Z151 A a b).bind fun c =>
    some c
   else
    some false:Option (Bool))).bind fun g =>
  some (g,0)
 else
  some (false,10)

/-- lineal history.checked -/
def Z72 (A:Ar) (e g:List D):Option (Int) :=
 (Z106 A e g).bind fun (b,a) =>
 ((
  bif (A.zeq a 0) then
   some (!b)
  else
   some false:Option (Bool))).bind fun d =>
 ((
  bif d then
   some 20
  else
   some a:Option (Int))).bind fun c =>
 some c

/-- lineal history.newSearch -/
def Z162 (A:Ar) (a b:List D):Option (List D×List D) :=
 some (a,b)

/--  lineal history.set .has -/
def Z200a (A:Ar) (b a:Int):Option (Bool) :=
 (nk (A.zlt a 0)).bind fun _ =>
 some (A.zeq (A.bits .and .u8 (A.shr .u8 b a) 1) 1)

def Z191aL0 (A:Ar) (g:Int) (b:List D):Int->Option ((Int)⊕((Unit)⊕(Unit))):=fun a =>
 bif (A.zlt a (A.len b)) then
  (gt A (cG (lc (cI .i64) (lc (cI .i64) (lc (cI .i64) (lc (cI .i64) (lc (cI .i64) (l1 (cI .i64)))))))) b a).bind fun (i,j,k,l,m,c) =>
  ((
   bif (A.zlt 0 c) then
    (Z200a A g a).bind fun d =>
    some (!d)
   else
    some false:Option (Bool))).bind fun e =>
  bif e then
   some (.inr (.inr ()))
  else
   some (.inl (A.wrp .i64 (A.zadd a 1)))
 else
  some (.inr (.inl ()))

/--  *lineal history.search .ends -/
def Z191a (A:Ar) (a c d:Int) (e:List (D×D)) (g b:List D):Option (Bool) :=
 (iter (Z191aL0 A a b) 0).bind (Sum.elim (fun _ =>
  some true) (fun _ =>
  some false))

/--  *lineal history.search .next -/
def Z192c (A:Ar) (a b c:Int) (d:List (D×D)) (e g:List D) (i:Int):Option (Int×Int×Int) :=
 some (a,b,c)

/--  lineal history.states .does -/
def Z108a (A:Ar) (j k:Int) (v:List D) (C a l w E y:Int):Option (Int×Int×Bool) :=
 ((
  (gt A (cG (lc (cI .i64) (lc (cI .i64) (lc (cL 1) (l1 (cL 1)))))) v a).bind fun (b,c,d,e) =>
  bif (A.zeq a 0) then
   some (b,c,d,e,j)
  else
   bif (A.zeq a 1) then
    some (b,c,d,e,k)
   else
    none:Option (Int×Int×List D×List D×Int))).bind fun (z,B,p,q,i) =>
 ((
  (gt A (cL 1) p i).bind fun m =>
  (gt A (cI .i64) m l).bind fun g =>
  bif (A.zeq a 0) then
   some (g,k)
  else
   bif (A.zeq a 1) then
    some (j,g)
   else
    none:Option (Int×Int))).bind fun (r,s) =>
 ((
  bif (A.zeq y 0) then
   some true
  else
   (gt A (cL 1) q i).bind fun n =>
   (gt A (cI .i64) n l).bind fun o =>
   some (A.zeq o w):Option (Bool))).bind fun u =>
 some (r,s,u)

def Z201aL0 (A:Ar) (v:Int) (c:List D) (l m n o p q:Int):(Bool×Int)->Option ((Bool×Int)⊕(Bool)):=fun (b,a) =>
 bif (A.zlt a (A.len c)) then
  (gt A (cG (lc (cI .i64) (lc (cI .i64) (lc (cI .i64) (lc (cI .i64) (lc (cI .i64) (l1 (cI .i64)))))))) c a).bind fun (d,e,g,i,j,k) =>
  ((
   bif b then
    (Z200a A v a).bind fun r =>
    bif r then
     some true
    else
     (Z75 A d e g i j k l m n o p q).bind fun s =>
     some (!s)
   else
    some false:Option (Bool))).bind fun u =>
  some (.inl (u,(A.wrp .i64 (A.zadd a 1))))
 else
  some (.inr b)

def Z201aL1 (A:Ar) (e F G:Int) (n d:List D) (self72:Int->Int->Int->(List (D×D))->List D->List D->(Option (Int×List (D×D)))):(Int×List (D×D)×Int)->Option ((Int×List (D×D)×Int)⊕(List (D×D)×Int)):=fun (a,b,c) =>
 bif (A.zlt a (A.len d)) then
  ((
   (gt A (cG (lc (cI .i64) (lc (cI .i64) (lc (cI .i64) (lc (cI .i64) (lc (cI .i64) (l1 (cI .i64)))))))) d a).bind fun (g,i,j,k,l,m) =>
   (Z200a A e a).bind fun u =>
   (iter (Z201aL0 A e d g i j k l m) ((!u),0)).bind (fun v =>
   bif v then
    (Z108a A F G n g i j k l m).bind fun (o,p,q) =>
    ((
     bif q then
      (nk (A.zlt a 0)).bind fun _ =>
      (
       (self72 (A.bits .or .u8 e (A.shl .u8 1 a)) o p b n d).bind fun (r,s) =>
       some (s,(A.wrp .i64 (A.zadd c r)))).bind (fun (w,y) =>
      some (w,y))
     else
      some (b,c):Option (List (D×D)×Int))).bind fun (z,B) =>
    some (z,B)
   else
    some (b,c)):Option (List (D×D)×Int))).bind fun (C,E) =>
  some (.inl ((A.wrp .i64 (A.zadd a 1)),C,E))
 else
  some (.inr (b,c))

/--  *lineal history.search .next$1 -/
def Z201a (A:Ar) (self72:Int->Int->Int->(List (D×D))->List D->List D->(Option (Int×List (D×D)))) (c d e:Int) (g:List (D×D)) (i j:List D) (k:Int):Option (List (D×D)×Int) :=
 (iter (Z201aL1 A c d e i j self72) (0,g,k)).bind (fun (a,b) =>
 some (a,b))

/--  *lineal history.search .count -/
def Z163B (A:Ar) (self72:Int->Int->Int->(List (D×D))->List D->List D->(Option (Int×List (D×D)))) (b c d:Int) (a:List (D×D)) (e g:List D):Option (Int×List (D×D)) :=
 ((
  (lk A (cI .i64) a (.agg [(.int .u8 b),(.int .i64 c),(.int .i64 d)])).bind fun l=>l.elim (
   some (0,false)) fun k =>
  some (k,true):Option (Int×Bool))).bind fun (r,s) =>
 bif s then
  some (r,a)
 else
  (Z191a A b c d a e g).bind fun m =>
  ((
   bif m then
    some 1
   else
    some 0:Option (Int))).bind fun j =>
  (Z192c A b c d a e g j).bind fun (n,o,p) =>
  (Z201a A self72 n o p a e g j).bind fun (q,i) =>
  some (i,(A.mput q (.agg [(.int .u8 b),(.int .i64 c),(.int .i64 d)]) (.int .i64 i)))

def Z163R (A:Ar):Nat->Int->Int->Int->(List (D×D))->List D->List D->(Option (Int×List (D×D)))
 | 0=>fun _ _ _ _ _ _=>none
 | n+1=>fun a b c d e g=>Z163B A (Z163R A n) a b c d e g

def Z163 (A:Ar) (a b c:Int) (d:List (D×D)) (e g:List D):Option (Int×List (D×D)):=Z163R A fuel a b c d e g

/-- lineal history.Orders -/
def Z121 (A:Ar) (b c:List D):Option (Int×Int) :=
 (Z72 A b c).bind fun a =>
 bif (A.zeq a 0) then
  (Z162 A b c).bind fun (e,g) =>
  (Z163 A 0 0 0 [] e g).bind fun (d,i) =>
  some (d,0)
 else
  some (0,a)

/-- lineal history.Linear -/
def Z85 (A:Ar) (c d:List D):Option (Bool×Int) :=
 (Z121 A c d).bind fun (a,b) =>
 some ((A.zlt 0 a),b)

/-- lineal code.linear -/
def Z38 (A:Ar) (d e:Int) (g i j:List D):Option (Bool) :=
 (Z85 A [(.agg [(.int .i64 d),(.int .i64 e),(.list 1 g),(.list 1 i)])] j).bind fun (a,b) =>
 ((
  bif (A.zeq b 0) then
   some a
  else
   some false:Option (Bool))).bind fun c =>
 some c

/-- lineal linealref08.within -/
def Z77 (A:Ar) (c a d:Int):Option (Bool) :=
 ((
  bif (A.zle c a) then
   some (A.zle a d)
  else
   some false:Option (Bool))).bind fun b =>
 some b

/-- lineal linealref08.isRegister -/
def Z109 (A:Ar) (b:Int):Option (Bool) :=
 (Z77 A 0 b 3).bind fun a =>
 some a

/-- lineal linealref08.isCell -/
def Z110 (A:Ar) (b:Int):Option (Bool) :=
 (Z77 A 0 b 2).bind fun a =>
 some a

/-- lineal linealref08.isNumber -/
def Z111 (A:Ar) (b:Int):Option (Bool) :=
 (Z77 A 0 b 9).bind fun a =>
 some a

/-- lineal linealref08.isLine -/
def Z78 (A:Ar) (a b c d G:Int):Option (Bool) :=
 bif (A.zeq a 1) then
  ((
   (Z109 A b).bind fun v =>
   bif v then
    (Z110 A c).bind fun e =>
    bif e then
     some (A.zeq d 0)
    else
     some false
   else
    some false:Option (Bool))).bind fun w =>
  some w
 else
  bif (A.zeq a 2) then
   ((
    (Z110 A b).bind fun g =>
    bif g then
     (Z109 A c).bind fun i =>
     bif i then
      some (A.zeq d 0)
     else
      some false
    else
     some false:Option (Bool))).bind fun y =>
   some y
  else
   bif (A.zeq a 3) then
    ((
     (Z110 A b).bind fun j =>
     bif j then
      (Z109 A c).bind fun k =>
      bif k then
       (Z109 A d).bind fun l =>
       some l
      else
       some false
     else
      some false:Option (Bool))).bind fun z =>
    some z
   else
    bif (A.zeq a 4) then
     ((
      (Z109 A b).bind fun m =>
      bif m then
       (Z111 A c).bind fun n =>
       bif n then
        some (A.zeq d 0)
       else
        some false
      else
       some false:Option (Bool))).bind fun B =>
     some B
    else
     bif (A.zeq a 5) then
      ((
       (Z109 A b).bind fun o =>
       bif o then
        (Z109 A c).bind fun p =>
        bif p then
         (Z109 A d).bind fun q =>
         some q
        else
         some false
       else
        some false:Option (Bool))).bind fun C =>
      some C
     else
      bif (A.zeq a 6) then
       ((
        (Z109 A b).bind fun r =>
        bif r then
         (Z77 A 0 c (A.wrp .i64 (A.zsub G 1))).bind fun s =>
         bif s then
          some (A.zeq d 0)
         else
          some false
        else
         some false:Option (Bool))).bind fun E =>
       some E
      else
       bif (A.zeq a 7) then
        ((
         (Z109 A b).bind fun u =>
         bif u then
          bif (A.zeq c 0) then
           some (A.zeq d 0)
          else
           some false
         else
          some false:Option (Bool))).bind fun F =>
        some F
       else
        some false

def Z30L0 (A:Ar) (a:List D):Int->Option ((Int)⊕((Unit)⊕(Unit))):=fun b =>
 bif (A.zlt b (A.len a)) then
  (gt A (cG (lc (cI .i64) (lc (cI .i64) (lc (cI .i64) (l1 (cI .i64)))))) a b).bind fun (c,d,e,g) =>
  (Z78 A c d e g (A.len a)).bind fun i =>
  bif i then
   some (.inl (A.wrp .i64 (A.zadd b 1)))
  else
   some (.inr (.inr ()))
 else
  some (.inr (.inl ()))

def Z30L1 (A:Ar) (c:List D):Int->Option ((Int)⊕((Unit)⊕(Unit))):=fun b =>
 bif (A.zlt b (A.len c)) then
  (gt A (cL 4) c b).bind fun a =>
  (Z77 A 1 (A.len a) 8).bind fun e =>
  bif e then
   (iter (Z30L0 A a) 0).bind (Sum.elim (fun _ =>
    (gt A (cG (lc (cI .i64) (lc (cI .i64) (lc (cI .i64) (l1 (cI .i64)))))) a (A.wrp .i64 (A.zsub (A.len a) 1))).bind fun (d,g,i,j) =>
    bif (A.zeq d 7) then
     some (.inl (A.wrp .i64 (A.zadd b 1)))
    else
     some (.inr (.inr ()))) (fun _ =>
    some (.inr (.inr ()))))
  else
   some (.inr (.inr ()))
 else
  some (.inr (.inl ()))

/-- lineal linealref08.Valid -/
def Z30 (A:Ar) (a:List D):Option (Bool) :=
 (Z77 A 1 (A.len a) 4).bind fun b =>
 bif b then
  (iter (Z30L1 A a) 0).bind (Sum.elim (fun _ =>
   some true) (fun _ =>
   some false))
 else
  some false

def Z79L0 (A:Ar) (e:Int) (b:List D):Int->Option ((Int)⊕((Unit)⊕(Unit))):=fun a =>
 bif (A.zlt a (A.len b)) then
  (gt A (cI .i64) b a).bind fun c =>
  ((
   bif (A.zlt c 0) then
    some true
   else
    some (A.zle e c):Option (Bool))).bind fun d =>
  bif d then
   some (.inr (.inr ()))
  else
   some (.inl (A.wrp .i64 (A.zadd a 1)))
 else
  some (.inr (.inl ()))

def Z79L1 (A:Ar) (d:Int) (c:List D) (e:Int):Int->Option ((Int)⊕((Unit)⊕(Unit))):=fun a =>
 bif (A.zlt a (A.len c)) then
  (gt A (cL 1) c a).bind fun b =>
  bif (A.zeq (A.len b) d) then
   (iter (Z79L0 A e b) 0).bind (Sum.elim (fun _ =>
    some (.inl (A.wrp .i64 (A.zadd a 1)))) (fun _ =>
    some (.inr (.inr ()))))
  else
   some (.inr (.inr ()))
 else
  some (.inr (.inl ()))

/-- lineal linealref01.isTable -/
def Z79 (A:Ar) (b c:Int) (e g a:List D) (d:Int):Option (Bool) :=
 bif (A.zeq (A.len a) b) then
  (iter (Z79L1 A c a d) 0).bind (Sum.elim (fun _ =>
   some true) (fun _ =>
   some false))
 else
  some false

/-- lineal linealref01.Valid -/
def Z31 (A:Ar) (a b:Int) (c d:List D):Option (Bool) :=
 ((
  bif (A.zle 1 a) then
   bif (A.zle a 8) then
    bif (A.zle 1 b) then
     bif (A.zle b 4) then
      (Z79 A a b c d c a).bind fun e =>
      bif e then
       (Z79 A a b c d d 6).bind fun g =>
       some g
      else
       some false
     else
      some false
    else
     some false
   else
    some false
  else
   some false:Option (Bool))).bind fun i =>
 some i

/-- lineal linealref08.isSpec -/
def Z100 (A:Ar) (d a:Int) (e g i:List D):Option (Bool) :=
 ((
  (Z31 A d a e g).bind fun b =>
  bif b then
   some (A.zeq a (A.len i))
  else
   some false:Option (Bool))).bind fun c =>
 some c

def Z32L0 (A:Ar) (e b:List D):Int->Option ((Int)⊕((Unit)⊕(Unit))):=fun a =>
 bif (A.zlt a (A.len b)) then
  (gt A (cI .i64) b a).bind fun c =>
  (Z77 A 0 c (A.wrp .i64 (A.zsub (A.len e) 1))).bind fun d =>
  bif d then
   some (.inl (A.wrp .i64 (A.zadd a 1)))
  else
   some (.inr (.inr ()))
 else
  some (.inr (.inl ()))

def Z32L1 (A:Ar) (d c:List D):Int->Option ((Int)⊕((Unit)⊕(Unit))):=fun a =>
 bif (A.zlt a (A.len c)) then
  (gt A (cL 1) c a).bind fun b =>
  bif (A.zlt 3 (A.len b)) then
   some (.inr (.inr ()))
  else
   (iter (Z32L0 A d b) 0).bind (Sum.elim (fun _ =>
    some (.inl (A.wrp .i64 (A.zadd a 1)))) (fun _ =>
    some (.inr (.inr ()))))
 else
  some (.inr (.inl ()))

/-- lineal linealref08.IsUse -/
def Z32 (A:Ar) (c a:List D):Option (Bool) :=
 (Z77 A 1 (A.len a) 2).bind fun b =>
 bif b then
  (iter (Z32L1 A c a) 0).bind (Sum.elim (fun _ =>
   some true) (fun _ =>
   some false))
 else
  some false

/-- lineal linealref08.asked -/
def Z67 (A:Ar) (a d:List D):Option (Int) :=
 (Z30 A a).bind fun b =>
 bif b then
  (Z32 A a d).bind fun c =>
  bif c then
   some 0
  else
   some 81
 else
  some 80

/-- lineal linealref08.specified -/
def Z60 (A:Ar) (g i:Int) (j k a l:List D):Option (Int) :=
 ((
  (Z30 A a).bind fun d =>
  bif d then
   (Z100 A g i j k a).bind fun b =>
   some (!b)
  else
   some false:Option (Bool))).bind fun e =>
 bif e then
  some 10
 else
  (Z67 A a l).bind fun c =>
  some c

/-- lineal linealref08.Begin -/
def Z101 (A:Ar) (b a c:List D):Option (List D×List D×List D×List D) :=
 (ck (A.zeq (A.len a) (A.len a))).bind fun _ =>
 (ck (A.zle 0 (A.len a))).bind fun _ =>
 (ck (A.fits (A.len a))).bind fun _ =>
 some (b,a,c,(A.rep (A.len a) (.agg [(.int .i64 0),(.int .i64 0),(.bool false),(.int .i64 0),(.int .i64 0),(.int .i64 0),(.int .i64 0),(.int .i64 0)])))

/--  *lineal linealref08.Play .Step -/
def Z104 (A:Ar) (a:Int) (x2 x3 x4:List D) (w r s u:Int) (y G n0:List D):Option (List D×List D×List D×Int×Int×Int×Int×List D×List D×List D) :=
 (ck (A.zle 0 a)).bind fun _ =>
 (ck (A.zlt a (A.len y))).bind fun _ =>
 (gc A (cG (lc (cI .i64) (lc (cI .i64) (lc cB (lc (cI .i64) (lc (cI .i64) (lc (cI .i64) (lc (cI .i64) (l1 (cI .i64)))))))))) y (A.nat a)).bind fun (b0,k4,k1,l4,m4,n4,o4,p4) =>
 ((
  bif k1 then
   some (y,G,n0)
  else
   (gt A (cL 1) x3 a).bind fun i2 =>
   (gc A (cG (lc (cI .i64) (lc (cI .i64) (lc cB (lc (cI .i64) (lc (cI .i64) (lc (cI .i64) (lc (cI .i64) (l1 (cI .i64)))))))))) (A.lset y (A.nat a) (.agg [(.int .i64 (A.wrp .i64 (A.zadd b0 1))),(.int .i64 0),(.bool true),(.int .i64 (A.len G)),(.int .i64 0),(.int .i64 1),(.int .i64 0),(.int .i64 0)])) (A.nat a)).bind fun (p2,v4,d5,i5,j5,k5,l5,m5) =>
   (gt A (cI .i64) i2 (A.wrp .i64 (A.zsub p2 1))).bind fun r2 =>
   (ap A G [(.agg [(.int .i64 a),(.int .i64 0),(.int .i64 r2),(.int .i64 0),(.int .i64 (A.wrp .i64 (A.zadd (A.wrp .i64 (A.zmul 2 w)) 1))),(.int .i64 0)])]).bind fun u2 =>
   (ap A n0 [(.int .i64 (-1))]).bind fun v2 =>
   some ((A.lset y (A.nat a) (.agg [(.int .i64 (A.wrp .i64 (A.zadd b0 1))),(.int .i64 0),(.bool true),(.int .i64 (A.len G)),(.int .i64 0),(.int .i64 1),(.int .i64 0),(.int .i64 0)])),u2,v2):Option (List D×List D×List D))).bind fun (g,o,F) =>
 (gc A (cG (lc (cI .i64) (lc (cI .i64) (lc cB (lc (cI .i64) (lc (cI .i64) (lc (cI .i64) (lc (cI .i64) (l1 (cI .i64)))))))))) g (A.nat a)).bind fun (i,d,j,c,k,l,m,n) =>
 (ck (A.zle 0 c)).bind fun _ =>
 (ck (A.zlt c (A.len o))).bind fun _ =>
 (gc A (cG (lc (cI .i64) (lc (cI .i64) (lc (cI .i64) (lc (cI .i64) (lc (cI .i64) (l1 (cI .i64)))))))) o (A.nat c)).bind fun (n5,o5,Y,p5,q5,r5) =>
 (gt A (cL 4) x2 Y).bind fun s2 =>
 (gt A (cG (lc (cI .i64) (lc (cI .i64) (lc (cI .i64) (l1 (cI .i64)))))) s2 d).bind fun (q,b,e,v) =>
 ((
  bif (A.zeq q 1) then
   (ck (A.zle 0 e)).bind fun _ =>
   (ck (A.zlt e (Int.ofNat 3))).bind fun _ =>
   (gc A (cI .i64) [(.int .i64 r),(.int .i64 s),(.int .i64 u)] (A.nat e)).bind fun E =>
   (ck (A.zle 0 b)).bind fun _ =>
   (ck (A.zlt b (Int.ofNat 4))).bind fun _ =>
   (gc A (cG (lc (cI .i64) (lc (cI .i64) (lc cB (lc (cI .i64) (lc (cI .i64) (lc (cI .i64) (lc (cI .i64) (l1 (cI .i64)))))))))) (A.lset g (A.nat a) (.agg [(.int .i64 i),(.int .i64 (A.wrp .i64 (A.zadd d 1))),(.bool j),(.int .i64 c),(.int .i64 k),(.int .i64 l),(.int .i64 m),(.int .i64 n)])) (A.nat a)).bind fun (o0,p0,q0,r0,s0,u0,v0,w0) =>
   some (r,s,u,(A.lset (A.lset g (A.nat a) (.agg [(.int .i64 i),(.int .i64 (A.wrp .i64 (A.zadd d 1))),(.bool j),(.int .i64 c),(.int .i64 k),(.int .i64 l),(.int .i64 m),(.int .i64 n)])) (A.nat a) (.agg [(.int .i64 o0),(.int .i64 p0),(.bool q0),(.int .i64 r0),(.int .i64 (bif A.zeq b (Int.ofNat 0) then E else s0)),(.int .i64 (bif A.zeq b (Int.ofNat 1) then E else u0)),(.int .i64 (bif A.zeq b (Int.ofNat 2) then E else v0)),(.int .i64 (bif A.zeq b (Int.ofNat 3) then E else w0))])),o)
  else
   ((
    bif (A.zeq q 2) then
     (ck (A.zle 0 e)).bind fun _ =>
     (ck (A.zlt e (Int.ofNat 4))).bind fun _ =>
     (gc A (cG (lc (cI .i64) (lc (cI .i64) (lc cB (lc (cI .i64) (lc (cI .i64) (lc (cI .i64) (lc (cI .i64) (l1 (cI .i64)))))))))) (A.lset g (A.nat a) (.agg [(.int .i64 i),(.int .i64 (A.wrp .i64 (A.zadd d 1))),(.bool j),(.int .i64 c),(.int .i64 k),(.int .i64 l),(.int .i64 m),(.int .i64 n)])) (A.nat a)).bind fun (e4,g4,i4,j4,y0,z0,a1,b1) =>
     (gc A (cI .i64) [(.int .i64 y0),(.int .i64 z0),(.int .i64 a1),(.int .i64 b1)] (A.nat e)).bind fun J =>
     (ck (A.zle 0 b)).bind fun _ =>
     (ck (A.zlt b (Int.ofNat 3))).bind fun _ =>
     some ((bif A.zeq b (Int.ofNat 0) then J else r),(bif A.zeq b (Int.ofNat 1) then J else s),(bif A.zeq b (Int.ofNat 2) then J else u),(A.lset g (A.nat a) (.agg [(.int .i64 i),(.int .i64 (A.wrp .i64 (A.zadd d 1))),(.bool j),(.int .i64 c),(.int .i64 k),(.int .i64 l),(.int .i64 m),(.int .i64 n)])),o)
    else
     ((
      bif (A.zeq q 3) then
       (ck (A.zle 0 b)).bind fun _ =>
       (ck (A.zlt b (Int.ofNat 3))).bind fun _ =>
       (gc A (cI .i64) [(.int .i64 r),(.int .i64 s),(.int .i64 u)] (A.nat b)).bind fun c1 =>
       (ck (A.zle 0 e)).bind fun _ =>
       (ck (A.zlt e (Int.ofNat 4))).bind fun _ =>
       (gc A (cG (lc (cI .i64) (lc (cI .i64) (lc cB (lc (cI .i64) (lc (cI .i64) (lc (cI .i64) (lc (cI .i64) (l1 (cI .i64)))))))))) (A.lset g (A.nat a) (.agg [(.int .i64 i),(.int .i64 (A.wrp .i64 (A.zadd d 1))),(.bool j),(.int .i64 c),(.int .i64 k),(.int .i64 l),(.int .i64 m),(.int .i64 n)])) (A.nat a)).bind fun (e1,g1,i1,j1,K,L,M,a0) =>
       (gc A (cI .i64) [(.int .i64 K),(.int .i64 L),(.int .i64 M),(.int .i64 a0)] (A.nat e)).bind fun d1 =>
       ((
        bif (A.zeq c1 d1) then
         (ck (A.zle 0 v)).bind fun _ =>
         (ck (A.zlt v (Int.ofNat 4))).bind fun _ =>
         (gc A (cI .i64) [(.int .i64 K),(.int .i64 L),(.int .i64 M),(.int .i64 a0)] (A.nat v)).bind fun N =>
         (ck (A.zle 0 b)).bind fun _ =>
         (ck (A.zlt b (Int.ofNat 3))).bind fun _ =>
         some (1,(bif A.zeq b (Int.ofNat 0) then N else r),(bif A.zeq b (Int.ofNat 1) then N else s),(bif A.zeq b (Int.ofNat 2) then N else u))
        else
         some (0,r,s,u):Option (Int×Int×Int×Int))).bind fun (w2,y2,z2,a3) =>
       some (y2,z2,a3,(A.lset (A.lset g (A.nat a) (.agg [(.int .i64 i),(.int .i64 (A.wrp .i64 (A.zadd d 1))),(.bool j),(.int .i64 c),(.int .i64 k),(.int .i64 l),(.int .i64 m),(.int .i64 n)])) (A.nat a) (.agg [(.int .i64 e1),(.int .i64 g1),(.bool i1),(.int .i64 j1),(.int .i64 K),(.int .i64 L),(.int .i64 M),(.int .i64 w2)])),o)
      else
       ((
        bif (A.zeq q 4) then
         (ck (A.zle 0 b)).bind fun _ =>
         (ck (A.zlt b (Int.ofNat 4))).bind fun _ =>
         (gc A (cG (lc (cI .i64) (lc (cI .i64) (lc cB (lc (cI .i64) (lc (cI .i64) (lc (cI .i64) (lc (cI .i64) (l1 (cI .i64)))))))))) (A.lset g (A.nat a) (.agg [(.int .i64 i),(.int .i64 (A.wrp .i64 (A.zadd d 1))),(.bool j),(.int .i64 c),(.int .i64 k),(.int .i64 l),(.int .i64 m),(.int .i64 n)])) (A.nat a)).bind fun (m1,n1,o1,p1,q1,r1,s1,u1) =>
         some ((A.lset (A.lset g (A.nat a) (.agg [(.int .i64 i),(.int .i64 (A.wrp .i64 (A.zadd d 1))),(.bool j),(.int .i64 c),(.int .i64 k),(.int .i64 l),(.int .i64 m),(.int .i64 n)])) (A.nat a) (.agg [(.int .i64 m1),(.int .i64 n1),(.bool o1),(.int .i64 p1),(.int .i64 (bif A.zeq b (Int.ofNat 0) then e else q1)),(.int .i64 (bif A.zeq b (Int.ofNat 1) then e else r1)),(.int .i64 (bif A.zeq b (Int.ofNat 2) then e else s1)),(.int .i64 (bif A.zeq b (Int.ofNat 3) then e else u1))])),o)
        else
         ((
          bif (A.zeq q 5) then
           (ck (A.zle 0 e)).bind fun _ =>
           (ck (A.zlt e (Int.ofNat 4))).bind fun _ =>
           (gc A (cG (lc (cI .i64) (lc (cI .i64) (lc cB (lc (cI .i64) (lc (cI .i64) (lc (cI .i64) (lc (cI .i64) (l1 (cI .i64)))))))))) (A.lset g (A.nat a) (.agg [(.int .i64 i),(.int .i64 (A.wrp .i64 (A.zadd d 1))),(.bool j),(.int .i64 c),(.int .i64 k),(.int .i64 l),(.int .i64 m),(.int .i64 n)])) (A.nat a)).bind fun (v1,w1,y1,z1,O,P,Q,R) =>
           (gc A (cI .i64) [(.int .i64 O),(.int .i64 P),(.int .i64 Q),(.int .i64 R)] (A.nat e)).bind fun z =>
           (ck (A.zle 0 v)).bind fun _ =>
           (ck (A.zlt v (Int.ofNat 4))).bind fun _ =>
           (gc A (cI .i64) [(.int .i64 O),(.int .i64 P),(.int .i64 Q),(.int .i64 R)] (A.nat v)).bind fun B =>
           (nk (A.zeq 10 0)).bind fun _ =>
           (ck (A.zle 0 b)).bind fun _ =>
           (ck (A.zlt b (Int.ofNat 4))).bind fun _ =>
           some ((A.lset (A.lset g (A.nat a) (.agg [(.int .i64 i),(.int .i64 (A.wrp .i64 (A.zadd d 1))),(.bool j),(.int .i64 c),(.int .i64 k),(.int .i64 l),(.int .i64 m),(.int .i64 n)])) (A.nat a) (.agg [(.int .i64 v1),(.int .i64 w1),(.bool y1),(.int .i64 z1),(.int .i64 (bif A.zeq b (Int.ofNat 0) then (A.rem (A.wrp .i64 (A.zadd z B)) 10) else O)),(.int .i64 (bif A.zeq b (Int.ofNat 1) then (A.rem (A.wrp .i64 (A.zadd z B)) 10) else P)),(.int .i64 (bif A.zeq b (Int.ofNat 2) then (A.rem (A.wrp .i64 (A.zadd z B)) 10) else Q)),(.int .i64 (bif A.zeq b (Int.ofNat 3) then (A.rem (A.wrp .i64 (A.zadd z B)) 10) else R))])),o)
          else
           ((
            bif (A.zeq q 6) then
             (ck (A.zle 0 b)).bind fun _ =>
             (ck (A.zlt b (Int.ofNat 4))).bind fun _ =>
             (gc A (cG (lc (cI .i64) (lc (cI .i64) (lc cB (lc (cI .i64) (lc (cI .i64) (lc (cI .i64) (lc (cI .i64) (l1 (cI .i64)))))))))) (A.lset g (A.nat a) (.agg [(.int .i64 i),(.int .i64 (A.wrp .i64 (A.zadd d 1))),(.bool j),(.int .i64 c),(.int .i64 k),(.int .i64 l),(.int .i64 m),(.int .i64 n)])) (A.nat a)).bind fun (b2,q4,c2,d2,c0,d0,e0,g0) =>
             (gc A (cI .i64) [(.int .i64 c0),(.int .i64 d0),(.int .i64 e0),(.int .i64 g0)] (A.nat b)).bind fun a2 =>
             ((
              bif (A.zeq a2 0) then
               some (A.lset (A.lset g (A.nat a) (.agg [(.int .i64 i),(.int .i64 (A.wrp .i64 (A.zadd d 1))),(.bool j),(.int .i64 c),(.int .i64 k),(.int .i64 l),(.int .i64 m),(.int .i64 n)])) (A.nat a) (.agg [(.int .i64 b2),(.int .i64 e),(.bool c2),(.int .i64 d2),(.int .i64 c0),(.int .i64 d0),(.int .i64 e0),(.int .i64 g0)]))
              else
               some (A.lset g (A.nat a) (.agg [(.int .i64 i),(.int .i64 (A.wrp .i64 (A.zadd d 1))),(.bool j),(.int .i64 c),(.int .i64 k),(.int .i64 l),(.int .i64 m),(.int .i64 n)])):Option (List D))).bind fun b3 =>
             some (b3,o)
            else
             ((
              bif (A.zeq q 7) then
               (gc A (cG (lc (cI .i64) (lc (cI .i64) (lc cB (lc (cI .i64) (lc (cI .i64) (lc (cI .i64) (lc (cI .i64) (l1 (cI .i64)))))))))) (A.lset g (A.nat a) (.agg [(.int .i64 i),(.int .i64 (A.wrp .i64 (A.zadd d 1))),(.bool j),(.int .i64 c),(.int .i64 k),(.int .i64 l),(.int .i64 m),(.int .i64 n)])) (A.nat a)).bind fun (e2,g2,r4,p,i0,j0,k0,l0) =>
               (ck (A.zle 0 p)).bind fun _ =>
               (ck (A.zlt p (A.len o))).bind fun _ =>
               (gc A (cG (lc (cI .i64) (lc (cI .i64) (lc (cI .i64) (lc (cI .i64) (lc (cI .i64) (l1 (cI .i64)))))))) o (A.nat p)).bind fun (S,U,V,W,X,s4) =>
               (ck (A.zle 0 b)).bind fun _ =>
               (ck (A.zlt b (Int.ofNat 4))).bind fun _ =>
               (gc A (cI .i64) [(.int .i64 i0),(.int .i64 j0),(.int .i64 k0),(.int .i64 l0)] (A.nat b)).bind fun j2 =>
               (ck (A.zle 0 p)).bind fun _ =>
               (ck (A.zlt p (A.len (A.lset o (A.nat p) (.agg [(.int .i64 S),(.int .i64 U),(.int .i64 V),(.int .i64 W),(.int .i64 X),(.int .i64 (A.wrp .i64 (A.zadd (A.wrp .i64 (A.zmul 2 w)) 2)))]))))).bind fun _ =>
               (gc A (cG (lc (cI .i64) (lc (cI .i64) (lc (cI .i64) (lc (cI .i64) (lc (cI .i64) (l1 (cI .i64)))))))) (A.lset o (A.nat p) (.agg [(.int .i64 S),(.int .i64 U),(.int .i64 V),(.int .i64 W),(.int .i64 X),(.int .i64 (A.wrp .i64 (A.zadd (A.wrp .i64 (A.zmul 2 w)) 2)))])) (A.nat p)).bind fun (k2,l2,m2,u4,n2,o2) =>
               some ((A.lset (A.lset g (A.nat a) (.agg [(.int .i64 i),(.int .i64 (A.wrp .i64 (A.zadd d 1))),(.bool j),(.int .i64 c),(.int .i64 k),(.int .i64 l),(.int .i64 m),(.int .i64 n)])) (A.nat a) (.agg [(.int .i64 e2),(.int .i64 g2),(.bool false),(.int .i64 p),(.int .i64 i0),(.int .i64 j0),(.int .i64 k0),(.int .i64 l0)])),(A.lset (A.lset o (A.nat p) (.agg [(.int .i64 S),(.int .i64 U),(.int .i64 V),(.int .i64 W),(.int .i64 X),(.int .i64 (A.wrp .i64 (A.zadd (A.wrp .i64 (A.zmul 2 w)) 2)))])) (A.nat p) (.agg [(.int .i64 k2),(.int .i64 l2),(.int .i64 m2),(.int .i64 j2),(.int .i64 n2),(.int .i64 o2)])))
              else
               some ((A.lset g (A.nat a) (.agg [(.int .i64 i),(.int .i64 (A.wrp .i64 (A.zadd d 1))),(.bool j),(.int .i64 c),(.int .i64 k),(.int .i64 l),(.int .i64 m),(.int .i64 n)])),o):Option (List D×List D))).bind fun (c3,d3) =>
             some (c3,d3):Option (List D×List D))).bind fun (e3,g3) =>
           some (e3,g3):Option (List D×List D))).bind fun (i3,j3) =>
         some (i3,j3):Option (List D×List D))).bind fun (k3,l3) =>
       some (r,s,u,k3,l3):Option (Int×Int×Int×List D×List D))).bind fun (m3,n3,o3,p3,q3) =>
     some (m3,n3,o3,p3,q3):Option (Int×Int×Int×List D×List D))).bind fun (r3,s3,u3,v3,w3) =>
   some (r3,s3,u3,v3,w3):Option (Int×Int×Int×List D×List D))).bind fun (y3,z3,a4,m0,b4) =>
 ((
  bif (A.zlt Y (A.len x4)) then
   (gt A (cI .i64) x4 Y).bind fun q2 =>
   some (A.zeq q2 d)
  else
   some false:Option (Bool))).bind fun c4 =>
 ((
  bif c4 then
   (gc A (cG (lc (cI .i64) (lc (cI .i64) (lc cB (lc (cI .i64) (lc (cI .i64) (lc (cI .i64) (lc (cI .i64) (l1 (cI .i64)))))))))) m0 (A.nat a)).bind fun (w4,y4,z4,C,a5,b5,c5,e5) =>
   (ck (A.zle 0 C)).bind fun _ =>
   (ck (A.zlt C (A.len F))).bind fun _ =>
   (gc A (cI .i64) F (A.nat C)).bind fun g5 =>
   some (A.lset F (A.nat C) (.int .i64 w))
  else
   some F:Option (List D))).bind fun d4 =>
 some (x2,x3,x4,(A.wrp .i64 (A.zadd w 1)),y3,z3,a4,m0,b4,d4)

/-- lineal linealref02.within -/
def Z90 (A:Ar) (c a d:Int):Option (Bool) :=
 ((
  bif (A.zle c a) then
   some (A.zle a d)
  else
   some false:Option (Bool))).bind fun b =>
 some b

def Z48L0 (A:Ar) (b:List D):Int->Option ((Int)⊕((Unit)⊕(Unit))):=fun a =>
 bif (A.zlt a (A.len b)) then
  (gt A (cG (lc (cI .i64) (lc (cI .i64) (lc (cL 1) (l1 (cL 1)))))) b a).bind fun (c,d,e,g) =>
  (Z31 A c d e g).bind fun i =>
  bif i then
   some (.inl (A.wrp .i64 (A.zadd a 1)))
  else
   some (.inr (.inr ()))
 else
  some (.inr (.inl ()))

/-- lineal linealref02.areSpecs -/
def Z48 (A:Ar) (a:List D):Option (Bool) :=
 (iter (Z48L0 A a) 0).bind (Sum.elim (fun _ =>
  (Z90 A 1 (A.len a) 2).bind fun b =>
  some b) (fun _ =>
  some false))

/-- lineal linealref02.before -/
def Z171 (A:Ar) (d i j k l a m n o e c g:Int):Option (Bool) :=
 ((
  bif (A.zeq a 0) then
   some false
  else
   some (A.zlt a c):Option (Bool))).bind fun b =>
 some b

/-- lineal linealref02.meets -/
def Z135 (A:Ar) (e j k l d a g m n i b c:Int):Option (Bool) :=
 ((
  bif (A.zeq d b) then
   some true
  else
   bif (A.zeq d c) then
    some true
   else
    bif (A.zeq a b) then
     some true
    else
     bif (A.zeq a 0) then
      some false
     else
      some (A.zeq a c):Option (Bool))).bind fun q =>
 bif q then
  some true
 else
  ((
   bif (A.zeq e g) then
    (Z171 A e j k l d a g m n i b c).bind fun o =>
    bif o then
     some false
    else
     (Z171 A g m n i b c e j k l d a).bind fun p =>
     some (!p)
   else
    some false:Option (Bool))).bind fun r =>
  some r

def Z91L0 (A:Ar) (r:List D) (q b c d e g i:Int):Int->Option ((Int)⊕((Unit)⊕(Unit))):=fun a =>
 bif (A.zlt a q) then
  (gt A (cG (lc (cI .i64) (lc (cI .i64) (lc (cI .i64) (lc (cI .i64) (lc (cI .i64) (l1 (cI .i64)))))))) r a).bind fun (j,k,l,m,n,o) =>
  (Z135 A b c d e g i j k l m n o).bind fun p =>
  bif p then
   some (.inr (.inr ()))
  else
   some (.inl (A.wrp .i64 (A.zadd a 1)))
 else
  some (.inr (.inl ()))

def Z91L1 (A:Ar) (e:List D):Int->Option ((Int)⊕((Unit)⊕(Unit))):=fun a =>
 bif (A.zlt a (A.len e)) then
  (gt A (cG (lc (cI .i64) (lc (cI .i64) (lc (cI .i64) (lc (cI .i64) (lc (cI .i64) (l1 (cI .i64)))))))) e a).bind fun (g,i,j,b,c,d) =>
  ((
   (Z90 A 0 g 3).bind fun k =>
   bif k then
    (Z90 A 0 i 1).bind fun l =>
    bif l then
     (Z90 A 0 j 3).bind fun m =>
     bif m then
      (Z90 A 0 b 9).bind fun n =>
      bif n then
       (Z90 A 1 c 100).bind fun o =>
       some (!o)
      else
       some true
     else
      some true
    else
     some true
   else
    some true:Option (Bool))).bind fun q =>
  bif q then
   some (.inr (.inr ()))
  else
   ((
    bif (A.zeq d 0) then
     bif (A.zeq b 0) then
      some false
     else
      some true
    else
     (Z90 A (A.wrp .i64 (A.zadd c 1)) d 100).bind fun p =>
     some (!p):Option (Bool))).bind fun r =>
   bif r then
    some (.inr (.inr ()))
   else
    (iter (Z91L0 A e a g i j b c d) 0).bind (Sum.elim (fun _ =>
     some (.inl (A.wrp .i64 (A.zadd a 1)))) (fun _ =>
     some (.inr (.inr ()))))
 else
  some (.inr (.inl ()))
end
end Go.Am
