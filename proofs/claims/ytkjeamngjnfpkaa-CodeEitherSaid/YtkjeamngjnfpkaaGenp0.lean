/- Own text: Genp0. -/
import Derived.Test.YtkjeamngjnfpkaaAmLaw
import Derived.Test.YtkjeamngjnfpkaaAmLaw
import Derived.Test.YtkjeamngjnfpkaaAmLaw
set_option maxRecDepth 100000
set_option maxHeartbeats 2000000
set_option linter.unusedVariables false
set_option linter.unusedSimpArgs false
namespace Go.Am
noncomputable section
open Go
def K41L0 (A:Ar) (b:List D):Int->Option ((Int)⊕((Unit)⊕(Unit))):=fun a =>
 bif (A.zlt a (A.len b)) then
  (gt A (cL 1) b a).bind fun c =>
  bif (A.zlt 20 (A.len c)) then
   some (.inr (.inr ()))
  else
   some (.inl (A.wrp .i64 (A.zadd a 1)))
 else
  some (.inr (.inl ()))

def K41L1 (A:Ar) (b:List D):Int->Option ((Int)⊕((Unit)⊕(Unit))):=fun a =>
 bif (A.zlt a (A.len b)) then
  (gt A (cL 1) b a).bind fun c =>
  bif (A.zlt 20 (A.len c)) then
   some (.inr (.inr ()))
  else
   some (.inl (A.wrp .i64 (A.zadd a 1)))
 else
  some (.inr (.inl ()))

def K41L2 (A:Ar) (d:List D):Int->Option ((Int)⊕((Unit)⊕(Unit))):=fun a =>
 bif (A.zlt a (A.len d)) then
  (gt A (cG (lc (cI .i64) (lc (cI .i64) (lc (cL 1) (l1 (cL 1)))))) d a).bind fun (g,i,b,c) =>
  ((
   bif (A.zlt 20 (A.len b)) then
    some true
   else
    some (A.zlt 20 (A.len c)):Option (Bool))).bind fun e =>
  bif e then
   some (.inr (.inr ()))
  else
   (iter (K41L0 A b) 0).bind (Sum.elim (fun _ =>
    (iter (K41L1 A c) 0).bind (Sum.elim (fun _ =>
     some (.inl (A.wrp .i64 (A.zadd a 1)))) (fun _ =>
     some (.inr (.inr ()))))) (fun _ =>
    some (.inr (.inr ()))))
 else
  some (.inr (.inl ()))

/-- lineal lineallaw02.Large -/
def K41 (A:Ar) (a:List D):Option (Bool) :=
 (iter (K41L2 A a) 0).bind (Sum.elim (fun _ =>
  some (A.zlt 5 (A.len a))) (fun _ =>
  some true))

def K9L0 (A:Ar) (b:List D):Int->Option ((Int)⊕((Unit)⊕(Unit))):=fun a =>
 bif (A.zlt a (A.len b)) then
  (gt A (cL 4) b a).bind fun c =>
  bif (A.zlt 30 (A.len c)) then
   some (.inr (.inr ()))
  else
   some (.inl (A.wrp .i64 (A.zadd a 1)))
 else
  some (.inr (.inl ()))

def K9L1 (A:Ar) (b:List D):Int->Option ((Int)⊕((Unit)⊕(Unit))):=fun a =>
 bif (A.zlt a (A.len b)) then
  (gt A (cL 1) b a).bind fun c =>
  bif (A.zlt 20 (A.len c)) then
   some (.inr (.inr ()))
  else
   some (.inl (A.wrp .i64 (A.zadd a 1)))
 else
  some (.inr (.inl ()))

/-- lineal lineallaw08.Large -/
def K9 (A:Ar) (e g:Int) (i j a b:List D):Option (Bool) :=
 (iter (K9L0 A a) 0).bind (Sum.elim (fun _ =>
  (iter (K9L1 A b) 0).bind (Sum.elim (fun _ =>
   ((
    (K41 A [(.agg [(.int .i64 e),(.int .i64 g),(.list 1 i),(.list 1 j)])]).bind fun c =>
    bif c then
     some true
    else
     bif (A.zlt 10 (A.len a)) then
      some true
     else
      some (A.zlt 10 (A.len b)):Option (Bool))).bind fun d =>
   some d) (fun _ =>
   some true))) (fun _ =>
  some true))

/-- lineal code.between -/
def K47 (A:Ar) (c a d:Int):Option (Bool) :=
 ((
  bif (A.zle c a) then
   some (A.zle a d)
  else
   some false:Option (Bool))).bind fun b =>
 some b

/-- lineal code.isRegister$1 -/
def K163 (A:Ar) (b:Int):Option (Bool) :=
 (K47 A 0 b 3).bind fun a =>
 some (!a)

def K162L0 (A:Ar) (b:List D):Int->Option ((Int)⊕((Unit)⊕(Int))):=fun a =>
 bif (A.zlt a (A.len b)) then
  (gt A (cI .i64) b a).bind fun c =>
  (K163 A c).bind fun d =>
  bif d then
   some (.inr (.inr a))
  else
   some (.inl (A.wrp .i64 (A.zadd a 1)))
 else
  some (.inr (.inl ()))

/-- slices.IndexFunc   int int  -/
def K162 (A:Ar) (b:List D):Option (Int) :=
 (iter (K162L0 A b) 0).bind (Sum.elim (fun _ =>
  some (-1)) (fun a =>
  some a))

/-- slices.ContainsFunc   int int  -/
def K135 (A:Ar) (b:List D):Option (Bool) :=
 (K162 A b).bind fun a =>
 some (A.zle 0 a)

/-- lineal code.isRegister -/
def K138 (A:Ar) (b:List D):Option (Bool) :=
 (K135 A b).bind fun a =>
 some (!a)

/-- lineal code.isCell -/
def K79 (A:Ar) (b:Int):Option (Bool) :=
 (K47 A 0 b 2).bind fun a =>
 some a

/-- lineal code.isLine -/
def K110 (A:Ar) (a b c d B:Int):Option (Bool) :=
 bif (A.zeq a 1) then
  ((
   (K138 A [(.int .i64 b)]).bind fun r =>
   bif r then
    (K79 A c).bind fun e =>
    bif e then
     some (A.zeq d 0)
    else
     some false
   else
    some false:Option (Bool))).bind fun s =>
  some s
 else
  bif (A.zeq a 2) then
   ((
    (K79 A b).bind fun g =>
    bif g then
     (K138 A [(.int .i64 c)]).bind fun i =>
     bif i then
      some (A.zeq d 0)
     else
      some false
    else
     some false:Option (Bool))).bind fun u =>
   some u
  else
   bif (A.zeq a 3) then
    ((
     (K79 A b).bind fun j =>
     bif j then
      (K138 A [(.int .i64 c),(.int .i64 d)]).bind fun k =>
      some k
     else
      some false:Option (Bool))).bind fun v =>
    some v
   else
    bif (A.zeq a 4) then
     ((
      (K138 A [(.int .i64 b)]).bind fun l =>
      bif l then
       (K47 A 0 c 9).bind fun m =>
       bif m then
        some (A.zeq d 0)
       else
        some false
      else
       some false:Option (Bool))).bind fun w =>
     some w
    else
     bif (A.zeq a 5) then
      (K138 A [(.int .i64 b),(.int .i64 c),(.int .i64 d)]).bind fun n =>
      some n
     else
      bif (A.zeq a 6) then
       ((
        (K138 A [(.int .i64 b)]).bind fun o =>
        bif o then
         (K47 A 0 c (A.wrp .i64 (A.zsub B 1))).bind fun p =>
         bif p then
          some (A.zeq d 0)
         else
          some false
        else
         some false:Option (Bool))).bind fun y =>
       some y
      else
       bif (A.zeq a 7) then
        ((
         (K138 A [(.int .i64 b)]).bind fun q =>
         bif q then
          bif (A.zeq c 0) then
           some (A.zeq d 0)
          else
           some false
         else
          some false:Option (Bool))).bind fun z =>
        some z
       else
        some false

/-- lineal code.isCall$1 -/
def K109 (A:Ar) (b c d e:Int) (g:List D):Option (Bool) :=
 (K110 A b c d e (A.len g)).bind fun a =>
 some (!a)

def K137L0 (A:Ar) (b j:List D):Int->Option ((Int)⊕((Unit)⊕(Int))):=fun a =>
 bif (A.zlt a (A.len b)) then
  (gt A (cG (lc (cI .i64) (lc (cI .i64) (lc (cI .i64) (l1 (cI .i64)))))) b a).bind fun (c,d,e,g) =>
  (K109 A c d e g j).bind fun i =>
  bif i then
   some (.inr (.inr a))
  else
   some (.inl (A.wrp .i64 (A.zadd a 1)))
 else
  some (.inr (.inl ()))

/-- slices.IndexFunc   lineal api.Line lineal api.Line  -/
def K137 (A:Ar) (b c:List D):Option (Int) :=
 (iter (K137L0 A b c) 0).bind (Sum.elim (fun _ =>
  some (-1)) (fun a =>
  some a))

/-- slices.ContainsFunc   lineal api.Line lineal api.Line  -/
def K108 (A:Ar) (b c:List D):Option (Bool) :=
 (K137 A b c).bind fun a =>
 some (A.zle 0 a)

/-- lineal code.isCall -/
def K50 (A:Ar) (a:List D):Option (Bool) :=
 ((
  (K47 A 1 (A.len a) 8).bind fun c =>
  bif c then
   (K108 A a a).bind fun d =>
   bif d then
    some false
   else
    (gt A (cG (lc (cI .i64) (lc (cI .i64) (lc (cI .i64) (l1 (cI .i64)))))) a (A.wrp .i64 (A.zsub (A.len a) 1))).bind fun (b,j,g,i) =>
    some (A.zeq b 7)
  else
   some false:Option (Bool))).bind fun e =>
 some e

/-- lineal code.Valid$1 -/
def K49 (A:Ar) (b:List D):Option (Bool) :=
 (K50 A b).bind fun a =>
 some (!a)

def K107L0 (A:Ar) (b:List D):Int->Option ((Int)⊕((Unit)⊕(Int))):=fun a =>
 bif (A.zlt a (A.len b)) then
  (gt A (cL 4) b a).bind fun c =>
  (K49 A c).bind fun d =>
  bif d then
   some (.inr (.inr a))
  else
   some (.inl (A.wrp .i64 (A.zadd a 1)))
 else
  some (.inr (.inl ()))

/-- slices.IndexFunc     lineal api.Line   lineal api.Line  -/
def K107 (A:Ar) (b:List D):Option (Int) :=
 (iter (K107L0 A b) 0).bind (Sum.elim (fun _ =>
  some (-1)) (fun a =>
  some a))

/-- slices.ContainsFunc     lineal api.Line   lineal api.Line  -/
def K48 (A:Ar) (b:List D):Option (Bool) :=
 (K107 A b).bind fun a =>
 some (A.zle 0 a)

/-- lineal code.Valid -/
def K15 (A:Ar) (a:List D):Option (Bool) :=
 ((
  (K47 A 1 (A.len a) 4).bind fun b =>
  bif b then
   (K48 A a).bind fun c =>
   some (!c)
  else
   some false:Option (Bool))).bind fun d =>
 some d

/-- lineal code.isWord$1 -/
def K136 (A:Ar) (b:Int) (c:List D):Option (Bool) :=
 (K47 A 0 b (A.wrp .i64 (A.zsub (A.len c) 1))).bind fun a =>
 some (!a)

def K162aL0 (A:Ar) (b e:List D):Int->Option ((Int)⊕((Unit)⊕(Int))):=fun a =>
 bif (A.zlt a (A.len b)) then
  (gt A (cI .i64) b a).bind fun c =>
  (K136 A c e).bind fun d =>
  bif d then
   some (.inr (.inr a))
  else
   some (.inl (A.wrp .i64 (A.zadd a 1)))
 else
  some (.inr (.inl ()))

/-- slices.IndexFunc   int int  -/
def K162a (A:Ar) (b c:List D):Option (Int) :=
 (iter (K162aL0 A b c) 0).bind (Sum.elim (fun _ =>
  some (-1)) (fun a =>
  some a))

/-- slices.ContainsFunc   int int  -/
def K135a (A:Ar) (b c:List D):Option (Bool) :=
 (K162a A b c).bind fun a =>
 some (A.zle 0 a)

/-- lineal code.isWord -/
def K103 (A:Ar) (d a:List D):Option (Bool) :=
 ((
  bif (A.zle (A.len a) 3) then
   (K135a A a d).bind fun b =>
   some (!b)
  else
   some false:Option (Bool))).bind fun c =>
 some c

/-- lineal code.isUse$1 -/
def K102 (A:Ar) (b c:List D):Option (Bool) :=
 (K103 A c b).bind fun a =>
 some (!a)

def K134L0 (A:Ar) (b e:List D):Int->Option ((Int)⊕((Unit)⊕(Int))):=fun a =>
 bif (A.zlt a (A.len b)) then
  (gt A (cL 1) b a).bind fun c =>
  (K102 A c e).bind fun d =>
  bif d then
   some (.inr (.inr a))
  else
   some (.inl (A.wrp .i64 (A.zadd a 1)))
 else
  some (.inr (.inl ()))

/-- slices.IndexFunc     int   int  -/
def K134 (A:Ar) (b c:List D):Option (Int) :=
 (iter (K134L0 A b c) 0).bind (Sum.elim (fun _ =>
  some (-1)) (fun a =>
  some a))

/-- slices.ContainsFunc     int   int  -/
def K101 (A:Ar) (b c:List D):Option (Bool) :=
 (K134 A b c).bind fun a =>
 some (A.zle 0 a)

/-- lineal code.isUse -/
def K42 (A:Ar) (e a:List D):Option (Bool) :=
 ((
  (K47 A 1 (A.len a) 2).bind fun b =>
  bif b then
   (K101 A a e).bind fun c =>
   some (!c)
  else
   some false:Option (Bool))).bind fun d =>
 some d

/-- lineal code.checked -/
def K89 (A:Ar) (a d:List D):Option (Int) :=
 (K15 A a).bind fun b =>
 bif b then
  (K42 A a d).bind fun c =>
  bif c then
   some 0
  else
   some 81
 else
  some 80

/-- lineal code.newRun -/
def K69 (A:Ar) (a b:List D):Option (List D×List D) :=
 some (a,b)

/--  *lineal code.run .has -/
def K70 (A:Ar) (a:Int) (u b:List D) (j B C E F G k i l m n o p q r s v w:Int) (y z:List D):Option (Bool) :=
 ((
  (K47 A 0 a (A.wrp .i64 (A.zsub (A.len b) 1))).bind fun e =>
  bif e then
   bif (A.zeq a 0) then
    (gt A (cL 1) b a).bind fun c =>
    some (A.zlt j (A.len c))
   else
    bif (A.zeq a 1) then
     (gt A (cL 1) b a).bind fun d =>
     some (A.zlt i (A.len d))
    else
     none
  else
   some false:Option (Bool))).bind fun g =>
 some g

/--  *lineal code.run .begun$1 -/
def K143 (A:Ar) (b e g i j c d:Int):Option (Bool) :=
 ((
  bif (A.zeq b d) then
   some (A.zeq c 0)
  else
   some false:Option (Bool))).bind fun a =>
 some a

def K166L0 (A:Ar) (l:Int) (b:List D):Int->Option ((Int)⊕((Unit)⊕(Int))):=fun a =>
 bif (A.zlt a (A.len b)) then
  (ck (A.zle 0 a)).bind fun _ =>
  (ck (A.zlt a (A.len b))).bind fun _ =>
  (gc A (cG (lc (cI .i64) (lc (cI .i64) (lc (cI .i64) (lc (cI .i64) (lc (cI .i64) (l1 (cI .i64)))))))) b (A.nat a)).bind fun (c,d,e,g,i,j) =>
  (K143 A c d e g i j l).bind fun k =>
  bif k then
   some (.inr (.inr a))
  else
   some (.inl (A.wrp .i64 (A.zadd a 1)))
 else
  some (.inr (.inl ()))

/-- slices.IndexFunc   lineal api.Call lineal api.Call  -/
def K166 (A:Ar) (b:Int) (p u:List D) (v w y z B C d e g i j k l m n o q r:Int) (c s:List D):Option (Int) :=
 (iter (K166L0 A b c) 0).bind (Sum.elim (fun _ =>
  some (-1)) (fun a =>
  some a))

/-- slices.ContainsFunc   lineal api.Call lineal api.Call  -/
def K142 (A:Ar) (b:Int) (o u:List D) (v w y z B C c d e g i j k l m n p q:Int) (r s:List D):Option (Bool) :=
 (K166 A b o u v w y z B C c d e g i j k l m n p q r s).bind fun a =>
 some (A.zle 0 a)

/--  *lineal code.run .begun -/
def K116 (A:Ar) (b:Int) (o u:List D) (v w y z B C c d e g i j k l m n p q:Int) (r s:List D):Option (Bool) :=
 (K142 A b o u v w y z B C c d e g i j k l m n p q r s).bind fun a =>
 some a

/-- lineal code.start -/
def K117 (A:Ar):Option (Unit) :=
 some ()

/--  *lineal code.run .swap -/
def K118 (A:Ar) (p a g i:Int) (F G:List D) (J K m j k l q r s u v w y z c d e B:Int) (C E:List D):Option (Int×Int×Int×Int) :=
 (ck (A.zle 0 a)).bind fun _ =>
 (ck (A.zlt a (Int.ofNat 3))).bind fun _ =>
 (gc A (cI .i64) [(.int .i64 c),(.int .i64 d),(.int .i64 e)] (A.nat a)).bind fun n =>
 (ck (A.zle 0 g)).bind fun _ =>
 (ck (A.zlt g (Int.ofNat 4))).bind fun _ =>
 (gc A (cI .i64) [(.int .i64 m),(.int .i64 j),(.int .i64 k),(.int .i64 l)] (A.nat g)).bind fun o =>
 bif (A.zeq n o) then
  (ck (A.zle 0 i)).bind fun _ =>
  (ck (A.zlt i (Int.ofNat 4))).bind fun _ =>
  (gc A (cI .i64) [(.int .i64 m),(.int .i64 j),(.int .i64 k),(.int .i64 l)] (A.nat i)).bind fun b =>
  (ck (A.zle 0 a)).bind fun _ =>
  (ck (A.zlt a (Int.ofNat 3))).bind fun _ =>
  some (1,(bif A.zeq a (Int.ofNat 0) then b else c),(bif A.zeq a (Int.ofNat 1) then b else d),(bif A.zeq a (Int.ofNat 2) then b else e))
 else
  some (0,c,d,e)

/--  *lineal code.run .swap -/
def K118a (A:Ar) (p a g i:Int) (E F:List D) (G J K q r s u v w j k l m y c d e z:Int) (B C:List D):Option (Int×Int×Int×Int) :=
 (ck (A.zle 0 a)).bind fun _ =>
 (ck (A.zlt a (Int.ofNat 3))).bind fun _ =>
 (gc A (cI .i64) [(.int .i64 c),(.int .i64 d),(.int .i64 e)] (A.nat a)).bind fun n =>
 (ck (A.zle 0 g)).bind fun _ =>
 (ck (A.zlt g (Int.ofNat 4))).bind fun _ =>
 (gc A (cI .i64) [(.int .i64 j),(.int .i64 k),(.int .i64 l),(.int .i64 m)] (A.nat g)).bind fun o =>
 bif (A.zeq n o) then
  (ck (A.zle 0 i)).bind fun _ =>
  (ck (A.zlt i (Int.ofNat 4))).bind fun _ =>
  (gc A (cI .i64) [(.int .i64 j),(.int .i64 k),(.int .i64 l),(.int .i64 m)] (A.nat i)).bind fun b =>
  (ck (A.zle 0 a)).bind fun _ =>
  (ck (A.zlt a (Int.ofNat 3))).bind fun _ =>
  some (1,(bif A.zeq a (Int.ofNat 0) then b else c),(bif A.zeq a (Int.ofNat 1) then b else d),(bif A.zeq a (Int.ofNat 2) then b else e))
 else
  some (0,c,d,e)

/--  *lineal code.run .step -/
def K71 (A:Ar) (G:Int) (x2 K L:List D) (k g V W X N O i e P Q R S U w y z j:Int) (J M:List D):Option (List D×List D×Int×Int×Int×Int×Int×Int×Int×Int×Int×Int×Int×Int×Int×Int×Int×Int×Int×Int×List D×List D) :=
 bif (A.zeq G 0) then
  (gt A (cL 1) L G).bind fun q1 =>
  (gt A (cI .i64) q1 k).bind fun o0 =>
  ((
   bif (A.zeq g 0) then
    (K116 A G K L k g V W X N O i e P Q R S U w y z j J M).bind fun r2 =>
    some (!r2)
   else
    some false:Option (Bool))).bind fun l5 =>
  ((
   bif l5 then
    (K117 A).bind fun () =>
    (ap A J [(.agg [(.int .i64 G),(.int .i64 0),(.int .i64 o0),(.int .i64 0),(.int .i64 (A.wrp .i64 (A.zadd (A.wrp .i64 (A.zmul 2 j)) 1))),(.int .i64 0)])]).bind fun e2 =>
    (ap A M [(.int .i64 0)]).bind fun g2 =>
    some (0,1,0,0,(A.len J),e2,g2)
   else
    some (V,W,X,N,O,J,M):Option (Int×Int×Int×Int×Int×List D×List D))).bind fun (r,s,u,C,m,v,k0) =>
  ((
   bif (A.zlt 0 (A.len x2)) then
    (gt A (cI .i64) x2 o0).bind fun a2 =>
    some (A.zeq a2 g)
   else
    some false:Option (Bool))).bind fun n7 =>
  ((
   bif n7 then
    (ck (A.zle 0 m)).bind fun _ =>
    (ck (A.zlt m (A.len k0))).bind fun _ =>
    (gc A (cI .i64) k0 (A.nat m)).bind fun u7 =>
    some (A.lset k0 (A.nat m) (.int .i64 (A.wrp .i64 (A.zadd j 1))))
   else
    some k0:Option (List D))).bind fun c1 =>
  (gt A (cL 4) K o0).bind fun b2 =>
  (gt A (cG (lc (cI .i64) (lc (cI .i64) (lc (cI .i64) (l1 (cI .i64)))))) b2 g).bind fun (F,b,d,g0) =>
  ((
   bif (A.zeq F 1) then
    (ck (A.zle 0 d)).bind fun _ =>
    (ck (A.zlt d (Int.ofNat 3))).bind fun _ =>
    (gc A (cI .i64) [(.int .i64 w),(.int .i64 y),(.int .i64 z)] (A.nat d)).bind fun i0 =>
    (ck (A.zle 0 b)).bind fun _ =>
    (ck (A.zlt b (Int.ofNat 4))).bind fun _ =>
    some (k,(A.wrp .i64 (A.zadd g 1)),(bif A.zeq b (Int.ofNat 0) then i0 else r),(bif A.zeq b (Int.ofNat 1) then i0 else s),(bif A.zeq b (Int.ofNat 2) then i0 else u),(bif A.zeq b (Int.ofNat 3) then i0 else C),w,y,z,v)
   else
    ((
     bif (A.zeq F 2) then
      (ck (A.zle 0 d)).bind fun _ =>
      (ck (A.zlt d (Int.ofNat 4))).bind fun _ =>
      (gc A (cI .i64) [(.int .i64 r),(.int .i64 s),(.int .i64 u),(.int .i64 C)] (A.nat d)).bind fun l0 =>
      (ck (A.zle 0 b)).bind fun _ =>
      (ck (A.zlt b (Int.ofNat 3))).bind fun _ =>
      some (k,(A.wrp .i64 (A.zadd g 1)),r,s,u,C,(bif A.zeq b (Int.ofNat 0) then l0 else w),(bif A.zeq b (Int.ofNat 1) then l0 else y),(bif A.zeq b (Int.ofNat 2) then l0 else z),v)
     else
      ((
       bif (A.zeq F 3) then
        (K118 A F b d g0 K L k (A.wrp .i64 (A.zadd g 1)) r s u C m i e P Q R S U w y z (A.wrp .i64 (A.zadd j 1)) v c1).bind fun (i2,j2,k2,l2) =>
        some (k,(A.wrp .i64 (A.zadd g 1)),r,s,u,i2,j2,k2,l2,v)
       else
        ((
         bif (A.zeq F 4) then
          (ck (A.zle 0 b)).bind fun _ =>
          (ck (A.zlt b (Int.ofNat 4))).bind fun _ =>
          some (k,(A.wrp .i64 (A.zadd g 1)),(bif A.zeq b (Int.ofNat 0) then d else r),(bif A.zeq b (Int.ofNat 1) then d else s),(bif A.zeq b (Int.ofNat 2) then d else u),(bif A.zeq b (Int.ofNat 3) then d else C),v)
         else
          ((
           bif (A.zeq F 5) then
            (ck (A.zle 0 d)).bind fun _ =>
            (ck (A.zlt d (Int.ofNat 4))).bind fun _ =>
            (gc A (cI .i64) [(.int .i64 r),(.int .i64 s),(.int .i64 u),(.int .i64 C)] (A.nat d)).bind fun Y =>
            (ck (A.zle 0 g0)).bind fun _ =>
            (ck (A.zlt g0 (Int.ofNat 4))).bind fun _ =>
            (gc A (cI .i64) [(.int .i64 r),(.int .i64 s),(.int .i64 u),(.int .i64 C)] (A.nat g0)).bind fun a0 =>
            (nk (A.zeq 10 0)).bind fun _ =>
            (ck (A.zle 0 b)).bind fun _ =>
            (ck (A.zlt b (Int.ofNat 4))).bind fun _ =>
            some (k,(A.wrp .i64 (A.zadd g 1)),(bif A.zeq b (Int.ofNat 0) then (A.rem (A.wrp .i64 (A.zadd Y a0)) 10) else r),(bif A.zeq b (Int.ofNat 1) then (A.rem (A.wrp .i64 (A.zadd Y a0)) 10) else s),(bif A.zeq b (Int.ofNat 2) then (A.rem (A.wrp .i64 (A.zadd Y a0)) 10) else u),(bif A.zeq b (Int.ofNat 3) then (A.rem (A.wrp .i64 (A.zadd Y a0)) 10) else C),v)
           else
            ((
             bif (A.zeq F 6) then
              (ck (A.zle 0 b)).bind fun _ =>
              (ck (A.zlt b (Int.ofNat 4))).bind fun _ =>
              (gc A (cI .i64) [(.int .i64 r),(.int .i64 s),(.int .i64 u),(.int .i64 C)] (A.nat b)).bind fun d1 =>
              ((
               bif (A.zeq d1 0) then
                some d
               else
                some (A.wrp .i64 (A.zadd g 1)):Option (Int))).bind fun s2 =>
              some (k,s2,v)
             else
              ((
               bif (A.zeq F 7) then
                (ck (A.zle 0 m)).bind fun _ =>
                (ck (A.zlt m (A.len v))).bind fun _ =>
                (ck (A.zle 0 b)).bind fun _ =>
                (ck (A.zlt b (Int.ofNat 4))).bind fun _ =>
                (gc A (cI .i64) [(.int .i64 r),(.int .i64 s),(.int .i64 u),(.int .i64 C)] (A.nat b)).bind fun e1 =>
                (gc A (cG (lc (cI .i64) (lc (cI .i64) (lc (cI .i64) (lc (cI .i64) (lc (cI .i64) (l1 (cI .i64)))))))) v (A.nat m)).bind fun (p0,q0,r0,s0,u0,o7) =>
                (gc A (cG (lc (cI .i64) (lc (cI .i64) (lc (cI .i64) (lc (cI .i64) (lc (cI .i64) (l1 (cI .i64)))))))) (A.lset v (A.nat m) (.agg [(.int .i64 p0),(.int .i64 q0),(.int .i64 r0),(.int .i64 s0),(.int .i64 u0),(.int .i64 (A.wrp .i64 (A.zmul 2 (A.wrp .i64 (A.zadd j 1)))))])) (A.nat m)).bind fun (g1,i1,j1,p7,k1,m1) =>
                some ((A.wrp .i64 (A.zadd k 1)),0,(A.lset (A.lset v (A.nat m) (.agg [(.int .i64 p0),(.int .i64 q0),(.int .i64 r0),(.int .i64 s0),(.int .i64 u0),(.int .i64 (A.wrp .i64 (A.zmul 2 (A.wrp .i64 (A.zadd j 1)))))])) (A.nat m) (.agg [(.int .i64 g1),(.int .i64 i1),(.int .i64 j1),(.int .i64 e1),(.int .i64 k1),(.int .i64 m1)])))
               else
                some (k,(A.wrp .i64 (A.zadd g 1)),v):Option (Int×Int×List D))).bind fun (u2,v2,w2) =>
              some (u2,v2,w2):Option (Int×Int×List D))).bind fun (y2,z2,a3) =>
            some (y2,z2,r,s,u,C,a3):Option (Int×Int×Int×Int×Int×Int×List D))).bind fun (b3,c3,d3,e3,g3,i3,j3) =>
          some (b3,c3,d3,e3,g3,i3,j3):Option (Int×Int×Int×Int×Int×Int×List D))).bind fun (k3,l3,m3,n3,o3,p3,q3) =>
        some (k3,l3,m3,n3,o3,p3,w,y,z,q3):Option (Int×Int×Int×Int×Int×Int×Int×Int×Int×List D))).bind fun (r3,s3,u3,v3,w3,y3,z3,a4,b4,c4) =>
      some (r3,s3,u3,v3,w3,y3,z3,a4,b4,c4):Option (Int×Int×Int×Int×Int×Int×Int×Int×Int×List D))).bind fun (d4,e4,g4,i4,j4,k4,l4,m4,n4,o4) =>
    some (d4,e4,g4,i4,j4,k4,l4,m4,n4,o4):Option (Int×Int×Int×Int×Int×Int×Int×Int×Int×List D))).bind fun (p4,q4,r4,s4,u4,v4,w4,y4,z4,a5) =>
  some (K,L,p4,q4,r4,s4,u4,v4,m,i,e,P,Q,R,S,U,w4,y4,z4,(A.wrp .i64 (A.zadd j 1)),a5,c1)
 else
  bif (A.zeq G 1) then
   (gt A (cL 1) L G).bind fun n1 =>
   (gt A (cI .i64) n1 i).bind fun m0 =>
   ((
    bif (A.zeq e 0) then
     (K116 A G K L k g V W X N O i e P Q R S U w y z j J M).bind fun m2 =>
     some (!m2)
    else
     some false:Option (Bool))).bind fun b5 =>
   ((
    bif b5 then
     (K117 A).bind fun () =>
     (ap A J [(.agg [(.int .i64 G),(.int .i64 0),(.int .i64 m0),(.int .i64 0),(.int .i64 (A.wrp .i64 (A.zadd (A.wrp .i64 (A.zmul 2 j)) 1))),(.int .i64 0)])]).bind fun c2 =>
     (ap A M [(.int .i64 0)]).bind fun d2 =>
     some (0,1,0,0,(A.len J),c2,d2)
    else
     some (P,Q,R,S,U,J,M):Option (Int×Int×Int×Int×Int×List D×List D))).bind fun (n,o,p,B,l,q,j0) =>
   ((
    bif (A.zlt 0 (A.len x2)) then
     (gt A (cI .i64) x2 m0).bind fun o1 =>
     some (A.zeq o1 e)
    else
     some false:Option (Bool))).bind fun c5 =>
   ((
    bif c5 then
     (ck (A.zle 0 l)).bind fun _ =>
     (ck (A.zlt l (A.len j0))).bind fun _ =>
     (gc A (cI .i64) j0 (A.nat l)).bind fun q7 =>
     some (A.lset j0 (A.nat l) (.int .i64 (A.wrp .i64 (A.zadd j 1))))
    else
     some j0:Option (List D))).bind fun b1 =>
   (gt A (cL 4) K m0).bind fun p1 =>
   (gt A (cG (lc (cI .i64) (lc (cI .i64) (lc (cI .i64) (l1 (cI .i64)))))) p1 e).bind fun (E,a,c,b0) =>
   ((
    bif (A.zeq E 1) then
     (ck (A.zle 0 c)).bind fun _ =>
     (ck (A.zlt c (Int.ofNat 3))).bind fun _ =>
     (gc A (cI .i64) [(.int .i64 w),(.int .i64 y),(.int .i64 z)] (A.nat c)).bind fun c0 =>
     (ck (A.zle 0 a)).bind fun _ =>
     (ck (A.zlt a (Int.ofNat 4))).bind fun _ =>
     some (i,(A.wrp .i64 (A.zadd e 1)),(bif A.zeq a (Int.ofNat 0) then c0 else n),(bif A.zeq a (Int.ofNat 1) then c0 else o),(bif A.zeq a (Int.ofNat 2) then c0 else p),(bif A.zeq a (Int.ofNat 3) then c0 else B),w,y,z,q)
    else
     ((
      bif (A.zeq E 2) then
       (ck (A.zle 0 c)).bind fun _ =>
       (ck (A.zlt c (Int.ofNat 4))).bind fun _ =>
       (gc A (cI .i64) [(.int .i64 n),(.int .i64 o),(.int .i64 p),(.int .i64 B)] (A.nat c)).bind fun n0 =>
       (ck (A.zle 0 a)).bind fun _ =>
       (ck (A.zlt a (Int.ofNat 3))).bind fun _ =>
       some (i,(A.wrp .i64 (A.zadd e 1)),n,o,p,B,(bif A.zeq a (Int.ofNat 0) then n0 else w),(bif A.zeq a (Int.ofNat 1) then n0 else y),(bif A.zeq a (Int.ofNat 2) then n0 else z),q)
      else
       ((
        bif (A.zeq E 3) then
         (K118a A E a c b0 K L k g V W X N O i (A.wrp .i64 (A.zadd e 1)) n o p B l w y z (A.wrp .i64 (A.zadd j 1)) q b1).bind fun (n2,o2,p2,q2) =>
         some (i,(A.wrp .i64 (A.zadd e 1)),n,o,p,n2,o2,p2,q2,q)
        else
         ((
          bif (A.zeq E 4) then
           (ck (A.zle 0 a)).bind fun _ =>
           (ck (A.zlt a (Int.ofNat 4))).bind fun _ =>
           some (i,(A.wrp .i64 (A.zadd e 1)),(bif A.zeq a (Int.ofNat 0) then c else n),(bif A.zeq a (Int.ofNat 1) then c else o),(bif A.zeq a (Int.ofNat 2) then c else p),(bif A.zeq a (Int.ofNat 3) then c else B),q)
          else
           ((
            bif (A.zeq E 5) then
             (ck (A.zle 0 c)).bind fun _ =>
             (ck (A.zlt c (Int.ofNat 4))).bind fun _ =>
             (gc A (cI .i64) [(.int .i64 n),(.int .i64 o),(.int .i64 p),(.int .i64 B)] (A.nat c)).bind fun d0 =>
             (ck (A.zle 0 b0)).bind fun _ =>
             (ck (A.zlt b0 (Int.ofNat 4))).bind fun _ =>
             (gc A (cI .i64) [(.int .i64 n),(.int .i64 o),(.int .i64 p),(.int .i64 B)] (A.nat b0)).bind fun e0 =>
             (nk (A.zeq 10 0)).bind fun _ =>
             (ck (A.zle 0 a)).bind fun _ =>
             (ck (A.zlt a (Int.ofNat 4))).bind fun _ =>
             some (i,(A.wrp .i64 (A.zadd e 1)),(bif A.zeq a (Int.ofNat 0) then (A.rem (A.wrp .i64 (A.zadd d0 e0)) 10) else n),(bif A.zeq a (Int.ofNat 1) then (A.rem (A.wrp .i64 (A.zadd d0 e0)) 10) else o),(bif A.zeq a (Int.ofNat 2) then (A.rem (A.wrp .i64 (A.zadd d0 e0)) 10) else p),(bif A.zeq a (Int.ofNat 3) then (A.rem (A.wrp .i64 (A.zadd d0 e0)) 10) else B),q)
            else
             ((
              bif (A.zeq E 6) then
               (ck (A.zle 0 a)).bind fun _ =>
               (ck (A.zlt a (Int.ofNat 4))).bind fun _ =>
               (gc A (cI .i64) [(.int .i64 n),(.int .i64 o),(.int .i64 p),(.int .i64 B)] (A.nat a)).bind fun r1 =>
               ((
                bif (A.zeq r1 0) then
                 some c
                else
                 some (A.wrp .i64 (A.zadd e 1)):Option (Int))).bind fun d5 =>
               some (i,d5,q)
              else
               ((
                bif (A.zeq E 7) then
                 (ck (A.zle 0 l)).bind fun _ =>
                 (ck (A.zlt l (A.len q))).bind fun _ =>
                 (ck (A.zle 0 a)).bind fun _ =>
                 (ck (A.zlt a (Int.ofNat 4))).bind fun _ =>
                 (gc A (cI .i64) [(.int .i64 n),(.int .i64 o),(.int .i64 p),(.int .i64 B)] (A.nat a)).bind fun s1 =>
                 (gc A (cG (lc (cI .i64) (lc (cI .i64) (lc (cI .i64) (lc (cI .i64) (lc (cI .i64) (l1 (cI .i64)))))))) q (A.nat l)).bind fun (v0,w0,y0,z0,a1,r7) =>
                 (gc A (cG (lc (cI .i64) (lc (cI .i64) (lc (cI .i64) (lc (cI .i64) (lc (cI .i64) (l1 (cI .i64)))))))) (A.lset q (A.nat l) (.agg [(.int .i64 v0),(.int .i64 w0),(.int .i64 y0),(.int .i64 z0),(.int .i64 a1),(.int .i64 (A.wrp .i64 (A.zmul 2 (A.wrp .i64 (A.zadd j 1)))))])) (A.nat l)).bind fun (u1,v1,w1,s7,y1,z1) =>
                 some ((A.wrp .i64 (A.zadd i 1)),0,(A.lset (A.lset q (A.nat l) (.agg [(.int .i64 v0),(.int .i64 w0),(.int .i64 y0),(.int .i64 z0),(.int .i64 a1),(.int .i64 (A.wrp .i64 (A.zmul 2 (A.wrp .i64 (A.zadd j 1)))))])) (A.nat l) (.agg [(.int .i64 u1),(.int .i64 v1),(.int .i64 w1),(.int .i64 s1),(.int .i64 y1),(.int .i64 z1)])))
                else
                 some (i,(A.wrp .i64 (A.zadd e 1)),q):Option (Int×Int×List D))).bind fun (e5,g5,i5) =>
               some (e5,g5,i5):Option (Int×Int×List D))).bind fun (j5,k5,m5) =>
             some (j5,k5,n,o,p,B,m5):Option (Int×Int×Int×Int×Int×Int×List D))).bind fun (n5,o5,p5,q5,r5,s5,u5) =>
           some (n5,o5,p5,q5,r5,s5,u5):Option (Int×Int×Int×Int×Int×Int×List D))).bind fun (v5,w5,y5,z5,a6,b6,c6) =>
         some (v5,w5,y5,z5,a6,b6,w,y,z,c6):Option (Int×Int×Int×Int×Int×Int×Int×Int×Int×List D))).bind fun (d6,e6,g6,i6,j6,k6,l6,m6,n6,o6) =>
       some (d6,e6,g6,i6,j6,k6,l6,m6,n6,o6):Option (Int×Int×Int×Int×Int×Int×Int×Int×Int×List D))).bind fun (p6,q6,r6,s6,u6,v6,w6,y6,z6,a7) =>
     some (p6,q6,r6,s6,u6,v6,w6,y6,z6,a7):Option (Int×Int×Int×Int×Int×Int×Int×Int×Int×List D))).bind fun (b7,c7,d7,e7,g7,i7,j7,k7,l7,m7) =>
   some (K,L,k,g,V,W,X,N,O,b7,c7,d7,e7,g7,i7,l,j7,k7,l7,(A.wrp .i64 (A.zadd j 1)),m7,b1)
  else
   none

def K104L0 (A:Ar) (E x4:List D):(Int×List D×List D×Int×Int×Int×Int×Int×Int×Int×Int×Int×Int×Int×Int×Int×Int×Int×Int×Int×Int×List D×List D)->Option ((Int×List D×List D×Int×Int×Int×Int×Int×Int×Int×Int×Int×Int×Int×Int×Int×Int×Int×Int×Int×Int×List D×List D)⊕((List D×List D×Int×Int×Int×Int×Int×Int×Int×Int×Int×Int×Int×Int×Int×Int×Int×Int×Int×Int×List D×List D)⊕(List D×List D×Int×Int×Int×Int×Int×Int×Int×Int×Int×Int×Int×Int×Int×Int×Int×Int×Int×Int×List D×List D×List D×List D×Int×Int×Int×Int×Int×Int×Int×Int×Int×Int×Int×Int×Int×Int×Int×Int×Int×Int×List D×List D))):=fun (B,a,b,c,d,e,g,i,j,k,l,m,n,o,p,q,r,s,u,v,w,y,z) =>
 bif (A.zlt B (A.len E)) then
  (gt A (cI .i64) E B).bind fun C =>
  (K70 A C a b c d e g i j k l m n o p q r s u v w y z).bind fun F =>
  bif F then
   (K71 A C x4 a b c d e g i j k l m n o p q r s u v w y z).bind fun (G,J,K,L,M,N,O,P,Q,R,S,U,V,W,X,Y,a0,b0,c0,d0,e0,g0) =>
   some (.inl ((A.wrp .i64 (A.zadd B 1)),G,J,K,L,M,N,O,P,Q,R,S,U,V,W,X,Y,a0,b0,c0,d0,e0,g0))
  else
   some (.inr (.inr (a,b,c,d,e,g,i,j,k,l,m,n,o,p,q,r,s,u,v,w,y,z,a,b,c,d,e,g,i,j,k,l,m,n,o,p,q,r,s,u,v,w,y,z)))
 else
  some (.inr (.inl (a,b,c,d,e,g,i,j,k,l,m,n,o,p,q,r,s,u,v,w,y,z)))

/-- lineal code.done -/
def K104 (A:Ar) (x1 x2 c x4:List D):Option (List D×List D×Int×Int×Int×Int×Int×Int×Int×Int×Int×Int×Int×Int×Int×Int×Int×Int×Int×Int×List D×List D×Bool) :=
 (K69 A x1 x2).bind fun (a,b) =>
 bif (A.zlt 12 (A.len c)) then
  some (a,b,0,0,0,0,0,0,0,0,0,0,0,0,0,0,0,0,0,0,[],[],false)
 else
  (iter (K104L0 A c x4) (0,a,b,0,0,0,0,0,0,0,0,0,0,0,0,0,0,0,0,0,0,[],[])).bind (Sum.elim (fun (Y,a0,b0,c0,d0,e0,d,e,g,i,j,k,l,m,n,o,p,q,r,s,u,v) =>
   some (Y,a0,b0,c0,d0,e0,d,e,g,i,j,k,l,m,n,o,p,q,r,s,u,v,true)) (fun (w,y,z,B,C,E,F,G,J,K,L,M,N,O,P,Q,R,S,U,V,W,X,g0,i0,j0,k0,l0,m0,n0,o0,p0,q0,r0,s0,u0,v0,w0,y0,z0,a1,b1,c1,d1,e1) =>
   some (w,y,z,B,C,E,F,G,J,K,L,M,N,O,P,Q,R,S,U,V,W,X,false)))

/-- lineal code.Run$1 -/
def K45 (A:Ar) (b o:List D) (s u v w y z B c d e g i j k l m n p:Int) (a q r:List D):Option (List D) :=
 some a

/-- lineal code.behind -/
def K44 (A:Ar) (b c J K:List D):Option ((List D)⊕(Int)) :=
 (K89 A b c).bind fun a =>
 bif (A.zeq a 0) then
  (K104 A b c J []).bind fun (G,d,e,g,i,j,k,l,m,n,o,p,q,r,s,u,v,w,y,z,B,C,E) =>
  bif E then
   (K45 A G d e g i j k l m n o p q r s u v w y z B C K).bind fun F =>
   some (.inl F)
  else
   some (.inr 2)
 else
  some (.inr a)

/-- lineal code.Run -/
def K13 (A:Ar) (e g i:List D):Option (List D×Int) :=
 ((
  (K44 A e g i []).bind (Sum.elim (fun a =>
   some (0,a)) (fun b =>
   some (b,[]))):Option (Int×List D))).bind fun (c,d) =>
 some (d,c)

/-- lineal lineallaw08.Sane -/
def K10 (A:Ar):Option (Bool) :=
 (K13 A [(.list 4 [(.agg [(.int .i64 1),(.int .i64 0),(.int .i64 0),(.int .i64 0)]),(.agg [(.int .i64 5),(.int .i64 2),(.int .i64 0),(.int .i64 1)]),(.agg [(.int .i64 2),(.int .i64 0),(.int .i64 2),(.int .i64 0)]),(.agg [(.int .i64 7),(.int .i64 0),(.int .i64 0),(.int .i64 0)])])] [(.list 1 [(.int .i64 0)]),(.list 1 [(.int .i64 0)])] [(.int .i64 0),(.int .i64 0),(.int .i64 1),(.int .i64 1),(.int .i64 0),(.int .i64 0),(.int .i64 1),(.int .i64 1)]).bind fun (a,p) =>
 ((
  bif (A.zeq p 0) then
   bif (A.zeq (A.len a) 2) then
    (gc A (cG (lc (cI .i64) (lc (cI .i64) (lc (cI .i64) (lc (cI .i64) (lc (cI .i64) (l1 (cI .i64)))))))) a 0).bind fun (l,m,n,o,b,c) =>
    bif (A.deq [(.int .i64 l),(.int .i64 m),(.int .i64 n),(.int .i64 o),(.int .i64 b),(.int .i64 c)] [(.int .i64 0),(.int .i64 0),(.int .i64 0),(.int .i64 0),(.int .i64 1),(.int .i64 12)]) then
     (gc A (cG (lc (cI .i64) (lc (cI .i64) (lc (cI .i64) (lc (cI .i64) (lc (cI .i64) (l1 (cI .i64)))))))) a 1).bind fun (d,e,g,i,j,k) =>
     some (A.deq [(.int .i64 d),(.int .i64 e),(.int .i64 g),(.int .i64 i),(.int .i64 j),(.int .i64 k)] [(.int .i64 1),(.int .i64 0),(.int .i64 0),(.int .i64 0),(.int .i64 5),(.int .i64 16)])
    else
     some false
   else
    some false
  else
   some false:Option (Bool))).bind fun q =>
 some q

/-- lineal code.isSteps -/
def K84 (A:Ar) (b:Int):Option (Bool) :=
 (K47 A 0 b 12).bind fun a =>
 some a

/--  *lineal code.run .has -/
def K70a (A:Ar) (a:Int) (u b:List D) (j B C E F G k i l m n o p q r s v w:Int) (y z:List D):Option (Bool) :=
 ((
  (K47 A 0 a (A.wrp .i64 (A.zsub (A.len b) 1))).bind fun e =>
  bif e then
   bif (A.zeq a 0) then
    (gt A (cL 1) b a).bind fun c =>
    some (A.zlt j (A.len c))
   else
    bif (A.zeq a 1) then
     (gt A (cL 1) b a).bind fun d =>
     some (A.zlt i (A.len d))
    else
     none
  else
   some false:Option (Bool))).bind fun g =>
 some g

def K56L0 (A:Ar) (i c:List D) (y z B C E F G j k l m n o p q r s u:Int) (v w:List D):(List D×Int)->Option ((List D×Int)⊕(List D)):=fun (b,a) =>
 bif (A.zlt a (A.len c)) then
  (K70a A a i c y z B C E F G j k l m n o p q r s u v w).bind fun e =>
  ((
   bif e then
    (ap A b [(.int .i64 a)]).bind fun d =>
    some d
   else
    some b:Option (List D))).bind fun g =>
  some (.inl (g,(A.wrp .i64 (A.zadd a 1))))
 else
  some (.inr b)

/--  *lineal code.run .left -/
def K56 (A:Ar) (b o:List D) (s u v w y z B c d e g i j k l m n p:Int) (q r:List D):Option (List D) :=
 (iter (K56L0 A b o s u v w y z B c d e g i j k l m n p q r) ([],0)).bind (fun a =>
 some a)

/-- slices.Clone   lineal api.Call lineal api.Call  -/
def K146 (A:Ar) (a:List D):Option (List D) :=
 bif (A.zlt 0 (A.len a)) then
  (ap A [] a).bind fun b =>
  some b
 else
  both (
   some []) (
   (ap A [] a).bind fun c =>
   some c)

/-- slices.Clone   int int  -/
def K54 (A:Ar) (a:List D):Option (List D) :=
 bif (A.zlt 0 (A.len a)) then
  (ap A [] a).bind fun b =>
  some b
 else
  both (
   some []) (
   (ap A [] a).bind fun c =>
   some c)

/--  lineal code.run .clone -/
def K124 (A:Ar) (c p:List D) (u v w y z B C d e g i j k l m n o q:Int) (r s:List D):Option (List D×List D×Int×Int×Int×Int×Int×Int×Int×Int×Int×Int×Int×Int×Int×Int×Int×Int×Int×Int×List D×List D) :=
 (K146 A r).bind fun a =>
 (ck (scalars a)).bind fun _ =>
 (K54 A s).bind fun b =>
 (ck (scalars b)).bind fun _ =>
 some (c,p,u,v,w,y,z,B,C,d,e,g,i,j,k,l,m,n,o,q,a,b)

/-- lineal linealref08.within -/
def K51 (A:Ar) (c a d:Int):Option (Bool) :=
 ((
  bif (A.zle c a) then
   some (A.zle a d)
  else
   some false:Option (Bool))).bind fun b =>
 some b

/-- lineal linealref08.isRegister -/
def K111 (A:Ar) (b:Int):Option (Bool) :=
 (K51 A 0 b 3).bind fun a =>
 some a

/-- lineal linealref08.isCell -/
def K82 (A:Ar) (b:Int):Option (Bool) :=
 (K51 A 0 b 2).bind fun a =>
 some a

/-- lineal linealref08.isNumber -/
def K112 (A:Ar) (b:Int):Option (Bool) :=
 (K51 A 0 b 9).bind fun a =>
 some a

/-- lineal linealref08.isLine -/
def K52 (A:Ar) (a b c d G:Int):Option (Bool) :=
 bif (A.zeq a 1) then
  ((
   (K111 A b).bind fun v =>
   bif v then
    (K82 A c).bind fun e =>
    bif e then
     some (A.zeq d 0)
    else
     some false
   else
    some false:Option (Bool))).bind fun w =>
  some w
 else
  bif (A.zeq a 2) then
   ((
    (K82 A b).bind fun g =>
    bif g then
     (K111 A c).bind fun i =>
     bif i then
      some (A.zeq d 0)
     else
      some false
    else
     some false:Option (Bool))).bind fun y =>
   some y
  else
   bif (A.zeq a 3) then
    ((
     (K82 A b).bind fun j =>
     bif j then
      (K111 A c).bind fun k =>
      bif k then
       (K111 A d).bind fun l =>
       some l
      else
       some false
     else
      some false:Option (Bool))).bind fun z =>
    some z
   else
    bif (A.zeq a 4) then
     ((
      (K111 A b).bind fun m =>
      bif m then
       (K112 A c).bind fun n =>
       bif n then
        some (A.zeq d 0)
       else
        some false
      else
       some false:Option (Bool))).bind fun B =>
     some B
    else
     bif (A.zeq a 5) then
      ((
       (K111 A b).bind fun o =>
       bif o then
        (K111 A c).bind fun p =>
        bif p then
         (K111 A d).bind fun q =>
         some q
        else
         some false
       else
        some false:Option (Bool))).bind fun C =>
      some C
     else
      bif (A.zeq a 6) then
       ((
        (K111 A b).bind fun r =>
        bif r then
         (K51 A 0 c (A.wrp .i64 (A.zsub G 1))).bind fun s =>
         bif s then
          some (A.zeq d 0)
         else
          some false
        else
         some false:Option (Bool))).bind fun E =>
       some E
      else
       bif (A.zeq a 7) then
        ((
         (K111 A b).bind fun u =>
         bif u then
          bif (A.zeq c 0) then
           some (A.zeq d 0)
          else
           some false
         else
          some false:Option (Bool))).bind fun F =>
        some F
       else
        some false

def K16L0 (A:Ar) (a:List D):Int->Option ((Int)⊕((Unit)⊕(Unit))):=fun b =>
 bif (A.zlt b (A.len a)) then
  (gt A (cG (lc (cI .i64) (lc (cI .i64) (lc (cI .i64) (l1 (cI .i64)))))) a b).bind fun (c,d,e,g) =>
  (K52 A c d e g (A.len a)).bind fun i =>
  bif i then
   some (.inl (A.wrp .i64 (A.zadd b 1)))
  else
   some (.inr (.inr ()))
 else
  some (.inr (.inl ()))

def K16L1 (A:Ar) (c:List D):Int->Option ((Int)⊕((Unit)⊕(Unit))):=fun b =>
 bif (A.zlt b (A.len c)) then
  (gt A (cL 4) c b).bind fun a =>
  (K51 A 1 (A.len a) 8).bind fun e =>
  bif e then
   (iter (K16L0 A a) 0).bind (Sum.elim (fun _ =>
    (gt A (cG (lc (cI .i64) (lc (cI .i64) (lc (cI .i64) (l1 (cI .i64)))))) a (A.wrp .i64 (A.zsub (A.len a) 1))).bind fun (d,g,i,j) =>
    bif (A.zeq d 7) then
     some (.inl (A.wrp .i64 (A.zadd b 1)))
    else
     some (.inr (.inr ()))) (fun _ =>
    some (.inr (.inr ()))))
  else
   some (.inr (.inr ()))
 else
  some (.inr (.inl ()))

/-- lineal linealref08.Valid -/
def K16 (A:Ar) (a:List D):Option (Bool) :=
 (K51 A 1 (A.len a) 4).bind fun b =>
 bif b then
  (iter (K16L1 A a) 0).bind (Sum.elim (fun _ =>
   some true) (fun _ =>
   some false))
 else
  some false

def K43L0 (A:Ar) (e b:List D):Int->Option ((Int)⊕((Unit)⊕(Unit))):=fun a =>
 bif (A.zlt a (A.len b)) then
  (gt A (cI .i64) b a).bind fun c =>
  (K51 A 0 c (A.wrp .i64 (A.zsub (A.len e) 1))).bind fun d =>
  bif d then
   some (.inl (A.wrp .i64 (A.zadd a 1)))
  else
   some (.inr (.inr ()))
 else
  some (.inr (.inl ()))

def K43L1 (A:Ar) (d c:List D):Int->Option ((Int)⊕((Unit)⊕(Unit))):=fun a =>
 bif (A.zlt a (A.len c)) then
  (gt A (cL 1) c a).bind fun b =>
  bif (A.zlt 3 (A.len b)) then
   some (.inr (.inr ()))
  else
   (iter (K43L0 A d b) 0).bind (Sum.elim (fun _ =>
    some (.inl (A.wrp .i64 (A.zadd a 1)))) (fun _ =>
    some (.inr (.inr ()))))
 else
  some (.inr (.inl ()))

/-- lineal linealref08.IsUse -/
def K43 (A:Ar) (c a:List D):Option (Bool) :=
 (K51 A 1 (A.len a) 2).bind fun b =>
 bif b then
  (iter (K43L1 A c a) 0).bind (Sum.elim (fun _ =>
   some true) (fun _ =>
   some false))
 else
  some false

/--  *lineal linealref08.Play .HasLine -/
def K57 (A:Ar) (p g r i:List D) (s u v w:Int) (y q:List D) (a:Int):Option (Bool) :=
 ((
  (gt A (cG (lc (cI .i64) (lc (cI .i64) (lc cB (lc (cI .i64) (lc (cI .i64) (lc (cI .i64) (lc (cI .i64) (l1 (cI .i64)))))))))) i a).bind fun (b,j,c,k,l,m,n,o) =>
  bif c then
   some true
  else
   (gt A (cL 1) g a).bind fun d =>
   some (A.zlt b (A.len d)):Option (Bool))).bind fun e =>
 some e

def K77L0 (A:Ar) (d b g i:List D) (j k l m:Int) (n e:List D):Int->Option ((Int)⊕((Unit)⊕(Unit))):=fun a =>
 bif (A.zlt a (A.len b)) then
  (K57 A d b g i j k l m n e a).bind fun c =>
  bif c then
   some (.inr (.inr ()))
  else
   some (.inl (A.wrp .i64 (A.zadd a 1)))
 else
  some (.inr (.inl ()))

/--  *lineal linealref08.Play .Over -/
def K77 (A:Ar) (a c d e:List D) (g i j k:Int) (l b:List D):Option (Bool) :=
 (iter (K77L0 A a c d e g i j k l b) 0).bind (Sum.elim (fun _ =>
  some true) (fun _ =>
  some false))

def K17L0 (A:Ar) (b q:List D):Int->Option ((Int)⊕((Unit)⊕(Unit))):=fun a =>
 bif (A.zlt a (A.len b)) then
  (gt A (cG (lc (cI .i64) (lc (cI .i64) (lc (cI .i64) (lc (cI .i64) (lc (cI .i64) (l1 (cI .i64)))))))) b a).bind fun (c,d,e,g,i,j) =>
  (gt A (cG (lc (cI .i64) (lc (cI .i64) (lc (cI .i64) (lc (cI .i64) (lc (cI .i64) (l1 (cI .i64)))))))) q a).bind fun (k,l,m,n,o,p) =>
  bif (A.deq [(.int .i64 c),(.int .i64 d),(.int .i64 e),(.int .i64 g),(.int .i64 i),(.int .i64 j)] [(.int .i64 k),(.int .i64 l),(.int .i64 m),(.int .i64 n),(.int .i64 o),(.int .i64 p)]) then
   some (.inl (A.wrp .i64 (A.zadd a 1)))
  else
   some (.inr (.inr ()))
 else
  some (.inr (.inl ()))

/-- lineal linealref02.Same -/
def K17 (A:Ar) (a b:List D):Option (Bool) :=
 bif (A.zeq (A.len a) (A.len b)) then
  (iter (K17L0 A a b) 0).bind (Sum.elim (fun _ =>
   some true) (fun _ =>
   some false))
 else
  some false

def K40L0 (A:Ar) (b g:List D):Int->Option ((Int)⊕((Unit)⊕(Unit))):=fun a =>
 bif (A.zlt a (A.len b)) then
  (gt A (cL 6) b a).bind fun c =>
  (gt A (cL 6) g a).bind fun d =>
  (K17 A c d).bind fun e =>
  bif e then
   some (.inl (A.wrp .i64 (A.zadd a 1)))
  else
   some (.inr (.inr ()))
 else
  some (.inr (.inl ()))

/-- lineal linealref08.SameHistories -/
def K40 (A:Ar) (a b:List D):Option (Bool) :=
 bif (A.zeq (A.len a) (A.len b)) then
  (iter (K40L0 A a b) 0).bind (Sum.elim (fun _ =>
   some true) (fun _ =>
   some false))
 else
  some false

def K113L0 (A:Ar) (e:Int) (b:List D):Int->Option ((Int)⊕((Unit)⊕(Unit))):=fun a =>
 bif (A.zlt a (A.len b)) then
  (gt A (cI .i64) b a).bind fun c =>
  ((
   bif (A.zlt c 0) then
    some true
   else
    some (A.zle e c):Option (Bool))).bind fun d =>
  bif d then
   some (.inr (.inr ()))
  else
   some (.inl (A.wrp .i64 (A.zadd a 1)))
 else
  some (.inr (.inl ()))

def K113L1 (A:Ar) (d:Int) (c:List D) (e:Int):Int->Option ((Int)⊕((Unit)⊕(Unit))):=fun a =>
 bif (A.zlt a (A.len c)) then
  (gt A (cL 1) c a).bind fun b =>
  bif (A.zeq (A.len b) d) then
   (iter (K113L0 A e b) 0).bind (Sum.elim (fun _ =>
    some (.inl (A.wrp .i64 (A.zadd a 1)))) (fun _ =>
    some (.inr (.inr ()))))
  else
   some (.inr (.inr ()))
 else
  some (.inr (.inl ()))

/-- lineal linealref01.isTable -/
def K113 (A:Ar) (b c:Int) (e g a:List D) (d:Int):Option (Bool) :=
 bif (A.zeq (A.len a) b) then
  (iter (K113L1 A c a d) 0).bind (Sum.elim (fun _ =>
   some true) (fun _ =>
   some false))
 else
  some false

/-- lineal linealref01.Valid -/
def K58 (A:Ar) (a b:Int) (c d:List D):Option (Bool) :=
 ((
  bif (A.zle 1 a) then
   bif (A.zle a 8) then
    bif (A.zle 1 b) then
     bif (A.zle b 4) then
      (K113 A a b c d c a).bind fun e =>
      bif e then
       (K113 A a b c d d 6).bind fun g =>
       some g
      else
       some false
     else
      some false
    else
     some false
   else
    some false
  else
   some false:Option (Bool))).bind fun i =>
 some i

/-- lineal lineallaw08.IsCase -/
def K23 (A:Ar) (c b:Int) (d e a g:List D):Option (Bool) :=
 ((
  (K9 A c b d e a g).bind fun l =>
  bif l then
   some false
  else
   (K16 A a).bind fun i =>
   bif i then
    (K58 A c b d e).bind fun j =>
    bif j then
     bif (A.zeq b (A.len a)) then
      (K43 A a g).bind fun k =>
      some k
     else
      some false
    else
     some false
   else
    some false:Option (Bool))).bind fun m =>
 some m

/-- lineal spec.between -/
def K140 (A:Ar) (c a d:Int):Option (Bool) :=
 ((
  bif (A.zle c a) then
   some (A.zle a d)
  else
   some false:Option (Bool))).bind fun b =>
 some b

/-- lineal spec.table$1$1 -/
def K165 (A:Ar) (b c:Int):Option (Bool) :=
 (K140 A 0 b c).bind fun a =>
 some (!a)

def K162bL0 (A:Ar) (b:List D) (e:Int):Int->Option ((Int)⊕((Unit)⊕(Int))):=fun a =>
 bif (A.zlt a (A.len b)) then
  (gt A (cI .i64) b a).bind fun c =>
  (K165 A c e).bind fun d =>
  bif d then
   some (.inr (.inr a))
  else
   some (.inl (A.wrp .i64 (A.zadd a 1)))
 else
  some (.inr (.inl ()))

/-- slices.IndexFunc   int int  -/
def K162b (A:Ar) (b:List D) (c:Int):Option (Int) :=
 (iter (K162bL0 A b c) 0).bind (Sum.elim (fun _ =>
  some (-1)) (fun a =>
  some a))

/-- slices.ContainsFunc   int int  -/
def K135b (A:Ar) (b:List D) (c:Int):Option (Bool) :=
 (K162b A b c).bind fun a =>
 some (A.zle 0 a)

/-- lineal spec.table$1 -/
def K164 (A:Ar) (a:List D) (g d:Int) (i j:List D) (e:Int):Option (Bool) :=
 ((
  bif (A.zeq (A.len a) d) then
   (K135b A a e).bind fun b =>
   some b
  else
   some true:Option (Bool))).bind fun c =>
 some c

def K134aL0 (A:Ar) (b:List D) (e g:Int) (i j:List D) (k:Int):Int->Option ((Int)⊕((Unit)⊕(Int))):=fun a =>
 bif (A.zlt a (A.len b)) then
  (gt A (cL 1) b a).bind fun c =>
  (K164 A c e g i j k).bind fun d =>
  bif d then
   some (.inr (.inr a))
  else
   some (.inl (A.wrp .i64 (A.zadd a 1)))
 else
  some (.inr (.inl ()))

/-- slices.IndexFunc     int   int  -/
def K134a (A:Ar) (b:List D) (c d:Int) (e g:List D) (i:Int):Option (Int) :=
 (iter (K134aL0 A b c d e g i) 0).bind (Sum.elim (fun _ =>
  some (-1)) (fun a =>
  some a))

/-- slices.ContainsFunc     int   int  -/
def K101a (A:Ar) (b:List D) (c d:Int) (e g:List D) (i:Int):Option (Bool) :=
 (K134a A b c d e g i).bind fun a =>
 some (A.zle 0 a)

/-- lineal spec.table -/
def K141 (A:Ar) (a e:Int) (g i b:List D) (j:Int):Option (Bool) :=
 ((
  bif (A.zeq (A.len b) a) then
   (K101a A b a e g i j).bind fun c =>
   some (!c)
  else
   some false:Option (Bool))).bind fun d =>
 some d

/-- lineal spec.Valid -/
def K115 (A:Ar) (a b:Int) (c d:List D):Option (Bool) :=
 ((
  (K140 A 1 a 8).bind fun i =>
  bif i then
   (K140 A 1 b 4).bind fun j =>
   bif j then
    (K141 A a b c d c (A.wrp .i64 (A.zsub a 1))).bind fun e =>
    bif e then
     (K141 A a b c d d 5).bind fun g =>
     some g
    else
     some false
   else
    some false
  else
   some false:Option (Bool))).bind fun k =>
 some k

/-- lineal code.specified -/
def K68 (A:Ar) (i b:Int) (j k a l:List D):Option (Int) :=
 (K15 A a).bind fun e =>
 bif e then
  ((
   (K115 A i b j k).bind fun c =>
   bif c then
    some (!(A.zeq b (A.len a)))
   else
    some true:Option (Bool))).bind fun g =>
  bif g then
   some 10
  else
   (K89 A a l).bind fun d =>
   some d
 else
  some 80

/-- lineal history.between -/
def K61 (A:Ar) (c a d:Int):Option (Bool) :=
 ((
  bif (A.zle c a) then
   some (A.zle a d)
  else
   some false:Option (Bool))).bind fun b =>
 some b

/-- lineal history.areSpecs$1 -/
def K179 (A:Ar) (b c:Int) (d e:List D):Option (Bool) :=
 (K115 A b c d e).bind fun a =>
 some (!a)

def K182L0 (A:Ar) (b:List D):Int->Option ((Int)⊕((Unit)⊕(Int))):=fun a =>
 bif (A.zlt a (A.len b)) then
  (gt A (cG (lc (cI .i64) (lc (cI .i64) (lc (cL 1) (l1 (cL 1)))))) b a).bind fun (c,d,e,g) =>
  (K179 A c d e g).bind fun i =>
  bif i then
   some (.inr (.inr a))
  else
   some (.inl (A.wrp .i64 (A.zadd a 1)))
 else
  some (.inr (.inl ()))

/-- slices.IndexFunc   lineal api.Spec lineal api.Spec  -/
def K182 (A:Ar) (b:List D):Option (Int) :=
 (iter (K182L0 A b) 0).bind (Sum.elim (fun _ =>
  some (-1)) (fun a =>
  some a))

/-- slices.ContainsFunc   lineal api.Spec lineal api.Spec  -/
def K178 (A:Ar) (b:List D):Option (Bool) :=
 (K182 A b).bind fun a =>
 some (A.zle 0 a)

/-- lineal history.areSpecs -/
def K168 (A:Ar) (a:List D):Option (Bool) :=
 ((
  (K61 A 1 (A.len a) 2).bind fun b =>
  bif b then
   (K178 A a).bind fun c =>
   some (!c)
  else
   some false:Option (Bool))).bind fun d =>
 some d

/-- lineal history.isCall -/
def K139 (A:Ar) (o p q c d a:Int):Option (Bool) :=
 ((
  (K61 A 0 o 3).bind fun l =>
  bif l then
   (K61 A 0 p 1).bind fun e =>
   bif e then
    (K61 A 0 q 3).bind fun g =>
    bif g then
     (K61 A 0 c 9).bind fun i =>
     bif i then
      (K61 A 1 d 100).bind fun j =>
      some j
     else
      some false
    else
     some false
   else
    some false
  else
   some false:Option (Bool))).bind fun b =>
 bif (A.zeq a 0) then
  ((
   bif b then
    some (A.zeq c 0)
   else
    some false:Option (Bool))).bind fun m =>
  some m
 else
  ((
   bif b then
    (K61 A 2 a 100).bind fun k =>
    bif k then
     some (A.zlt d a)
    else
     some false
   else
    some false:Option (Bool))).bind fun n =>
  some n

/-- lineal history.before -/
def K127 (A:Ar) (d i j k l a m n o e c g:Int):Option (Bool) :=
 ((
  bif (A.zlt 0 a) then
   some (A.zlt a c)
  else
   some false:Option (Bool))).bind fun b =>
 some b

def K114L0 (A:Ar) (b o d e g i:Int) (p:List D):Int->Option ((Int)⊕((Unit)⊕(Unit))):=fun c =>
 bif (A.zlt c (A.len p)) then
  (gt A (cG (lc (cI .i64) (lc (cI .i64) (lc (cI .i64) (lc (cI .i64) (lc (cI .i64) (l1 (cI .i64)))))))) p c).bind fun (a,j,k,l,m,n) =>
  ((
   bif (A.zeq b a) then
    (K127 A b o d e g i a j k l m n).bind fun q =>
    bif q then
     some false
    else
     (K127 A a j k l m n b o d e g i).bind fun r =>
     some (!r)
   else
    some false:Option (Bool))).bind fun s =>
  bif s then
   some (.inr (.inr ()))
  else
   some (.inl (A.wrp .i64 (A.zadd c 1)))
 else
  some (.inr (.inl ()))

def K114L1 (A:Ar) (e:List D):(Int×List D)->Option ((Int×List D)⊕((List D)⊕(List D))):=fun (d,c) =>
 bif (A.zlt d (A.len e)) then
  (gt A (cG (lc (cI .i64) (lc (cI .i64) (lc (cI .i64) (lc (cI .i64) (lc (cI .i64) (l1 (cI .i64)))))))) e d).bind fun (j,k,g,i,a,b) =>
  ((
   (K139 A j k g i a b).bind fun p =>
   bif p then
    (ck (A.zle 0 a)).bind fun _ =>
    (ck (A.zlt a (Int.ofNat 101))).bind fun _ =>
    (gc A cB c (A.nat (A.zadd 0 (A.zmul a (Int.ofNat 1))))).bind fun m =>
    some m
   else
    some true:Option (Bool))).bind fun q =>
  bif q then
   some (.inr (.inr c))
  else
   (ck (A.zle 0 a)).bind fun _ =>
   (ck (A.zlt a (Int.ofNat 101))).bind fun _ =>
   (A.lget c (A.nat (A.zadd 0 (A.zmul a (Int.ofNat 1))))).bind fun r =>
   jn (fun (l:List D) =>
    (sl A e 0 d).bind fun o =>
    (iter (K114L0 A j k g i a b o) 0).bind (Sum.elim (fun _ =>
     some (.inl ((A.wrp .i64 (A.zadd d 1)),l))) (fun _ =>
     some (.inr (.inr l))))) fun K142 =>
    bif (A.zlt 0 b) then
     (ck (A.zle 0 b)).bind fun _ =>
     (ck (A.zlt b (Int.ofNat 101))).bind fun _ =>
     (gc A cB (A.lset c (A.nat (A.zadd 0 (A.zmul a (Int.ofNat 1)))) (.bool true)) (A.nat (A.zadd 0 (A.zmul b (Int.ofNat 1))))).bind fun n =>
     bif n then
      some (.inr (.inr (A.lset c (A.nat (A.zadd 0 (A.zmul a (Int.ofNat 1)))) (.bool true))))
     else
      (ck (A.zle 0 b)).bind fun _ =>
      (ck (A.zlt b (Int.ofNat 101))).bind fun _ =>
      (A.lget (A.lset c (A.nat (A.zadd 0 (A.zmul a (Int.ofNat 1)))) (.bool true)) (A.nat (A.zadd 0 (A.zmul b (Int.ofNat 1))))).bind fun s =>
      K142 (A.lset (A.lset c (A.nat (A.zadd 0 (A.zmul a (Int.ofNat 1)))) (.bool true)) (A.nat (A.zadd 0 (A.zmul b (Int.ofNat 1)))) (.bool true))
    else
     K142 (A.lset c (A.nat (A.zadd 0 (A.zmul a (Int.ofNat 1)))) (.bool true))
 else
  some (.inr (.inl c))

/-- lineal history.Valid -/
def K114 (A:Ar) (a:List D):Option (Bool) :=
 bif (A.zlt 8 (A.len a)) then
  some false
 else
  (iter (K114L1 A a) (0,(A.rep (Int.ofNat 101) (.bool false)))).bind (Sum.elim (fun b =>
   some true) (fun c =>
   some false))

/-- lineal history.fits$1 -/
def K180 (A:Ar) (k a e l m n:Int) (b:List D):Option (Bool) :=
 ((
  bif (A.zle (A.len b) a) then
   some true
  else
   (gt A (cG (lc (cI .i64) (lc (cI .i64) (lc (cL 1) (l1 (cL 1)))))) b a).bind fun (j,c,g,i) =>
   some (A.zle c e):Option (Bool))).bind fun d =>
 some d

def K166aL0 (A:Ar) (b l:List D):Int->Option ((Int)⊕((Unit)⊕(Int))):=fun a =>
 bif (A.zlt a (A.len b)) then
  (gt A (cG (lc (cI .i64) (lc (cI .i64) (lc (cI .i64) (lc (cI .i64) (lc (cI .i64) (l1 (cI .i64)))))))) b a).bind fun (c,d,e,g,i,j) =>
  (K180 A c d e g i j l).bind fun k =>
  bif k then
   some (.inr (.inr a))
  else
   some (.inl (A.wrp .i64 (A.zadd a 1)))
 else
  some (.inr (.inl ()))

/-- slices.IndexFunc   lineal api.Call lineal api.Call  -/
def K166a (A:Ar) (b c:List D):Option (Int) :=
 (iter (K166aL0 A b c) 0).bind (Sum.elim (fun _ =>
  some (-1)) (fun a =>
  some a))

/-- slices.ContainsFunc   lineal api.Call lineal api.Call  -/
def K142a (A:Ar) (b c:List D):Option (Bool) :=
 (K166a A b c).bind fun a =>
 some (A.zle 0 a)

/-- lineal history.fits -/
def K169 (A:Ar) (b c:List D):Option (Bool) :=
 (K142a A c b).bind fun a =>
 some (!a)

/-- lineal history.For -/
def K147 (A:Ar) (a b:List D):Option (Bool×Int) :=
 (K168 A a).bind fun d =>
 bif d then
  ((
   (K114 A b).bind fun e =>
   bif e then
    (K169 A a b).bind fun c =>
    some c
   else
    some false:Option (Bool))).bind fun g =>
  some (g,0)
 else
  some (false,10)

/-- lineal history.checked -/
def K125 (A:Ar) (e g:List D):Option (Int) :=
 (K147 A e g).bind fun (b,a) =>
 ((
  bif (A.zeq a 0) then
   some (!b)
  else
   some false:Option (Bool))).bind fun d =>
 ((
  bif d then
   some 20
  else
   some a:Option (Int))).bind fun c =>
 some c

/-- lineal history.newSearch -/
def K126 (A:Ar) (a b:List D):Option (List D×List D) :=
 some (a,b)

/--  lineal history.set .has -/
def K170a (A:Ar) (b a:Int):Option (Bool) :=
 (nk (A.zlt a 0)).bind fun _ =>
 some (A.zeq (A.bits .and .u8 (A.shr .u8 b a) 1) 1)

def K148aL0 (A:Ar) (g:Int) (b:List D):Int->Option ((Int)⊕((Unit)⊕(Unit))):=fun a =>
 bif (A.zlt a (A.len b)) then
  (gt A (cG (lc (cI .i64) (lc (cI .i64) (lc (cI .i64) (lc (cI .i64) (lc (cI .i64) (l1 (cI .i64)))))))) b a).bind fun (i,j,k,l,m,c) =>
  ((
   bif (A.zlt 0 c) then
    (K170a A g a).bind fun d =>
    some (!d)
   else
    some false:Option (Bool))).bind fun e =>
  bif e then
   some (.inr (.inr ()))
  else
   some (.inl (A.wrp .i64 (A.zadd a 1)))
 else
  some (.inr (.inl ()))

/--  *lineal history.search .ends -/
def K148a (A:Ar) (a c d:Int) (e:List (D×D)) (g b:List D):Option (Bool) :=
 (iter (K148aL0 A a b) 0).bind (Sum.elim (fun _ =>
  some true) (fun _ =>
  some false))

/--  *lineal history.search .next -/
def K149c (A:Ar) (a b c:Int) (d:List (D×D)) (e g:List D) (i:Int):Option (Int×Int×Int) :=
 some (a,b,c)

/--  lineal history.states .does -/
def K172a (A:Ar) (j k:Int) (v:List D) (C a l w E y:Int):Option (Int×Int×Bool) :=
 ((
  (gt A (cG (lc (cI .i64) (lc (cI .i64) (lc (cL 1) (l1 (cL 1)))))) v a).bind fun (b,c,d,e) =>
  bif (A.zeq a 0) then
   some (b,c,d,e,j)
  else
   bif (A.zeq a 1) then
    some (b,c,d,e,k)
   else
    none:Option (Int×Int×List D×List D×Int))).bind fun (z,B,p,q,i) =>
 ((
  (gt A (cL 1) p i).bind fun m =>
  (gt A (cI .i64) m l).bind fun g =>
  bif (A.zeq a 0) then
   some (g,k)
  else
   bif (A.zeq a 1) then
    some (j,g)
   else
    none:Option (Int×Int))).bind fun (r,s) =>
 ((
  bif (A.zeq y 0) then
   some true
  else
   (gt A (cL 1) q i).bind fun n =>
   (gt A (cI .i64) n l).bind fun o =>
   some (A.zeq o w):Option (Bool))).bind fun u =>
 some (r,s,u)

def K171aL0 (A:Ar) (v:Int) (c:List D) (l m n o p q:Int):(Bool×Int)->Option ((Bool×Int)⊕(Bool)):=fun (b,a) =>
 bif (A.zlt a (A.len c)) then
  (gt A (cG (lc (cI .i64) (lc (cI .i64) (lc (cI .i64) (lc (cI .i64) (lc (cI .i64) (l1 (cI .i64)))))))) c a).bind fun (d,e,g,i,j,k) =>
  ((
   bif b then
    (K170a A v a).bind fun r =>
    bif r then
     some true
    else
     (K127 A d e g i j k l m n o p q).bind fun s =>
     some (!s)
   else
    some false:Option (Bool))).bind fun u =>
  some (.inl (u,(A.wrp .i64 (A.zadd a 1))))
 else
  some (.inr b)

def K171aL1 (A:Ar) (e F G:Int) (n d:List D) (self123:Int->Int->Int->(List (D×D))->List D->List D->(Option (Int×List (D×D)))):(Int×List (D×D)×Int)->Option ((Int×List (D×D)×Int)⊕(List (D×D)×Int)):=fun (a,b,c) =>
 bif (A.zlt a (A.len d)) then
  ((
   (gt A (cG (lc (cI .i64) (lc (cI .i64) (lc (cI .i64) (lc (cI .i64) (lc (cI .i64) (l1 (cI .i64)))))))) d a).bind fun (g,i,j,k,l,m) =>
   (K170a A e a).bind fun u =>
   (iter (K171aL0 A e d g i j k l m) ((!u),0)).bind (fun v =>
   bif v then
    (K172a A F G n g i j k l m).bind fun (o,p,q) =>
    ((
     bif q then
      (nk (A.zlt a 0)).bind fun _ =>
      (
       (self123 (A.bits .or .u8 e (A.shl .u8 1 a)) o p b n d).bind fun (r,s) =>
       some (s,(A.wrp .i64 (A.zadd c r)))).bind (fun (w,y) =>
      some (w,y))
     else
      some (b,c):Option (List (D×D)×Int))).bind fun (z,B) =>
    some (z,B)
   else
    some (b,c)):Option (List (D×D)×Int))).bind fun (C,E) =>
  some (.inl ((A.wrp .i64 (A.zadd a 1)),C,E))
 else
  some (.inr (b,c))

/--  *lineal history.search .next$1 -/
def K171a (A:Ar) (self123:Int->Int->Int->(List (D×D))->List D->List D->(Option (Int×List (D×D)))) (c d e:Int) (g:List (D×D)) (i j:List D) (k:Int):Option (List (D×D)×Int) :=
 (iter (K171aL1 A c d e i j self123) (0,g,k)).bind (fun (a,b) =>
 some (a,b))

/--  *lineal history.search .count -/
def K128B (A:Ar) (self123:Int->Int->Int->(List (D×D))->List D->List D->(Option (Int×List (D×D)))) (b c d:Int) (a:List (D×D)) (e g:List D):Option (Int×List (D×D)) :=
 ((
  (lk A (cI .i64) a (.agg [(.int .u8 b),(.int .i64 c),(.int .i64 d)])).bind fun l=>l.elim (
   some (0,false)) fun k =>
  some (k,true):Option (Int×Bool))).bind fun (r,s) =>
 bif s then
  some (r,a)
 else
  (K148a A b c d a e g).bind fun m =>
  ((
   bif m then
    some 1
   else
    some 0:Option (Int))).bind fun j =>
  (K149c A b c d a e g j).bind fun (n,o,p) =>
  (K171a A self123 n o p a e g j).bind fun (q,i) =>
  some (i,(A.mput q (.agg [(.int .u8 b),(.int .i64 c),(.int .i64 d)]) (.int .i64 i)))

def K128R (A:Ar):Nat->Int->Int->Int->(List (D×D))->List D->List D->(Option (Int×List (D×D)))
 | 0=>fun _ _ _ _ _ _=>none
 | n+1=>fun a b c d e g=>K128B A (K128R A n) a b c d e g

def K128 (A:Ar) (a b c:Int) (d:List (D×D)) (e g:List D):Option (Int×List (D×D)):=K128R A fuel a b c d e g

/-- lineal history.Orders -/
def K88 (A:Ar) (b c:List D):Option (Int×Int) :=
 (K125 A b c).bind fun a =>
 bif (A.zeq a 0) then
  (K126 A b c).bind fun (e,g) =>
  (K128 A 0 0 0 [] e g).bind fun (d,i) =>
  some (d,0)
 else
  some (0,a)

/-- lineal history.Linear -/
def K35 (A:Ar) (c d:List D):Option (Bool×Int) :=
 (K88 A c d).bind fun (a,b) =>
 some ((A.zlt 0 a),b)

/-- lineal code.linear -/
def K87 (A:Ar) (d e:Int) (g i j:List D):Option (Bool) :=
 (K35 A [(.agg [(.int .i64 d),(.int .i64 e),(.list 1 g),(.list 1 i)])] j).bind fun (a,b) =>
 ((
  bif (A.zeq b 0) then
   some a
  else
   some false:Option (Bool))).bind fun c =>
 some c

/-- lineal code.Break$1 -/
def K86 (A:Ar) (s J:List D) (M N O P Q R S u v w y z B C E F G K:Int) (a L m:List D) (n o:Int) (p q:List D) (b:List (D×D)) (r:List D):Option (Bool×List (D×D)×List D) :=
 (ck (A.zle (A.len a) (Int.ofNat 6))).bind fun _ =>
 (ck (A.zle (A.zmul (A.zadd 0 (Int.ofNat 6)) (Int.ofNat 6)) (A.len (A.rep (Int.ofNat 36) (.int .i64 0))))).bind fun _ =>
 ((
  (ga A (A.spl (A.rep (Int.ofNat 36) (.int .i64 0)) (A.zmul 0 (Int.ofNat 6)) (A.flat a)) (A.zadd 0 (Int.ofNat 0)) (Int.ofNat 36)).bind fun d =>
  (ck (A.conf [.int .i64,.int .i64,.int .i64,.int .i64,.int .i64,.int .i64,.int .i64,.int .i64,.int .i64,.int .i64,.int .i64,.int .i64,.int .i64,.int .i64,.int .i64,.int .i64,.int .i64,.int .i64,.int .i64,.int .i64,.int .i64,.int .i64,.int .i64,.int .i64,.int .i64,.int .i64,.int .i64,.int .i64,.int .i64,.int .i64,.int .i64,.int .i64,.int .i64,.int .i64,.int .i64,.int .i64] d)).bind fun _ =>
  (lk A cB b (.agg d)).bind fun i=>i.elim (
   some true) fun g =>
  some (!g):Option (Bool))).bind fun k =>
 jn (fun (l:List (D×D)) =>
  some (true,l,r)) fun c =>
  bif k then
   (K87 A n o p q a).bind fun j =>
   bif j then
    (ga A (A.spl (A.rep (Int.ofNat 36) (.int .i64 0)) (A.zmul 0 (Int.ofNat 6)) (A.flat a)) (A.zadd 0 (Int.ofNat 0)) (Int.ofNat 36)).bind fun e =>
    (ck (A.conf [.int .i64,.int .i64,.int .i64,.int .i64,.int .i64,.int .i64,.int .i64,.int .i64,.int .i64,.int .i64,.int .i64,.int .i64,.int .i64,.int .i64,.int .i64,.int .i64,.int .i64,.int .i64,.int .i64,.int .i64,.int .i64,.int .i64,.int .i64,.int .i64,.int .i64,.int .i64,.int .i64,.int .i64,.int .i64,.int .i64,.int .i64,.int .i64,.int .i64,.int .i64,.int .i64,.int .i64] e)).bind fun _ =>
    c (A.mput b (.agg e) (.bool true))
   else
    some (false,b,m)
  else
   c b

def K85eL0 (A:Ar) (x1 x2:List D) (x3 x4 x5 x6 x7 x8 x9 q0 r0 s0 u0 v0 w0 y0 z0 a1 b1 c1:Int) (d1 e1:List D) (g1:Int) (M a:List D) (i1 j1:Int) (k1 l1 J:List D) (self136:List D->List D->Int->Int->Int->Int->Int->Int->Int->Int->Int->Int->Int->Int->Int->Int->Int->Int->Int->Int->List D->List D->Int->List D->List D->Int->Int->List D->List D->(List (D×D))->List D->(Option (Bool×List (D×D)×List D))):(Int×List (D×D)×List D)->Option ((Int×List (D×D)×List D)⊕((List (D×D)×List D)⊕(List (D×D)×List D×List D×List D×Int×Int×Int×Int×Int×Int×Int×Int×Int×Int×Int×Int×Int×Int×Int×Int×Int×Int×List D×List D))):=fun (b,K,L) =>
 bif (A.zlt b (A.len J)) then
  (gt A (cI .i64) J b).bind fun c =>
  (K124 A x1 x2 x3 x4 x5 x6 x7 x8 x9 q0 r0 s0 u0 v0 w0 y0 z0 a1 b1 c1 d1 e1).bind fun (P,Q,R,S,U,V,W,X,Y,a0,b0,c0,d0,e0,g0,i0,j0,k0,l0,m0,n0,o0) =>
  (K71 A c M P Q R S U V W X Y a0 b0 c0 d0 e0 g0 i0 j0 k0 l0 m0 n0 o0).bind fun (d,e,g,i,j,k,l,m,n,o,p,q,r,s,u,v,w,y,z,B,C,E) =>
  (sl A a 0 (A.len a)).bind fun N =>
  (ck (A.zeq (A.len a) (A.len a))).bind fun _ =>
  (ap A N [(.int .i64 c)]).bind fun O =>
  (self136 d e g i j k l m n o p q r s u v w y z B C E g1 M O i1 j1 k1 l1 K L).bind fun (p0,F,G) =>
  bif p0 then
   some (.inl ((A.wrp .i64 (A.zadd b 1)),F,G))
  else
   some (.inr (.inr (F,G,d,e,g,i,j,k,l,m,n,o,p,q,r,s,u,v,w,y,z,B,C,E)))
 else
  some (.inr (.inl (K,L)))

/--  lineal code.run .all -/
def K85eB (A:Ar) (self136:List D->List D->Int->Int->Int->Int->Int->Int->Int->Int->Int->Int->Int->Int->Int->Int->Int->Int->Int->Int->List D->List D->Int->List D->List D->Int->Int->List D->List D->(List (D×D))->List D->(Option (Bool×List (D×D)×List D))) (b o:List D) (r s u v w y z c d e g i j k l m n a:Int) (p q:List D) (C:Int) (W E:List D) (F G:Int) (J K:List D) (L:List (D×D)) (M:List D):Option (Bool×List (D×D)×List D) :=
 (K56 A b o r s u v w y z c d e g i j k l m n a p q).bind fun B =>
 ((
  bif (A.zeq (A.len B) 0) then
   some true
  else
   some (A.zeq a C):Option (Bool))).bind fun V =>
 bif V then
  (K86 A b o r s u v w y z c d e g i j k l m n a p q E F G J K L M).bind fun (N,O,P) =>
  some (N,O,P)
 else
  (iter (K85eL0 A b o r s u v w y z c d e g i j k l m n a p q C W E F G J K B self136) (0,L,M)).bind (Sum.elim (fun (Q,R) =>
   some (true,Q,R)) (fun (S,U,X,Y,a0,b0,c0,d0,e0,g0,i0,j0,k0,l0,m0,n0,o0,p0,q0,r0,s0,u0,v0,w0) =>
   some (false,S,U)))

def K85eR (A:Ar):Nat->List D->List D->Int->Int->Int->Int->Int->Int->Int->Int->Int->Int->Int->Int->Int->Int->Int->Int->Int->Int->List D->List D->Int->List D->List D->Int->Int->List D->List D->(List (D×D))->List D->(Option (Bool×List (D×D)×List D))
 | 0=>fun _ _ _ _ _ _ _ _ _ _ _ _ _ _ _ _ _ _ _ _ _ _ _ _ _ _ _ _ _ _ _=>none
 | n+1=>fun a o C G J K L M N b c d e g i j k l m p q r s u v w y z B E F=>K85eB A (K85eR A n) a o C G J K L M N b c d e g i j k l m p q r s u v w y z B E F

def K85e (A:Ar) (a n:List D) (B F G J K L M b c d e g i j k l m o:Int) (p q:List D) (r:Int) (s u:List D) (v w:Int) (y z:List D) (C:List (D×D)) (E:List D):Option (Bool×List (D×D)×List D):=K85eR A fuel a n B F G J K L M b c d e g i j k l m o p q r s u v w y z C E

def K85dL0 (A:Ar) (x1 x2:List D) (x3 x4 x5 x6 x7 x8 x9 q0 r0 s0 u0 v0 w0 y0 z0 a1 b1 c1 d1:Int) (M a:List D) (e1 g1:Int) (i1 j1 k1 l1 J:List D):(Int×List D×List (D×D))->Option ((Int×List D×List (D×D))⊕((List D×List (D×D))⊕(List D×List (D×D)×List D×List D×Int×Int×Int×Int×Int×Int×Int×Int×Int×Int×Int×Int×Int×Int×Int×Int×Int×Int×List D×List D))):=fun (b,K,L) =>
 bif (A.zlt b (A.len J)) then
  (gt A (cI .i64) J b).bind fun c =>
  (K124 A x1 x2 x3 x4 x5 x6 x7 x8 x9 q0 r0 s0 u0 v0 w0 y0 z0 a1 b1 c1 k1 l1).bind fun (P,Q,R,S,U,V,W,X,Y,a0,b0,c0,d0,e0,g0,i0,j0,k0,l0,m0,n0,o0) =>
  (K71 A c M P Q R S U V W X Y a0 b0 c0 d0 e0 g0 i0 j0 k0 l0 m0 n0 o0).bind fun (d,e,g,i,j,k,l,m,n,o,p,q,r,s,u,v,w,y,z,B,C,E) =>
  (sl A a 0 (A.len a)).bind fun N =>
  (ck (A.zeq (A.len a) (A.len a))).bind fun _ =>
  (ap A N [(.int .i64 c)]).bind fun O =>
  (K85e A d e g i j k l m n o p q r s u v w y z B C E d1 M O e1 g1 i1 j1 L K).bind fun (p0,F,G) =>
  bif p0 then
   some (.inl ((A.wrp .i64 (A.zadd b 1)),G,F))
  else
   some (.inr (.inr (G,F,d,e,g,i,j,k,l,m,n,o,p,q,r,s,u,v,w,y,z,B,C,E)))
 else
  some (.inr (.inl (K,L)))

/--  lineal code.run .all -/
def K85d (A:Ar) (b o:List D) (p s u v w y z c d e g i j k l m n a C:Int) (W E:List D) (F G:Int) (J K L:List D) (M:List (D×D)) (q r:List D):Option (Bool×List D×List (D×D)) :=
 (K56 A b o p s u v w y z c d e g i j k l m n a q r).bind fun B =>
 ((
  bif (A.zeq (A.len B) 0) then
   some true
  else
   some (A.zeq a C):Option (Bool))).bind fun V =>
 bif V then
  (K86 A b o p s u v w y z c d e g i j k l m n a q r E F G J K M L).bind fun (N,O,P) =>
  some (N,P,O)
 else
  (iter (K85dL0 A b o p s u v w y z c d e g i j k l m n a C W E F G J K q r B) (0,L,M)).bind (Sum.elim (fun (Q,R) =>
   some (true,Q,R)) (fun (S,U,X,Y,a0,b0,c0,d0,e0,g0,i0,j0,k0,l0,m0,n0,o0,p0,q0,r0,s0,u0,v0,w0) =>
   some (false,S,U)))

/-- lineal code.Break -/
def K33 (A:Ar) (b c:Int) (d e g i:List D) (j:Int):Option (List D×Int) :=
 (K68 A b c d e g i).bind fun a =>
 bif (A.zeq a 0) then
  (K84 A j).bind fun k =>
  bif k then
   (K69 A g i).bind fun (l,m) =>
   (K85d A l m 0 0 0 0 0 0 0 0 0 0 0 0 0 0 0 0 0 0 j [] [] b c d e [] [] [] []).bind fun (n,o,q) =>
   bif n then
    some ([],5)
   else
    (K54 A o).bind fun p =>
    some (p,0)
  else
   some ([],2)
 else
  some ([],a)

/-- lineal code.Sound -/
def K32 (A:Ar) (b c:Int) (d e g i:List D) (j:Int):Option (Bool×Int) :=
 (K33 A b c d e g i j).bind fun (k,a) =>
 bif (A.zeq a 5) then
  some (true,0)
 else
  some (false,a)

/-- lineal code.Breaks -/
def K34 (A:Ar) (c d:Int) (e g i j n:List D):Option (Bool×Int) :=
 (K68 A c d e g i j).bind fun b =>
 bif (A.zeq b 0) then
  (K13 A i j n).bind fun (k,a) =>
  ((
   bif (A.zeq a 0) then
    (K87 A c d e g k).bind fun l =>
    some (!l)
   else
    some false:Option (Bool))).bind fun m =>
  some (m,a)
 else
  some (false,b)

/--  *lineal code.run .has -/
def K70b (A:Ar) (k b:List D) (j z B C E F G i l m n o p q r s u v:Int) (w y:List D) (a:Int):Option (Bool) :=
 ((
  (K47 A 0 a (A.wrp .i64 (A.zsub (A.len b) 1))).bind fun e =>
  bif e then
   bif (A.zeq a 0) then
    (gt A (cL 1) b a).bind fun c =>
    some (A.zlt j (A.len c))
   else
    bif (A.zeq a 1) then
     (gt A (cL 1) b a).bind fun d =>
     some (A.zlt i (A.len d))
    else
     none
  else
   some false:Option (Bool))).bind fun g =>
 some g

def K56aL0 (A:Ar) (i c:List D) (y z B C E F G j k l m n o p q r s u:Int) (v w:List D):(List D×Int)->Option ((List D×Int)⊕(List D)):=fun (b,a) =>
 bif (A.zlt a (A.len c)) then
  (K70b A i c y z B C E F G j k l m n o p q r s u v w a).bind fun e =>
  ((
   bif e then
    (ap A b [(.int .i64 a)]).bind fun d =>
    some d
   else
    some b:Option (List D))).bind fun g =>
  some (.inl (g,(A.wrp .i64 (A.zadd a 1))))
 else
  some (.inr b)

/--  *lineal code.run .left -/
def K56a (A:Ar) (b o:List D) (s u v w y z B c d e g i j k l m n p:Int) (q r:List D):Option (List D) :=
 (iter (K56aL0 A b o s u v w y z B c d e g i j k l m n p q r) ([],0)).bind (fun a =>
 some a)
end
end Go.Am
