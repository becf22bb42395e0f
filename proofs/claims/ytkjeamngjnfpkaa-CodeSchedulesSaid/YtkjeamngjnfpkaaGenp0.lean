/- Own text: Genp0. -/
import Derived.Test.YtkjeamngjnfpkaaAmLaw
import Derived.Test.YtkjeamngjnfpkaaAmLaw
import Derived.Test.YtkjeamngjnfpkaaAmLaw
set_option maxRecDepth 100000
set_option maxHeartbeats 2000000
set_option linter.unusedVariables false
set_option linter.unusedSimpArgs false
namespace Go.Am
noncomputable section
open Go
def K41L0 (A:Ar) (b:List D):Int->Option ((Int)⊕((Unit)⊕(Unit))):=fun a =>
 bif (A.zlt a (A.len b)) then
  (gt A (cL 1) b a).bind fun c =>
  bif (A.zlt 20 (A.len c)) then
   some (.inr (.inr ()))
  else
   some (.inl (A.wrp .i64 (A.zadd a 1)))
 else
  some (.inr (.inl ()))

def K41L1 (A:Ar) (b:List D):Int->Option ((Int)⊕((Unit)⊕(Unit))):=fun a =>
 bif (A.zlt a (A.len b)) then
  (gt A (cL 1) b a).bind fun c =>
  bif (A.zlt 20 (A.len c)) then
   some (.inr (.inr ()))
  else
   some (.inl (A.wrp .i64 (A.zadd a 1)))
 else
  some (.inr (.inl ()))

def K41L2 (A:Ar) (d:List D):Int->Option ((Int)⊕((Unit)⊕(Unit))):=fun a =>
 bif (A.zlt a (A.len d)) then
  (gt A (cG (lc (cI .i64) (lc (cI .i64) (lc (cL 1) (l1 (cL 1)))))) d a).bind fun (g,i,b,c) =>
  ((
   bif (A.zlt 20 (A.len b)) then
    some true
   else
    some (A.zlt 20 (A.len c)):Option (Bool))).bind fun e =>
  bif e then
   some (.inr (.inr ()))
  else
   (iter (K41L0 A b) 0).bind (Sum.elim (fun _ =>
    (iter (K41L1 A c) 0).bind (Sum.elim (fun _ =>
     some (.inl (A.wrp .i64 (A.zadd a 1)))) (fun _ =>
     some (.inr (.inr ()))))) (fun _ =>
    some (.inr (.inr ()))))
 else
  some (.inr (.inl ()))

/-- lineal lineallaw02.Large -/
def K41 (A:Ar) (a:List D):Option (Bool) :=
 (iter (K41L2 A a) 0).bind (Sum.elim (fun _ =>
  some (A.zlt 5 (A.len a))) (fun _ =>
  some true))

def K9L0 (A:Ar) (b:List D):Int->Option ((Int)⊕((Unit)⊕(Unit))):=fun a =>
 bif (A.zlt a (A.len b)) then
  (gt A (cL 4) b a).bind fun c =>
  bif (A.zlt 30 (A.len c)) then
   some (.inr (.inr ()))
  else
   some (.inl (A.wrp .i64 (A.zadd a 1)))
 else
  some (.inr (.inl ()))

def K9L1 (A:Ar) (b:List D):Int->Option ((Int)⊕((Unit)⊕(Unit))):=fun a =>
 bif (A.zlt a (A.len b)) then
  (gt A (cL 1) b a).bind fun c =>
  bif (A.zlt 20 (A.len c)) then
   some (.inr (.inr ()))
  else
   some (.inl (A.wrp .i64 (A.zadd a 1)))
 else
  some (.inr (.inl ()))

/-- lineal lineallaw08.Large -/
def K9 (A:Ar) (e g:Int) (i j a b:List D):Option (Bool) :=
 (iter (K9L0 A a) 0).bind (Sum.elim (fun _ =>
  (iter (K9L1 A b) 0).bind (Sum.elim (fun _ =>
   ((
    (K41 A [(.agg [(.int .i64 e),(.int .i64 g),(.list 1 i),(.list 1 j)])]).bind fun c =>
    bif c then
     some true
    else
     bif (A.zlt 10 (A.len a)) then
      some true
     else
      some (A.zlt 10 (A.len b)):Option (Bool))).bind fun d =>
   some d) (fun _ =>
   some true))) (fun _ =>
  some true))

/-- lineal code.between -/
def K47 (A:Ar) (c a d:Int):Option (Bool) :=
 ((
  bif (A.zle c a) then
   some (A.zle a d)
  else
   some false:Option (Bool))).bind fun b =>
 some b

/-- lineal code.isRegister$1 -/
def K163 (A:Ar) (b:Int):Option (Bool) :=
 (K47 A 0 b 3).bind fun a =>
 some (!a)

def K162L0 (A:Ar) (b:List D):Int->Option ((Int)⊕((Unit)⊕(Int))):=fun a =>
 bif (A.zlt a (A.len b)) then
  (gt A (cI .i64) b a).bind fun c =>
  (K163 A c).bind fun d =>
  bif d then
   some (.inr (.inr a))
  else
   some (.inl (A.wrp .i64 (A.zadd a 1)))
 else
  some (.inr (.inl ()))

/-- slices.IndexFunc   int int  -/
def K162 (A:Ar) (b:List D):Option (Int) :=
 (iter (K162L0 A b) 0).bind (Sum.elim (fun _ =>
  some (-1)) (fun a =>
  some a))

/-- slices.ContainsFunc   int int  -/
def K135 (A:Ar) (b:List D):Option (Bool) :=
 (K162 A b).bind fun a =>
 some (A.zle 0 a)

/-- lineal code.isRegister -/
def K138 (A:Ar) (b:List D):Option (Bool) :=
 (K135 A b).bind fun a =>
 some (!a)

/-- lineal code.isCell -/
def K79 (A:Ar) (b:Int):Option (Bool) :=
 (K47 A 0 b 2).bind fun a =>
 some a

/-- lineal code.isLine -/
def K110 (A:Ar) (a b c d B:Int):Option (Bool) :=
 bif (A.zeq a 1) then
  ((
   (K138 A [(.int .i64 b)]).bind fun r =>
   bif r then
    (K79 A c).bind fun e =>
    bif e then
     some (A.zeq d 0)
    else
     some false
   else
    some false:Option (Bool))).bind fun s =>
  some s
 else
  bif (A.zeq a 2) then
   ((
    (K79 A b).bind fun g =>
    bif g then
     (K138 A [(.int .i64 c)]).bind fun i =>
     bif i then
      some (A.zeq d 0)
     else
      some false
    else
     some false:Option (Bool))).bind fun u =>
   some u
  else
   bif (A.zeq a 3) then
    ((
     (K79 A b).bind fun j =>
     bif j then
      (K138 A [(.int .i64 c),(.int .i64 d)]).bind fun k =>
      some k
     else
      some false:Option (Bool))).bind fun v =>
    some v
   else
    bif (A.zeq a 4) then
     ((
      (K138 A [(.int .i64 b)]).bind fun l =>
      bif l then
       (K47 A 0 c 9).bind fun m =>
       bif m then
        some (A.zeq d 0)
       else
        some false
      else
       some false:Option (Bool))).bind fun w =>
     some w
    else
     bif (A.zeq a 5) then
      (K138 A [(.int .i64 b),(.int .i64 c),(.int .i64 d)]).bind fun n =>
      some n
     else
      bif (A.zeq a 6) then
       ((
        (K138 A [(.int .i64 b)]).bind fun o =>
        bif o then
         (K47 A 0 c (A.wrp .i64 (A.zsub B 1))).bind fun p =>
         bif p then
          some (A.zeq d 0)
         else
          some false
        else
         some false:Option (Bool))).bind fun y =>
       some y
      else
       bif (A.zeq a 7) then
        ((
         (K138 A [(.int .i64 b)]).bind fun q =>
         bif q then
          bif (A.zeq c 0) then
           some (A.zeq d 0)
          else
           some false
         else
          some false:Option (Bool))).bind fun z =>
        some z
       else
        some false

/-- lineal code.isCall$1 -/
def K109 (A:Ar) (b c d e:Int) (g:List D):Option (Bool) :=
 (K110 A b c d e (A.len g)).bind fun a =>
 some (!a)

def K137L0 (A:Ar) (b j:List D):Int->Option ((Int)⊕((Unit)⊕(Int))):=fun a =>
 bif (A.zlt a (A.len b)) then
  (gt A (cG (lc (cI .i64) (lc (cI .i64) (lc (cI .i64) (l1 (cI .i64)))))) b a).bind fun (c,d,e,g) =>
  (K109 A c d e g j).bind fun i =>
  bif i then
   some (.inr (.inr a))
  else
   some (.inl (A.wrp .i64 (A.zadd a 1)))
 else
  some (.inr (.inl ()))

/-- slices.IndexFunc   lineal api.Line lineal api.Line  -/
def K137 (A:Ar) (b c:List D):Option (Int) :=
 (iter (K137L0 A b c) 0).bind (Sum.elim (fun _ =>
  some (-1)) (fun a =>
  some a))

/-- slices.ContainsFunc   lineal api.Line lineal api.Line  -/
def K108 (A:Ar) (b c:List D):Option (Bool) :=
 (K137 A b c).bind fun a =>
 some (A.zle 0 a)

/-- lineal code.isCall -/
def K50 (A:Ar) (a:List D):Option (Bool) :=
 ((
  (K47 A 1 (A.len a) 8).bind fun c =>
  bif c then
   (K108 A a a).bind fun d =>
   bif d then
    some false
   else
    (gt A (cG (lc (cI .i64) (lc (cI .i64) (lc (cI .i64) (l1 (cI .i64)))))) a (A.wrp .i64 (A.zsub (A.len a) 1))).bind fun (b,j,g,i) =>
    some (A.zeq b 7)
  else
   some false:Option (Bool))).bind fun e =>
 some e

/-- lineal code.Valid$1 -/
def K49 (A:Ar) (b:List D):Option (Bool) :=
 (K50 A b).bind fun a =>
 some (!a)

def K107L0 (A:Ar) (b:List D):Int->Option ((Int)⊕((Unit)⊕(Int))):=fun a =>
 bif (A.zlt a (A.len b)) then
  (gt A (cL 4) b a).bind fun c =>
  (K49 A c).bind fun d =>
  bif d then
   some (.inr (.inr a))
  else
   some (.inl (A.wrp .i64 (A.zadd a 1)))
 else
  some (.inr (.inl ()))

/-- slices.IndexFunc     lineal api.Line   lineal api.Line  -/
def K107 (A:Ar) (b:List D):Option (Int) :=
 (iter (K107L0 A b) 0).bind (Sum.elim (fun _ =>
  some (-1)) (fun a =>
  some a))

/-- slices.ContainsFunc     lineal api.Line   lineal api.Line  -/
def K48 (A:Ar) (b:List D):Option (Bool) :=
 (K107 A b).bind fun a =>
 some (A.zle 0 a)

/-- lineal code.Valid -/
def K15 (A:Ar) (a:List D):Option (Bool) :=
 ((
  (K47 A 1 (A.len a) 4).bind fun b =>
  bif b then
   (K48 A a).bind fun c =>
   some (!c)
  else
   some false:Option (Bool))).bind fun d =>
 some d

/-- lineal code.isWord$1 -/
def K136 (A:Ar) (b:Int) (c:List D):Option (Bool) :=
 (K47 A 0 b (A.wrp .i64 (A.zsub (A.len c) 1))).bind fun a =>
 some (!a)

def K162aL0 (A:Ar) (b e:List D):Int->Option ((Int)⊕((Unit)⊕(Int))):=fun a =>
 bif (A.zlt a (A.len b)) then
  (gt A (cI .i64) b a).bind fun c =>
  (K136 A c e).bind fun d =>
  bif d then
   some (.inr (.inr a))
  else
   some (.inl (A.wrp .i64 (A.zadd a 1)))
 else
  some (.inr (.inl ()))

/-- slices.IndexFunc   int int  -/
def K162a (A:Ar) (b c:List D):Option (Int) :=
 (iter (K162aL0 A b c) 0).bind (Sum.elim (fun _ =>
  some (-1)) (fun a =>
  some a))

/-- slices.ContainsFunc   int int  -/
def K135a (A:Ar) (b c:List D):Option (Bool) :=
 (K162a A b c).bind fun a =>
 some (A.zle 0 a)

/-- lineal code.isWord -/
def K103 (A:Ar) (d a:List D):Option (Bool) :=
 ((
  bif (A.zle (A.len a) 3) then
   (K135a A a d).bind fun b =>
   some (!b)
  else
   some false:Option (Bool))).bind fun c =>
 some c

/-- lineal code.isUse$1 -/
def K102 (A:Ar) (b c:List D):Option (Bool) :=
 (K103 A c b).bind fun a =>
 some (!a)

def K134L0 (A:Ar) (b e:List D):Int->Option ((Int)⊕((Unit)⊕(Int))):=fun a =>
 bif (A.zlt a (A.len b)) then
  (gt A (cL 1) b a).bind fun c =>
  (K102 A c e).bind fun d =>
  bif d then
   some (.inr (.inr a))
  else
   some (.inl (A.wrp .i64 (A.zadd a 1)))
 else
  some (.inr (.inl ()))

/-- slices.IndexFunc     int   int  -/
def K134 (A:Ar) (b c:List D):Option (Int) :=
 (iter (K134L0 A b c) 0).bind (Sum.elim (fun _ =>
  some (-1)) (fun a =>
  some a))

/-- slices.ContainsFunc     int   int  -/
def K101 (A:Ar) (b c:List D):Option (Bool) :=
 (K134 A b c).bind fun a =>
 some (A.zle 0 a)

/-- lineal code.isUse -/
def K42 (A:Ar) (e a:List D):Option (Bool) :=
 ((
  (K47 A 1 (A.len a) 2).bind fun b =>
  bif b then
   (K101 A a e).bind fun c =>
   some (!c)
  else
   some false:Option (Bool))).bind fun d =>
 some d

/-- lineal code.checked -/
def K89 (A:Ar) (a d:List D):Option (Int) :=
 (K15 A a).bind fun b =>
 bif b then
  (K42 A a d).bind fun c =>
  bif c then
   some 0
  else
   some 81
 else
  some 80

/-- lineal code.newRun -/
def K69 (A:Ar) (a b:List D):Option (List D×List D) :=
 some (a,b)

/--  *lineal code.run .has -/
def K70 (A:Ar) (a:Int) (u b:List D) (j B C E F G k i l m n o p q r s v w:Int) (y z:List D):Option (Bool) :=
 ((
  (K47 A 0 a (A.wrp .i64 (A.zsub (A.len b) 1))).bind fun e =>
  bif e then
   bif (A.zeq a 0) then
    (gt A (cL 1) b a).bind fun c =>
    some (A.zlt j (A.len c))
   else
    bif (A.zeq a 1) then
     (gt A (cL 1) b a).bind fun d =>
     some (A.zlt i (A.len d))
    else
     none
  else
   some false:Option (Bool))).bind fun g =>
 some g

/--  *lineal code.run .begun$1 -/
def K143 (A:Ar) (b e g i j c d:Int):Option (Bool) :=
 ((
  bif (A.zeq b d) then
   some (A.zeq c 0)
  else
   some false:Option (Bool))).bind fun a =>
 some a

def K166L0 (A:Ar) (l:Int) (b:List D):Int->Option ((Int)⊕((Unit)⊕(Int))):=fun a =>
 bif (A.zlt a (A.len b)) then
  (ck (A.zle 0 a)).bind fun _ =>
  (ck (A.zlt a (A.len b))).bind fun _ =>
  (gc A (cG (lc (cI .i64) (lc (cI .i64) (lc (cI .i64) (lc (cI .i64) (lc (cI .i64) (l1 (cI .i64)))))))) b (A.nat a)).bind fun (c,d,e,g,i,j) =>
  (K143 A c d e g i j l).bind fun k =>
  bif k then
   some (.inr (.inr a))
  else
   some (.inl (A.wrp .i64 (A.zadd a 1)))
 else
  some (.inr (.inl ()))

/-- slices.IndexFunc   lineal api.Call lineal api.Call  -/
def K166 (A:Ar) (b:Int) (p u:List D) (v w y z B C d e g i j k l m n o q r:Int) (c s:List D):Option (Int) :=
 (iter (K166L0 A b c) 0).bind (Sum.elim (fun _ =>
  some (-1)) (fun a =>
  some a))

/-- slices.ContainsFunc   lineal api.Call lineal api.Call  -/
def K142 (A:Ar) (b:Int) (o u:List D) (v w y z B C c d e g i j k l m n p q:Int) (r s:List D):Option (Bool) :=
 (K166 A b o u v w y z B C c d e g i j k l m n p q r s).bind fun a =>
 some (A.zle 0 a)

/--  *lineal code.run .begun -/
def K116 (A:Ar) (b:Int) (o u:List D) (v w y z B C c d e g i j k l m n p q:Int) (r s:List D):Option (Bool) :=
 (K142 A b o u v w y z B C c d e g i j k l m n p q r s).bind fun a =>
 some a

/-- lineal code.start -/
def K117 (A:Ar):Option (Unit) :=
 some ()

/--  *lineal code.run .swap -/
def K118 (A:Ar) (p a g i:Int) (F G:List D) (J K m j k l q r s u v w y z c d e B:Int) (C E:List D):Option (Int×Int×Int×Int) :=
 (ck (A.zle 0 a)).bind fun _ =>
 (ck (A.zlt a (Int.ofNat 3))).bind fun _ =>
 (gc A (cI .i64) [(.int .i64 c),(.int .i64 d),(.int .i64 e)] (A.nat a)).bind fun n =>
 (ck (A.zle 0 g)).bind fun _ =>
 (ck (A.zlt g (Int.ofNat 4))).bind fun _ =>
 (gc A (cI .i64) [(.int .i64 m),(.int .i64 j),(.int .i64 k),(.int .i64 l)] (A.nat g)).bind fun o =>
 bif (A.zeq n o) then
  (ck (A.zle 0 i)).bind fun _ =>
  (ck (A.zlt i (Int.ofNat 4))).bind fun _ =>
  (gc A (cI .i64) [(.int .i64 m),(.int .i64 j),(.int .i64 k),(.int .i64 l)] (A.nat i)).bind fun b =>
  (ck (A.zle 0 a)).bind fun _ =>
  (ck (A.zlt a (Int.ofNat 3))).bind fun _ =>
  some (1,(bif A.zeq a (Int.ofNat 0) then b else c),(bif A.zeq a (Int.ofNat 1) then b else d),(bif A.zeq a (Int.ofNat 2) then b else e))
 else
  some (0,c,d,e)

/--  *lineal code.run .swap -/
def K118a (A:Ar) (p a g i:Int) (E F:List D) (G J K q r s u v w j k l m y c d e z:Int) (B C:List D):Option (Int×Int×Int×Int) :=
 (ck (A.zle 0 a)).bind fun _ =>
 (ck (A.zlt a (Int.ofNat 3))).bind fun _ =>
 (gc A (cI .i64) [(.int .i64 c),(.int .i64 d),(.int .i64 e)] (A.nat a)).bind fun n =>
 (ck (A.zle 0 g)).bind fun _ =>
 (ck (A.zlt g (Int.ofNat 4))).bind fun _ =>
 (gc A (cI .i64) [(.int .i64 j),(.int .i64 k),(.int .i64 l),(.int .i64 m)] (A.nat g)).bind fun o =>
 bif (A.zeq n o) then
  (ck (A.zle 0 i)).bind fun _ =>
  (ck (A.zlt i (Int.ofNat 4))).bind fun _ =>
  (gc A (cI .i64) [(.int .i64 j),(.int .i64 k),(.int .i64 l),(.int .i64 m)] (A.nat i)).bind fun b =>
  (ck (A.zle 0 a)).bind fun _ =>
  (ck (A.zlt a (Int.ofNat 3))).bind fun _ =>
  some (1,(bif A.zeq a (Int.ofNat 0) then b else c),(bif A.zeq a (Int.ofNat 1) then b else d),(bif A.zeq a (Int.ofNat 2) then b else e))
 else
  some (0,c,d,e)

/--  *lineal code.run .step -/
def K71 (A:Ar) (G:Int) (x2 K L:List D) (k g V W X N O i e P Q R S U w y z j:Int) (J M:List D):Option (List D×List D×Int×Int×Int×Int×Int×Int×Int×Int×Int×Int×Int×Int×Int×Int×Int×Int×Int×Int×List D×List D) :=
 bif (A.zeq G 0) then
  (gt A (cL 1) L G).bind fun q1 =>
  (gt A (cI .i64) q1 k).bind fun o0 =>
  ((
   bif (A.zeq g 0) then
    (K116 A G K L k g V W X N O i e P Q R S U w y z j J M).bind fun r2 =>
    some (!r2)
   else
    some false:Option (Bool))).bind fun l5 =>
  ((
   bif l5 then
    (K117 A).bind fun () =>
    (ap A J [(.agg [(.int .i64 G),(.int .i64 0),(.int .i64 o0),(.int .i64 0),(.int .i64 (A.wrp .i64 (A.zadd (A.wrp .i64 (A.zmul 2 j)) 1))),(.int .i64 0)])]).bind fun e2 =>
    (ap A M [(.int .i64 0)]).bind fun g2 =>
    some (0,1,0,0,(A.len J),e2,g2)
   else
    some (V,W,X,N,O,J,M):Option (Int×Int×Int×Int×Int×List D×List D))).bind fun (r,s,u,C,m,v,k0) =>
  ((
   bif (A.zlt 0 (A.len x2)) then
    (gt A (cI .i64) x2 o0).bind fun a2 =>
    some (A.zeq a2 g)
   else
    some false:Option (Bool))).bind fun n7 =>
  ((
   bif n7 then
    (ck (A.zle 0 m)).bind fun _ =>
    (ck (A.zlt m (A.len k0))).bind fun _ =>
    (gc A (cI .i64) k0 (A.nat m)).bind fun u7 =>
    some (A.lset k0 (A.nat m) (.int .i64 (A.wrp .i64 (A.zadd j 1))))
   else
    some k0:Option (List D))).bind fun c1 =>
  (gt A (cL 4) K o0).bind fun b2 =>
  (gt A (cG (lc (cI .i64) (lc (cI .i64) (lc (cI .i64) (l1 (cI .i64)))))) b2 g).bind fun (F,b,d,g0) =>
  ((
   bif (A.zeq F 1) then
    (ck (A.zle 0 d)).bind fun _ =>
    (ck (A.zlt d (Int.ofNat 3))).bind fun _ =>
    (gc A (cI .i64) [(.int .i64 w),(.int .i64 y),(.int .i64 z)] (A.nat d)).bind fun i0 =>
    (ck (A.zle 0 b)).bind fun _ =>
    (ck (A.zlt b (Int.ofNat 4))).bind fun _ =>
    some (k,(A.wrp .i64 (A.zadd g 1)),(bif A.zeq b (Int.ofNat 0) then i0 else r),(bif A.zeq b (Int.ofNat 1) then i0 else s),(bif A.zeq b (Int.ofNat 2) then i0 else u),(bif A.zeq b (Int.ofNat 3) then i0 else C),w,y,z,v)
   else
    ((
     bif (A.zeq F 2) then
      (ck (A.zle 0 d)).bind fun _ =>
      (ck (A.zlt d (Int.ofNat 4))).bind fun _ =>
      (gc A (cI .i64) [(.int .i64 r),(.int .i64 s),(.int .i64 u),(.int .i64 C)] (A.nat d)).bind fun l0 =>
      (ck (A.zle 0 b)).bind fun _ =>
      (ck (A.zlt b (Int.ofNat 3))).bind fun _ =>
      some (k,(A.wrp .i64 (A.zadd g 1)),r,s,u,C,(bif A.zeq b (Int.ofNat 0) then l0 else w),(bif A.zeq b (Int.ofNat 1) then l0 else y),(bif A.zeq b (Int.ofNat 2) then l0 else z),v)
     else
      ((
       bif (A.zeq F 3) then
        (K118 A F b d g0 K L k (A.wrp .i64 (A.zadd g 1)) r s u C m i e P Q R S U w y z (A.wrp .i64 (A.zadd j 1)) v c1).bind fun (i2,j2,k2,l2) =>
        some (k,(A.wrp .i64 (A.zadd g 1)),r,s,u,i2,j2,k2,l2,v)
       else
        ((
         bif (A.zeq F 4) then
          (ck (A.zle 0 b)).bind fun _ =>
          (ck (A.zlt b (Int.ofNat 4))).bind fun _ =>
          some (k,(A.wrp .i64 (A.zadd g 1)),(bif A.zeq b (Int.ofNat 0) then d else r),(bif A.zeq b (Int.ofNat 1) then d else s),(bif A.zeq b (Int.ofNat 2) then d else u),(bif A.zeq b (Int.ofNat 3) then d else C),v)
         else
          ((
           bif (A.zeq F 5) then
            (ck (A.zle 0 d)).bind fun _ =>
            (ck (A.zlt d (Int.ofNat 4))).bind fun _ =>
            (gc A (cI .i64) [(.int .i64 r),(.int .i64 s),(.int .i64 u),(.int .i64 C)] (A.nat d)).bind fun Y =>
            (ck (A.zle 0 g0)).bind fun _ =>
            (ck (A.zlt g0 (Int.ofNat 4))).bind fun _ =>
            (gc A (cI .i64) [(.int .i64 r),(.int .i64 s),(.int .i64 u),(.int .i64 C)] (A.nat g0)).bind fun a0 =>
            (nk (A.zeq 10 0)).bind fun _ =>
            (ck (A.zle 0 b)).bind fun _ =>
            (ck (A.zlt b (Int.ofNat 4))).bind fun _ =>
            some (k,(A.wrp .i64 (A.zadd g 1)),(bif A.zeq b (Int.ofNat 0) then (A.rem (A.wrp .i64 (A.zadd Y a0)) 10) else r),(bif A.zeq b (Int.ofNat 1) then (A.rem (A.wrp .i64 (A.zadd Y a0)) 10) else s),(bif A.zeq b (Int.ofNat 2) then (A.rem (A.wrp .i64 (A.zadd Y a0)) 10) else u),(bif A.zeq b (Int.ofNat 3) then (A.rem (A.wrp .i64 (A.zadd Y a0)) 10) else C),v)
           else
            ((
             bif (A.zeq F 6) then
              (ck (A.zle 0 b)).bind fun _ =>
              (ck (A.zlt b (Int.ofNat 4))).bind fun _ =>
              (gc A (cI .i64) [(.int .i64 r),(.int .i64 s),(.int .i64 u),(.int .i64 C)] (A.nat b)).bind fun d1 =>
              ((
               bif (A.zeq d1 0) then
                some d
               else
                some (A.wrp .i64 (A.zadd g 1)):Option (Int))).bind fun s2 =>
              some (k,s2,v)
             else
              ((
               bif (A.zeq F 7) then
                (ck (A.zle 0 m)).bind fun _ =>
                (ck (A.zlt m (A.len v))).bind fun _ =>
                (ck (A.zle 0 b)).bind fun _ =>
                (ck (A.zlt b (Int.ofNat 4))).bind fun _ =>
                (gc A (cI .i64) [(.int .i64 r),(.int .i64 s),(.int .i64 u),(.int .i64 C)] (A.nat b)).bind fun e1 =>
                (gc A (cG (lc (cI .i64) (lc (cI .i64) (lc (cI .i64) (lc (cI .i64) (lc (cI .i64) (l1 (cI .i64)))))))) v (A.nat m)).bind fun (p0,q0,r0,s0,u0,o7) =>
                (gc A (cG (lc (cI .i64) (lc (cI .i64) (lc (cI .i64) (lc (cI .i64) (lc (cI .i64) (l1 (cI .i64)))))))) (A.lset v (A.nat m) (.agg [(.int .i64 p0),(.int .i64 q0),(.int .i64 r0),(.int .i64 s0),(.int .i64 u0),(.int .i64 (A.wrp .i64 (A.zmul 2 (A.wrp .i64 (A.zadd j 1)))))])) (A.nat m)).bind fun (g1,i1,j1,p7,k1,m1) =>
                some ((A.wrp .i64 (A.zadd k 1)),0,(A.lset (A.lset v (A.nat m) (.agg [(.int .i64 p0),(.int .i64 q0),(.int .i64 r0),(.int .i64 s0),(.int .i64 u0),(.int .i64 (A.wrp .i64 (A.zmul 2 (A.wrp .i64 (A.zadd j 1)))))])) (A.nat m) (.agg [(.int .i64 g1),(.int .i64 i1),(.int .i64 j1),(.int .i64 e1),(.int .i64 k1),(.int .i64 m1)])))
               else
                some (k,(A.wrp .i64 (A.zadd g 1)),v):Option (Int×Int×List D))).bind fun (u2,v2,w2) =>
              some (u2,v2,w2):Option (Int×Int×List D))).bind fun (y2,z2,a3) =>
            some (y2,z2,r,s,u,C,a3):Option (Int×Int×Int×Int×Int×Int×List D))).bind fun (b3,c3,d3,e3,g3,i3,j3) =>
          some (b3,c3,d3,e3,g3,i3,j3):Option (Int×Int×Int×Int×Int×Int×List D))).bind fun (k3,l3,m3,n3,o3,p3,q3) =>
        some (k3,l3,m3,n3,o3,p3,w,y,z,q3):Option (Int×Int×Int×Int×Int×Int×Int×Int×Int×List D))).bind fun (r3,s3,u3,v3,w3,y3,z3,a4,b4,c4) =>
      some (r3,s3,u3,v3,w3,y3,z3,a4,b4,c4):Option (Int×Int×Int×Int×Int×Int×Int×Int×Int×List D))).bind fun (d4,e4,g4,i4,j4,k4,l4,m4,n4,o4) =>
    some (d4,e4,g4,i4,j4,k4,l4,m4,n4,o4):Option (Int×Int×Int×Int×Int×Int×Int×Int×Int×List D))).bind fun (p4,q4,r4,s4,u4,v4,w4,y4,z4,a5) =>
  some (K,L,p4,q4,r4,s4,u4,v4,m,i,e,P,Q,R,S,U,w4,y4,z4,(A.wrp .i64 (A.zadd j 1)),a5,c1)
 else
  bif (A.zeq G 1) then
   (gt A (cL 1) L G).bind fun n1 =>
   (gt A (cI .i64) n1 i).bind fun m0 =>
   ((
    bif (A.zeq e 0) then
     (K116 A G K L k g V W X N O i e P Q R S U w y z j J M).bind fun m2 =>
     some (!m2)
    else
     some false:Option (Bool))).bind fun b5 =>
   ((
    bif b5 then
     (K117 A).bind fun () =>
     (ap A J [(.agg [(.int .i64 G),(.int .i64 0),(.int .i64 m0),(.int .i64 0),(.int .i64 (A.wrp .i64 (A.zadd (A.wrp .i64 (A.zmul 2 j)) 1))),(.int .i64 0)])]).bind fun c2 =>
     (ap A M [(.int .i64 0)]).bind fun d2 =>
     some (0,1,0,0,(A.len J),c2,d2)
    else
     some (P,Q,R,S,U,J,M):Option (Int×Int×Int×Int×Int×List D×List D))).bind fun (n,o,p,B,l,q,j0) =>
   ((
    bif (A.zlt 0 (A.len x2)) then
     (gt A (cI .i64) x2 m0).bind fun o1 =>
     some (A.zeq o1 e)
    else
     some false:Option (Bool))).bind fun c5 =>
   ((
    bif c5 then
     (ck (A.zle 0 l)).bind fun _ =>
     (ck (A.zlt l (A.len j0))).bind fun _ =>
     (gc A (cI .i64) j0 (A.nat l)).bind fun q7 =>
     some (A.lset j0 (A.nat l) (.int .i64 (A.wrp .i64 (A.zadd j 1))))
    else
     some j0:Option (List D))).bind fun b1 =>
   (gt A (cL 4) K m0).bind fun p1 =>
   (gt A (cG (lc (cI .i64) (lc (cI .i64) (lc (cI .i64) (l1 (cI .i64)))))) p1 e).bind fun (E,a,c,b0) =>
   ((
    bif (A.zeq E 1) then
     (ck (A.zle 0 c)).bind fun _ =>
     (ck (A.zlt c (Int.ofNat 3))).bind fun _ =>
     (gc A (cI .i64) [(.int .i64 w),(.int .i64 y),(.int .i64 z)] (A.nat c)).bind fun c0 =>
     (ck (A.zle 0 a)).bind fun _ =>
     (ck (A.zlt a (Int.ofNat 4))).bind fun _ =>
     some (i,(A.wrp .i64 (A.zadd e 1)),(bif A.zeq a (Int.ofNat 0) then c0 else n),(bif A.zeq a (Int.ofNat 1) then c0 else o),(bif A.zeq a (Int.ofNat 2) then c0 else p),(bif A.zeq a (Int.ofNat 3) then c0 else B),w,y,z,q)
    else
     ((
      bif (A.zeq E 2) then
       (ck (A.zle 0 c)).bind fun _ =>
       (ck (A.zlt c (Int.ofNat 4))).bind fun _ =>
       (gc A (cI .i64) [(.int .i64 n),(.int .i64 o),(.int .i64 p),(.int .i64 B)] (A.nat c)).bind fun n0 =>
       (ck (A.zle 0 a)).bind fun _ =>
       (ck (A.zlt a (Int.ofNat 3))).bind fun _ =>
       some (i,(A.wrp .i64 (A.zadd e 1)),n,o,p,B,(bif A.zeq a (Int.ofNat 0) then n0 else w),(bif A.zeq a (Int.ofNat 1) then n0 else y),(bif A.zeq a (Int.ofNat 2) then n0 else z),q)
      else
       ((
        bif (A.zeq E 3) then
         (K118a A E a c b0 K L k g V W X N O i (A.wrp .i64 (A.zadd e 1)) n o p B l w y z (A.wrp .i64 (A.zadd j 1)) q b1).bind fun (n2,o2,p2,q2) =>
         some (i,(A.wrp .i64 (A.zadd e 1)),n,o,p,n2,o2,p2,q2,q)
        else
         ((
          bif (A.zeq E 4) then
           (ck (A.zle 0 a)).bind fun _ =>
           (ck (A.zlt a (Int.ofNat 4))).bind fun _ =>
           some (i,(A.wrp .i64 (A.zadd e 1)),(bif A.zeq a (Int.ofNat 0) then c else n),(bif A.zeq a (Int.ofNat 1) then c else o),(bif A.zeq a (Int.ofNat 2) then c else p),(bif A.zeq a (Int.ofNat 3) then c else B),q)
          else
           ((
            bif (A.zeq E 5) then
             (ck (A.zle 0 c)).bind fun _ =>
             (ck (A.zlt c (Int.ofNat 4))).bind fun _ =>
             (gc A (cI .i64) [(.int .i64 n),(.int .i64 o),(.int .i64 p),(.int .i64 B)] (A.nat c)).bind fun d0 =>
             (ck (A.zle 0 b0)).bind fun _ =>
             (ck (A.zlt b0 (Int.ofNat 4))).bind fun _ =>
             (gc A (cI .i64) [(.int .i64 n),(.int .i64 o),(.int .i64 p),(.int .i64 B)] (A.nat b0)).bind fun e0 =>
             (nk (A.zeq 10 0)).bind fun _ =>
             (ck (A.zle 0 a)).bind fun _ =>
             (ck (A.zlt a (Int.ofNat 4))).bind fun _ =>
             some (i,(A.wrp .i64 (A.zadd e 1)),(bif A.zeq a (Int.ofNat 0) then (A.rem (A.wrp .i64 (A.zadd d0 e0)) 10) else n),(bif A.zeq a (Int.ofNat 1) then (A.rem (A.wrp .i64 (A.zadd d0 e0)) 10) else o),(bif A.zeq a (Int.ofNat 2) then (A.rem (A.wrp .i64 (A.zadd d0 e0)) 10) else p),(bif A.zeq a (Int.ofNat 3) then (A.rem (A.wrp .i64 (A.zadd d0 e0)) 10) else B),q)
            else
             ((
              bif (A.zeq E 6) then
               (ck (A.zle 0 a)).bind fun _ =>
               (ck (A.zlt a (Int.ofNat 4))).bind fun _ =>
               (gc A (cI .i64) [(.int .i64 n),(.int .i64 o),(.int .i64 p),(.int .i64 B)] (A.nat a)).bind fun r1 =>
               ((
                bif (A.zeq r1 0) then
                 some c
                else
                 some (A.wrp .i64 (A.zadd e 1)):Option (Int))).bind fun d5 =>
               some (i,d5,q)
              else
               ((
                bif (A.zeq E 7) then
                 (ck (A.zle 0 l)).bind fun _ =>
                 (ck (A.zlt l (A.len q))).bind fun _ =>
                 (ck (A.zle 0 a)).bind fun _ =>
                 (ck (A.zlt a (Int.ofNat 4))).bind fun _ =>
                 (gc A (cI .i64) [(.int .i64 n),(.int .i64 o),(.int .i64 p),(.int .i64 B)] (A.nat a)).bind fun s1 =>
                 (gc A (cG (lc (cI .i64) (lc (cI .i64) (lc (cI .i64) (lc (cI .i64) (lc (cI .i64) (l1 (cI .i64)))))))) q (A.nat l)).bind fun (v0,w0,y0,z0,a1,r7) =>
                 (gc A (cG (lc (cI .i64) (lc (cI .i64) (lc (cI .i64) (lc (cI .i64) (lc (cI .i64) (l1 (cI .i64)))))))) (A.lset q (A.nat l) (.agg [(.int .i64 v0),(.int .i64 w0),(.int .i64 y0),(.int .i64 z0),(.int .i64 a1),(.int .i64 (A.wrp .i64 (A.zmul 2 (A.wrp .i64 (A.zadd j 1)))))])) (A.nat l)).bind fun (u1,v1,w1,s7,y1,z1) =>
                 some ((A.wrp .i64 (A.zadd i 1)),0,(A.lset (A.lset q (A.nat l) (.agg [(.int .i64 v0),(.int .i64 w0),(.int .i64 y0),(.int .i64 z0),(.int .i64 a1),(.int .i64 (A.wrp .i64 (A.zmul 2 (A.wrp .i64 (A.zadd j 1)))))])) (A.nat l) (.agg [(.int .i64 u1),(.int .i64 v1),(.int .i64 w1),(.int .i64 s1),(.int .i64 y1),(.int .i64 z1)])))
                else
                 some (i,(A.wrp .i64 (A.zadd e 1)),q):Option (Int×Int×List D))).bind fun (e5,g5,i5) =>
               some (e5,g5,i5):Option (Int×Int×List D))).bind fun (j5,k5,m5) =>
             some (j5,k5,n,o,p,B,m5):Option (Int×Int×Int×Int×Int×Int×List D))).bind fun (n5,o5,p5,q5,r5,s5,u5) =>
           some (n5,o5,p5,q5,r5,s5,u5):Option (Int×Int×Int×Int×Int×Int×List D))).bind fun (v5,w5,y5,z5,a6,b6,c6) =>
         some (v5,w5,y5,z5,a6,b6,w,y,z,c6):Option (Int×Int×Int×Int×Int×Int×Int×Int×Int×List D))).bind fun (d6,e6,g6,i6,j6,k6,l6,m6,n6,o6) =>
       some (d6,e6,g6,i6,j6,k6,l6,m6,n6,o6):Option (Int×Int×Int×Int×Int×Int×Int×Int×Int×List D))).bind fun (p6,q6,r6,s6,u6,v6,w6,y6,z6,a7) =>
     some (p6,q6,r6,s6,u6,v6,w6,y6,z6,a7):Option (Int×Int×Int×Int×Int×Int×Int×Int×Int×List D))).bind fun (b7,c7,d7,e7,g7,i7,j7,k7,l7,m7) =>
   some (K,L,k,g,V,W,X,N,O,b7,c7,d7,e7,g7,i7,l,j7,k7,l7,(A.wrp .i64 (A.zadd j 1)),m7,b1)
  else
   none

def K104L0 (A:Ar) (E x4:List D):(Int×List D×List D×Int×Int×Int×Int×Int×Int×Int×Int×Int×Int×Int×Int×Int×Int×Int×Int×Int×Int×List D×List D)->Option ((Int×List D×List D×Int×Int×Int×Int×Int×Int×Int×Int×Int×Int×Int×Int×Int×Int×Int×Int×Int×Int×List D×List D)⊕((List D×List D×Int×Int×Int×Int×Int×Int×Int×Int×Int×Int×Int×Int×Int×Int×Int×Int×Int×Int×List D×List D)⊕(List D×List D×Int×Int×Int×Int×Int×Int×Int×Int×Int×Int×Int×Int×Int×Int×Int×Int×Int×Int×List D×List D×List D×List D×Int×Int×Int×Int×Int×Int×Int×Int×Int×Int×Int×Int×Int×Int×Int×Int×Int×Int×List D×List D))):=fun (B,a,b,c,d,e,g,i,j,k,l,m,n,o,p,q,r,s,u,v,w,y,z) =>
 bif (A.zlt B (A.len E)) then
  (gt A (cI .i64) E B).bind fun C =>
  (K70 A C a b c d e g i j k l m n o p q r s u v w y z).bind fun F =>
  bif F then
   (K71 A C x4 a b c d e g i j k l m n o p q r s u v w y z).bind fun (G,J,K,L,M,N,O,P,Q,R,S,U,V,W,X,Y,a0,b0,c0,d0,e0,g0) =>
   some (.inl ((A.wrp .i64 (A.zadd B 1)),G,J,K,L,M,N,O,P,Q,R,S,U,V,W,X,Y,a0,b0,c0,d0,e0,g0))
  else
   some (.inr (.inr (a,b,c,d,e,g,i,j,k,l,m,n,o,p,q,r,s,u,v,w,y,z,a,b,c,d,e,g,i,j,k,l,m,n,o,p,q,r,s,u,v,w,y,z)))
 else
  some (.inr (.inl (a,b,c,d,e,g,i,j,k,l,m,n,o,p,q,r,s,u,v,w,y,z)))

/-- lineal code.done -/
def K104 (A:Ar) (x1 x2 c x4:List D):Option (List D×List D×Int×Int×Int×Int×Int×Int×Int×Int×Int×Int×Int×Int×Int×Int×Int×Int×Int×Int×List D×List D×Bool) :=
 (K69 A x1 x2).bind fun (a,b) =>
 bif (A.zlt 12 (A.len c)) then
  some (a,b,0,0,0,0,0,0,0,0,0,0,0,0,0,0,0,0,0,0,[],[],false)
 else
  (iter (K104L0 A c x4) (0,a,b,0,0,0,0,0,0,0,0,0,0,0,0,0,0,0,0,0,0,[],[])).bind (Sum.elim (fun (Y,a0,b0,c0,d0,e0,d,e,g,i,j,k,l,m,n,o,p,q,r,s,u,v) =>
   some (Y,a0,b0,c0,d0,e0,d,e,g,i,j,k,l,m,n,o,p,q,r,s,u,v,true)) (fun (w,y,z,B,C,E,F,G,J,K,L,M,N,O,P,Q,R,S,U,V,W,X,g0,i0,j0,k0,l0,m0,n0,o0,p0,q0,r0,s0,u0,v0,w0,y0,z0,a1,b1,c1,d1,e1) =>
   some (w,y,z,B,C,E,F,G,J,K,L,M,N,O,P,Q,R,S,U,V,W,X,false)))

/-- lineal code.Run$1 -/
def K45 (A:Ar) (b o:List D) (s u v w y z B c d e g i j k l m n p:Int) (a q r:List D):Option (List D) :=
 some a

/-- lineal code.behind -/
def K44 (A:Ar) (b c J K:List D):Option ((List D)⊕(Int)) :=
 (K89 A b c).bind fun a =>
 bif (A.zeq a 0) then
  (K104 A b c J []).bind fun (G,d,e,g,i,j,k,l,m,n,o,p,q,r,s,u,v,w,y,z,B,C,E) =>
  bif E then
   (K45 A G d e g i j k l m n o p q r s u v w y z B C K).bind fun F =>
   some (.inl F)
  else
   some (.inr 2)
 else
  some (.inr a)

/-- lineal code.Run -/
def K13 (A:Ar) (e g i:List D):Option (List D×Int) :=
 ((
  (K44 A e g i []).bind (Sum.elim (fun a =>
   some (0,a)) (fun b =>
   some (b,[]))):Option (Int×List D))).bind fun (c,d) =>
 some (d,c)

/-- lineal lineallaw08.Sane -/
def K10 (A:Ar):Option (Bool) :=
 (K13 A [(.list 4 [(.agg [(.int .i64 1),(.int .i64 0),(.int .i64 0),(.int .i64 0)]),(.agg [(.int .i64 5),(.int .i64 2),(.int .i64 0),(.int .i64 1)]),(.agg [(.int .i64 2),(.int .i64 0),(.int .i64 2),(.int .i64 0)]),(.agg [(.int .i64 7),(.int .i64 0),(.int .i64 0),(.int .i64 0)])])] [(.list 1 [(.int .i64 0)]),(.list 1 [(.int .i64 0)])] [(.int .i64 0),(.int .i64 0),(.int .i64 1),(.int .i64 1),(.int .i64 0),(.int .i64 0),(.int .i64 1),(.int .i64 1)]).bind fun (a,p) =>
 ((
  bif (A.zeq p 0) then
   bif (A.zeq (A.len a) 2) then
    (gc A (cG (lc (cI .i64) (lc (cI .i64) (lc (cI .i64) (lc (cI .i64) (lc (cI .i64) (l1 (cI .i64)))))))) a 0).bind fun (l,m,n,o,b,c) =>
    bif (A.deq [(.int .i64 l),(.int .i64 m),(.int .i64 n),(.int .i64 o),(.int .i64 b),(.int .i64 c)] [(.int .i64 0),(.int .i64 0),(.int .i64 0),(.int .i64 0),(.int .i64 1),(.int .i64 12)]) then
     (gc A (cG (lc (cI .i64) (lc (cI .i64) (lc (cI .i64) (lc (cI .i64) (lc (cI .i64) (l1 (cI .i64)))))))) a 1).bind fun (d,e,g,i,j,k) =>
     some (A.deq [(.int .i64 d),(.int .i64 e),(.int .i64 g),(.int .i64 i),(.int .i64 j),(.int .i64 k)] [(.int .i64 1),(.int .i64 0),(.int .i64 0),(.int .i64 0),(.int .i64 5),(.int .i64 16)])
    else
     some false
   else
    some false
  else
   some false:Option (Bool))).bind fun q =>
 some q

/-- lineal code.isSteps -/
def K84 (A:Ar) (b:Int):Option (Bool) :=
 (K47 A 0 b 12).bind fun a =>
 some a

/--  *lineal code.run .has -/
def K70a (A:Ar) (a:Int) (u b:List D) (j B C E F G k i l m n o p q r s v w:Int) (y z:List D):Option (Bool) :=
 ((
  (K47 A 0 a (A.wrp .i64 (A.zsub (A.len b) 1))).bind fun e =>
  bif e then
   bif (A.zeq a 0) then
    (gt A (cL 1) b a).bind fun c =>
    some (A.zlt j (A.len c))
   else
    bif (A.zeq a 1) then
     (gt A (cL 1) b a).bind fun d =>
     some (A.zlt i (A.len d))
    else
     none
  else
   some false:Option (Bool))).bind fun g =>
 some g

def K56L0 (A:Ar) (i c:List D) (y z B C E F G j k l m n o p q r s u:Int) (v w:List D):(List D×Int)->Option ((List D×Int)⊕(List D)):=fun (b,a) =>
 bif (A.zlt a (A.len c)) then
  (K70a A a i c y z B C E F G j k l m n o p q r s u v w).bind fun e =>
  ((
   bif e then
    (ap A b [(.int .i64 a)]).bind fun d =>
    some d
   else
    some b:Option (List D))).bind fun g =>
  some (.inl (g,(A.wrp .i64 (A.zadd a 1))))
 else
  some (.inr b)

/--  *lineal code.run .left -/
def K56 (A:Ar) (b o:List D) (s u v w y z B c d e g i j k l m n p:Int) (q r:List D):Option (List D) :=
 (iter (K56L0 A b o s u v w y z B c d e g i j k l m n p q r) ([],0)).bind (fun a =>
 some a)

/-- lineal code.Schedules$1 -/
def K90 (A:Ar) (b o:List D) (u v w y z B C c d e g i j k l m n p:Int) (q r s:List D) (a:Int):Option (Int) :=
 some (A.wrp .i64 (A.zadd a 1))

/-- slices.Clone   lineal api.Call lineal api.Call  -/
def K146 (A:Ar) (a:List D):Option (List D) :=
 bif (A.zlt 0 (A.len a)) then
  (ap A [] a).bind fun b =>
  some b
 else
  both (
   some []) (
   (ap A [] a).bind fun c =>
   some c)

/-- slices.Clone   int int  -/
def K54 (A:Ar) (a:List D):Option (List D) :=
 bif (A.zlt 0 (A.len a)) then
  (ap A [] a).bind fun b =>
  some b
 else
  both (
   some []) (
   (ap A [] a).bind fun c =>
   some c)

/--  lineal code.run .clone -/
def K124 (A:Ar) (c p:List D) (u v w y z B C d e g i j k l m n o q:Int) (r s:List D):Option (List D×List D×Int×Int×Int×Int×Int×Int×Int×Int×Int×Int×Int×Int×Int×Int×Int×Int×Int×Int×List D×List D) :=
 (K146 A r).bind fun a =>
 (ck (scalars a)).bind fun _ =>
 (K54 A s).bind fun b =>
 (ck (scalars b)).bind fun _ =>
 some (c,p,u,v,w,y,z,B,C,d,e,g,i,j,k,l,m,n,o,q,a,b)

def K85aL0 (A:Ar) (x1 x2:List D) (x3 x4 x5 x6 x7 x8 x9 o0 p0 q0 r0 s0 u0 v0 w0 y0 z0 a1:Int) (b1 c1:List D) (d1:Int) (K a G:List D) (self52:List D->List D->Int->Int->Int->Int->Int->Int->Int->Int->Int->Int->Int->Int->Int->Int->Int->Int->Int->Int->List D->List D->Int->List D->List D->Int->(Option (Bool×Int))):(Int×Int)->Option ((Int×Int)⊕((Int)⊕(Int×List D×List D×Int×Int×Int×Int×Int×Int×Int×Int×Int×Int×Int×Int×Int×Int×Int×Int×Int×Int×List D×List D))):=fun (b,J) =>
 bif (A.zlt b (A.len G)) then
  (gt A (cI .i64) G b).bind fun c =>
  (K124 A x1 x2 x3 x4 x5 x6 x7 x8 x9 o0 p0 q0 r0 s0 u0 v0 w0 y0 z0 a1 b1 c1).bind fun (N,O,P,Q,R,S,U,V,W,X,Y,a0,b0,c0,d0,e0,g0,i0,j0,k0,l0,m0) =>
  (K71 A c K N O P Q R S U V W X Y a0 b0 c0 d0 e0 g0 i0 j0 k0 l0 m0).bind fun (d,e,g,i,j,k,l,m,n,o,p,q,r,s,u,v,w,y,z,B,C,E) =>
  (sl A a 0 (A.len a)).bind fun L =>
  (ck (A.zeq (A.len a) (A.len a))).bind fun _ =>
  (ap A L [(.int .i64 c)]).bind fun M =>
  (self52 d e g i j k l m n o p q r s u v w y z B C E d1 K M J).bind fun (n0,F) =>
  bif n0 then
   some (.inl ((A.wrp .i64 (A.zadd b 1)),F))
  else
   some (.inr (.inr (F,d,e,g,i,j,k,l,m,n,o,p,q,r,s,u,v,w,y,z,B,C,E)))
 else
  some (.inr (.inl J))

/--  lineal code.run .all -/
def K85aB (A:Ar) (self52:List D->List D->Int->Int->Int->Int->Int->Int->Int->Int->Int->Int->Int->Int->Int->Int->Int->Int->Int->Int->List D->List D->Int->List D->List D->Int->(Option (Bool×Int))) (b o:List D) (r s u v w y z c d e g i j k l m n a:Int) (p q:List D) (C:Int) (M E:List D) (F:Int):Option (Bool×Int) :=
 (K56 A b o r s u v w y z c d e g i j k l m n a p q).bind fun B =>
 ((
  bif (A.zeq (A.len B) 0) then
   some true
  else
   some (A.zeq a C):Option (Bool))).bind fun L =>
 bif L then
  (K90 A b o r s u v w y z c d e g i j k l m n a p q E F).bind fun G =>
  some (true,G)
 else
  (iter (K85aL0 A b o r s u v w y z c d e g i j k l m n a p q C M E B self52) (0,F)).bind (Sum.elim (fun J =>
   some (true,J)) (fun (K,N,O,P,Q,R,S,U,V,W,X,Y,a0,b0,c0,d0,e0,g0,i0,j0,k0,l0,m0) =>
   some (false,K)))

def K85aR (A:Ar):Nat->List D->List D->Int->Int->Int->Int->Int->Int->Int->Int->Int->Int->Int->Int->Int->Int->Int->Int->Int->Int->List D->List D->Int->List D->List D->Int->(Option (Bool×Int))
 | 0=>fun _ _ _ _ _ _ _ _ _ _ _ _ _ _ _ _ _ _ _ _ _ _ _ _ _ _=>none
 | n+1=>fun a o y z B C E F G b c d e g i j k l m p q r s u v w=>K85aB A (K85aR A n) a o y z B C E F G b c d e g i j k l m p q r s u v w

def K85a (A:Ar) (a n:List D) (w y z B C E F b c d e g i j k l m o:Int) (p q:List D) (r:Int) (s u:List D) (v:Int):Option (Bool×Int):=K85aR A fuel a n w y z B C E F b c d e g i j k l m o p q r s u v

def K85L0 (A:Ar) (x1 x2:List D) (x3 x4 x5 x6 x7 x8 x9 o0 p0 q0 r0 s0 u0 v0 w0 y0 z0 a1 b1:Int) (K a c1 d1 G:List D):(Int×Int)->Option ((Int×Int)⊕((Int)⊕(Int×List D×List D×Int×Int×Int×Int×Int×Int×Int×Int×Int×Int×Int×Int×Int×Int×Int×Int×Int×Int×List D×List D))):=fun (b,J) =>
 bif (A.zlt b (A.len G)) then
  (gt A (cI .i64) G b).bind fun c =>
  (K124 A x1 x2 x3 x4 x5 x6 x7 x8 x9 o0 p0 q0 r0 s0 u0 v0 w0 y0 z0 a1 c1 d1).bind fun (N,O,P,Q,R,S,U,V,W,X,Y,a0,b0,c0,d0,e0,g0,i0,j0,k0,l0,m0) =>
  (K71 A c K N O P Q R S U V W X Y a0 b0 c0 d0 e0 g0 i0 j0 k0 l0 m0).bind fun (d,e,g,i,j,k,l,m,n,o,p,q,r,s,u,v,w,y,z,B,C,E) =>
  (sl A a 0 (A.len a)).bind fun L =>
  (ck (A.zeq (A.len a) (A.len a))).bind fun _ =>
  (ap A L [(.int .i64 c)]).bind fun M =>
  (K85a A d e g i j k l m n o p q r s u v w y z B C E b1 K M J).bind fun (n0,F) =>
  bif n0 then
   some (.inl ((A.wrp .i64 (A.zadd b 1)),F))
  else
   some (.inr (.inr (F,d,e,g,i,j,k,l,m,n,o,p,q,r,s,u,v,w,y,z,B,C,E)))
 else
  some (.inr (.inl J))

/--  lineal code.run .all -/
def K85 (A:Ar) (b o:List D) (r s u v w y z c d e g i j k l m n a C:Int) (M E:List D) (F:Int) (p q:List D):Option (Bool×Int) :=
 (K56 A b o r s u v w y z c d e g i j k l m n a p q).bind fun B =>
 ((
  bif (A.zeq (A.len B) 0) then
   some true
  else
   some (A.zeq a C):Option (Bool))).bind fun L =>
 bif L then
  (K90 A b o r s u v w y z c d e g i j k l m n a p q E F).bind fun G =>
  some (true,G)
 else
  (iter (K85L0 A b o r s u v w y z c d e g i j k l m n a C M E p q B) (0,F)).bind (Sum.elim (fun J =>
   some (true,J)) (fun (K,N,O,P,Q,R,S,U,V,W,X,Y,a0,b0,c0,d0,e0,g0,i0,j0,k0,l0,m0) =>
   some (false,K)))

/-- lineal code.Schedules -/
def K36 (A:Ar) (b c:List D) (d:Int):Option (Int×Int) :=
 (K89 A b c).bind fun a =>
 bif (A.zeq a 0) then
  (K84 A d).bind fun j =>
  bif j then
   (K69 A b c).bind fun (e,g) =>
   (K85 A e g 0 0 0 0 0 0 0 0 0 0 0 0 0 0 0 0 0 0 d [] [] 0 [] []).bind fun (k,i) =>
   some (i,0)
  else
   some (0,2)
 else
  some (0,a)

/-- lineal linealref08.within -/
def K51 (A:Ar) (c a d:Int):Option (Bool) :=
 ((
  bif (A.zle c a) then
   some (A.zle a d)
  else
   some false:Option (Bool))).bind fun b =>
 some b

/-- lineal linealref08.isRegister -/
def K111 (A:Ar) (b:Int):Option (Bool) :=
 (K51 A 0 b 3).bind fun a =>
 some a

/-- lineal linealref08.isCell -/
def K82 (A:Ar) (b:Int):Option (Bool) :=
 (K51 A 0 b 2).bind fun a =>
 some a

/-- lineal linealref08.isNumber -/
def K112 (A:Ar) (b:Int):Option (Bool) :=
 (K51 A 0 b 9).bind fun a =>
 some a

/-- lineal linealref08.isLine -/
def K52 (A:Ar) (a b c d G:Int):Option (Bool) :=
 bif (A.zeq a 1) then
  ((
   (K111 A b).bind fun v =>
   bif v then
    (K82 A c).bind fun e =>
    bif e then
     some (A.zeq d 0)
    else
     some false
   else
    some false:Option (Bool))).bind fun w =>
  some w
 else
  bif (A.zeq a 2) then
   ((
    (K82 A b).bind fun g =>
    bif g then
     (K111 A c).bind fun i =>
     bif i then
      some (A.zeq d 0)
     else
      some false
    else
     some false:Option (Bool))).bind fun y =>
   some y
  else
   bif (A.zeq a 3) then
    ((
     (K82 A b).bind fun j =>
     bif j then
      (K111 A c).bind fun k =>
      bif k then
       (K111 A d).bind fun l =>
       some l
      else
       some false
     else
      some false:Option (Bool))).bind fun z =>
    some z
   else
    bif (A.zeq a 4) then
     ((
      (K111 A b).bind fun m =>
      bif m then
       (K112 A c).bind fun n =>
       bif n then
        some (A.zeq d 0)
       else
        some false
      else
       some false:Option (Bool))).bind fun B =>
     some B
    else
     bif (A.zeq a 5) then
      ((
       (K111 A b).bind fun o =>
       bif o then
        (K111 A c).bind fun p =>
        bif p then
         (K111 A d).bind fun q =>
         some q
        else
         some false
       else
        some false:Option (Bool))).bind fun C =>
      some C
     else
      bif (A.zeq a 6) then
       ((
        (K111 A b).bind fun r =>
        bif r then
         (K51 A 0 c (A.wrp .i64 (A.zsub G 1))).bind fun s =>
         bif s then
          some (A.zeq d 0)
         else
          some false
        else
         some false:Option (Bool))).bind fun E =>
       some E
      else
       bif (A.zeq a 7) then
        ((
         (K111 A b).bind fun u =>
         bif u then
          bif (A.zeq c 0) then
           some (A.zeq d 0)
          else
           some false
         else
          some false:Option (Bool))).bind fun F =>
        some F
       else
        some false

def K16L0 (A:Ar) (a:List D):Int->Option ((Int)⊕((Unit)⊕(Unit))):=fun b =>
 bif (A.zlt b (A.len a)) then
  (gt A (cG (lc (cI .i64) (lc (cI .i64) (lc (cI .i64) (l1 (cI .i64)))))) a b).bind fun (c,d,e,g) =>
  (K52 A c d e g (A.len a)).bind fun i =>
  bif i then
   some (.inl (A.wrp .i64 (A.zadd b 1)))
  else
   some (.inr (.inr ()))
 else
  some (.inr (.inl ()))

def K16L1 (A:Ar) (c:List D):Int->Option ((Int)⊕((Unit)⊕(Unit))):=fun b =>
 bif (A.zlt b (A.len c)) then
  (gt A (cL 4) c b).bind fun a =>
  (K51 A 1 (A.len a) 8).bind fun e =>
  bif e then
   (iter (K16L0 A a) 0).bind (Sum.elim (fun _ =>
    (gt A (cG (lc (cI .i64) (lc (cI .i64) (lc (cI .i64) (l1 (cI .i64)))))) a (A.wrp .i64 (A.zsub (A.len a) 1))).bind fun (d,g,i,j) =>
    bif (A.zeq d 7) then
     some (.inl (A.wrp .i64 (A.zadd b 1)))
    else
     some (.inr (.inr ()))) (fun _ =>
    some (.inr (.inr ()))))
  else
   some (.inr (.inr ()))
 else
  some (.inr (.inl ()))

/-- lineal linealref08.Valid -/
def K16 (A:Ar) (a:List D):Option (Bool) :=
 (K51 A 1 (A.len a) 4).bind fun b =>
 bif b then
  (iter (K16L1 A a) 0).bind (Sum.elim (fun _ =>
   some true) (fun _ =>
   some false))
 else
  some false

def K43L0 (A:Ar) (e b:List D):Int->Option ((Int)⊕((Unit)⊕(Unit))):=fun a =>
 bif (A.zlt a (A.len b)) then
  (gt A (cI .i64) b a).bind fun c =>
  (K51 A 0 c (A.wrp .i64 (A.zsub (A.len e) 1))).bind fun d =>
  bif d then
   some (.inl (A.wrp .i64 (A.zadd a 1)))
  else
   some (.inr (.inr ()))
 else
  some (.inr (.inl ()))

def K43L1 (A:Ar) (d c:List D):Int->Option ((Int)⊕((Unit)⊕(Unit))):=fun a =>
 bif (A.zlt a (A.len c)) then
  (gt A (cL 1) c a).bind fun b =>
  bif (A.zlt 3 (A.len b)) then
   some (.inr (.inr ()))
  else
   (iter (K43L0 A d b) 0).bind (Sum.elim (fun _ =>
    some (.inl (A.wrp .i64 (A.zadd a 1)))) (fun _ =>
    some (.inr (.inr ()))))
 else
  some (.inr (.inl ()))

/-- lineal linealref08.IsUse -/
def K43 (A:Ar) (c a:List D):Option (Bool) :=
 (K51 A 1 (A.len a) 2).bind fun b =>
 bif b then
  (iter (K43L1 A c a) 0).bind (Sum.elim (fun _ =>
   some true) (fun _ =>
   some false))
 else
  some false

/-- lineal linealref08.asked -/
def K105 (A:Ar) (a d:List D):Option (Int) :=
 (K16 A a).bind fun b =>
 bif b then
  (K43 A a d).bind fun c =>
  bif c then
   some 0
  else
   some 81
 else
  some 80

/-- lineal linealref08.counted -/
def K91 (A:Ar) (e g:List D) (i:Int):Option (Int) :=
 (K105 A e g).bind fun a =>
 ((
  bif (A.zeq a 0) then
   (K51 A 0 i 12).bind fun b =>
   some (!b)
  else
   some false:Option (Bool))).bind fun d =>
 ((
  bif d then
   some 2
  else
   some a:Option (Int))).bind fun c =>
 some c

/-- lineal linealref08.Begin -/
def K76 (A:Ar) (b a c:List D):Option (List D×List D×List D×List D) :=
 (ck (A.zeq (A.len a) (A.len a))).bind fun _ =>
 (ck (A.zle 0 (A.len a))).bind fun _ =>
 (ck (A.fits (A.len a))).bind fun _ =>
 some (b,a,c,(A.rep (A.len a) (.agg [(.int .i64 0),(.int .i64 0),(.bool false),(.int .i64 0),(.int .i64 0),(.int .i64 0),(.int .i64 0),(.int .i64 0)])))

/--  *lineal linealref08.Play .HasLine -/
def K57 (A:Ar) (p g r i:List D) (s u v w:Int) (y q:List D) (a:Int):Option (Bool) :=
 ((
  (gt A (cG (lc (cI .i64) (lc (cI .i64) (lc cB (lc (cI .i64) (lc (cI .i64) (lc (cI .i64) (lc (cI .i64) (l1 (cI .i64)))))))))) i a).bind fun (b,j,c,k,l,m,n,o) =>
  bif c then
   some true
  else
   (gt A (cL 1) g a).bind fun d =>
   some (A.zlt b (A.len d)):Option (Bool))).bind fun e =>
 some e

def K77L0 (A:Ar) (d b g i:List D) (j k l m:Int) (n e:List D):Int->Option ((Int)⊕((Unit)⊕(Unit))):=fun a =>
 bif (A.zlt a (A.len b)) then
  (K57 A d b g i j k l m n e a).bind fun c =>
  bif c then
   some (.inr (.inr ()))
  else
   some (.inl (A.wrp .i64 (A.zadd a 1)))
 else
  some (.inr (.inl ()))

/--  *lineal linealref08.Play .Over -/
def K77 (A:Ar) (a c d e:List D) (g i j k:Int) (l b:List D):Option (Bool) :=
 (iter (K77L0 A a c d e g i j k l b) 0).bind (Sum.elim (fun _ =>
  some true) (fun _ =>
  some false))

/--  *lineal linealref08.Play .copied -/
def K150 (A:Ar) (d g i j:List D) (k l m n:Int) (o e:List D):Option (List D×List D×List D×Int×Int×Int×Int×List D×List D×List D) :=
 (ap A [] j).bind fun a =>
 (ap A [] o).bind fun b =>
 (ap A [] e).bind fun c =>
 some (d,g,i,k,l,m,n,a,b,c)

/--  *lineal linealref08.Play .Step -/
def K78 (A:Ar) (a:Int) (x2 x3 x4:List D) (w r s u:Int) (y G n0:List D):Option (List D×List D×List D×Int×Int×Int×Int×List D×List D×List D) :=
 (ck (A.zle 0 a)).bind fun _ =>
 (ck (A.zlt a (A.len y))).bind fun _ =>
 (gc A (cG (lc (cI .i64) (lc (cI .i64) (lc cB (lc (cI .i64) (lc (cI .i64) (lc (cI .i64) (lc (cI .i64) (l1 (cI .i64)))))))))) y (A.nat a)).bind fun (b0,k4,k1,l4,m4,n4,o4,p4) =>
 ((
  bif k1 then
   some (y,G,n0)
  else
   (gt A (cL 1) x3 a).bind fun i2 =>
   (gc A (cG (lc (cI .i64) (lc (cI .i64) (lc cB (lc (cI .i64) (lc (cI .i64) (lc (cI .i64) (lc (cI .i64) (l1 (cI .i64)))))))))) (A.lset y (A.nat a) (.agg [(.int .i64 (A.wrp .i64 (A.zadd b0 1))),(.int .i64 0),(.bool true),(.int .i64 (A.len G)),(.int .i64 0),(.int .i64 1),(.int .i64 0),(.int .i64 0)])) (A.nat a)).bind fun (p2,v4,d5,i5,j5,k5,l5,m5) =>
   (gt A (cI .i64) i2 (A.wrp .i64 (A.zsub p2 1))).bind fun r2 =>
   (ap A G [(.agg [(.int .i64 a),(.int .i64 0),(.int .i64 r2),(.int .i64 0),(.int .i64 (A.wrp .i64 (A.zadd (A.wrp .i64 (A.zmul 2 w)) 1))),(.int .i64 0)])]).bind fun u2 =>
   (ap A n0 [(.int .i64 (-1))]).bind fun v2 =>
   some ((A.lset y (A.nat a) (.agg [(.int .i64 (A.wrp .i64 (A.zadd b0 1))),(.int .i64 0),(.bool true),(.int .i64 (A.len G)),(.int .i64 0),(.int .i64 1),(.int .i64 0),(.int .i64 0)])),u2,v2):Option (List D×List D×List D))).bind fun (g,o,F) =>
 (gc A (cG (lc (cI .i64) (lc (cI .i64) (lc cB (lc (cI .i64) (lc (cI .i64) (lc (cI .i64) (lc (cI .i64) (l1 (cI .i64)))))))))) g (A.nat a)).bind fun (i,d,j,c,k,l,m,n) =>
 (ck (A.zle 0 c)).bind fun _ =>
 (ck (A.zlt c (A.len o))).bind fun _ =>
 (gc A (cG (lc (cI .i64) (lc (cI .i64) (lc (cI .i64) (lc (cI .i64) (lc (cI .i64) (l1 (cI .i64)))))))) o (A.nat c)).bind fun (n5,o5,Y,p5,q5,r5) =>
 (gt A (cL 4) x2 Y).bind fun s2 =>
 (gt A (cG (lc (cI .i64) (lc (cI .i64) (lc (cI .i64) (l1 (cI .i64)))))) s2 d).bind fun (q,b,e,v) =>
 ((
  bif (A.zeq q 1) then
   (ck (A.zle 0 e)).bind fun _ =>
   (ck (A.zlt e (Int.ofNat 3))).bind fun _ =>
   (gc A (cI .i64) [(.int .i64 r),(.int .i64 s),(.int .i64 u)] (A.nat e)).bind fun E =>
   (ck (A.zle 0 b)).bind fun _ =>
   (ck (A.zlt b (Int.ofNat 4))).bind fun _ =>
   (gc A (cG (lc (cI .i64) (lc (cI .i64) (lc cB (lc (cI .i64) (lc (cI .i64) (lc (cI .i64) (lc (cI .i64) (l1 (cI .i64)))))))))) (A.lset g (A.nat a) (.agg [(.int .i64 i),(.int .i64 (A.wrp .i64 (A.zadd d 1))),(.bool j),(.int .i64 c),(.int .i64 k),(.int .i64 l),(.int .i64 m),(.int .i64 n)])) (A.nat a)).bind fun (o0,p0,q0,r0,s0,u0,v0,w0) =>
   some (r,s,u,(A.lset (A.lset g (A.nat a) (.agg [(.int .i64 i),(.int .i64 (A.wrp .i64 (A.zadd d 1))),(.bool j),(.int .i64 c),(.int .i64 k),(.int .i64 l),(.int .i64 m),(.int .i64 n)])) (A.nat a) (.agg [(.int .i64 o0),(.int .i64 p0),(.bool q0),(.int .i64 r0),(.int .i64 (bif A.zeq b (Int.ofNat 0) then E else s0)),(.int .i64 (bif A.zeq b (Int.ofNat 1) then E else u0)),(.int .i64 (bif A.zeq b (Int.ofNat 2) then E else v0)),(.int .i64 (bif A.zeq b (Int.ofNat 3) then E else w0))])),o)
  else
   ((
    bif (A.zeq q 2) then
     (ck (A.zle 0 e)).bind fun _ =>
     (ck (A.zlt e (Int.ofNat 4))).bind fun _ =>
     (gc A (cG (lc (cI .i64) (lc (cI .i64) (lc cB (lc (cI .i64) (lc (cI .i64) (lc (cI .i64) (lc (cI .i64) (l1 (cI .i64)))))))))) (A.lset g (A.nat a) (.agg [(.int .i64 i),(.int .i64 (A.wrp .i64 (A.zadd d 1))),(.bool j),(.int .i64 c),(.int .i64 k),(.int .i64 l),(.int .i64 m),(.int .i64 n)])) (A.nat a)).bind fun (e4,g4,i4,j4,y0,z0,a1,b1) =>
     (gc A (cI .i64) [(.int .i64 y0),(.int .i64 z0),(.int .i64 a1),(.int .i64 b1)] (A.nat e)).bind fun J =>
     (ck (A.zle 0 b)).bind fun _ =>
     (ck (A.zlt b (Int.ofNat 3))).bind fun _ =>
     some ((bif A.zeq b (Int.ofNat 0) then J else r),(bif A.zeq b (Int.ofNat 1) then J else s),(bif A.zeq b (Int.ofNat 2) then J else u),(A.lset g (A.nat a) (.agg [(.int .i64 i),(.int .i64 (A.wrp .i64 (A.zadd d 1))),(.bool j),(.int .i64 c),(.int .i64 k),(.int .i64 l),(.int .i64 m),(.int .i64 n)])),o)
    else
     ((
      bif (A.zeq q 3) then
       (ck (A.zle 0 b)).bind fun _ =>
       (ck (A.zlt b (Int.ofNat 3))).bind fun _ =>
       (gc A (cI .i64) [(.int .i64 r),(.int .i64 s),(.int .i64 u)] (A.nat b)).bind fun c1 =>
       (ck (A.zle 0 e)).bind fun _ =>
       (ck (A.zlt e (Int.ofNat 4))).bind fun _ =>
       (gc A (cG (lc (cI .i64) (lc (cI .i64) (lc cB (lc (cI .i64) (lc (cI .i64) (lc (cI .i64) (lc (cI .i64) (l1 (cI .i64)))))))))) (A.lset g (A.nat a) (.agg [(.int .i64 i),(.int .i64 (A.wrp .i64 (A.zadd d 1))),(.bool j),(.int .i64 c),(.int .i64 k),(.int .i64 l),(.int .i64 m),(.int .i64 n)])) (A.nat a)).bind fun (e1,g1,i1,j1,K,L,M,a0) =>
       (gc A (cI .i64) [(.int .i64 K),(.int .i64 L),(.int .i64 M),(.int .i64 a0)] (A.nat e)).bind fun d1 =>
       ((
        bif (A.zeq c1 d1) then
         (ck (A.zle 0 v)).bind fun _ =>
         (ck (A.zlt v (Int.ofNat 4))).bind fun _ =>
         (gc A (cI .i64) [(.int .i64 K),(.int .i64 L),(.int .i64 M),(.int .i64 a0)] (A.nat v)).bind fun N =>
         (ck (A.zle 0 b)).bind fun _ =>
         (ck (A.zlt b (Int.ofNat 3))).bind fun _ =>
         some (1,(bif A.zeq b (Int.ofNat 0) then N else r),(bif A.zeq b (Int.ofNat 1) then N else s),(bif A.zeq b (Int.ofNat 2) then N else u))
        else
         some (0,r,s,u):Option (Int×Int×Int×Int))).bind fun (w2,y2,z2,a3) =>
       some (y2,z2,a3,(A.lset (A.lset g (A.nat a) (.agg [(.int .i64 i),(.int .i64 (A.wrp .i64 (A.zadd d 1))),(.bool j),(.int .i64 c),(.int .i64 k),(.int .i64 l),(.int .i64 m),(.int .i64 n)])) (A.nat a) (.agg [(.int .i64 e1),(.int .i64 g1),(.bool i1),(.int .i64 j1),(.int .i64 K),(.int .i64 L),(.int .i64 M),(.int .i64 w2)])),o)
      else
       ((
        bif (A.zeq q 4) then
         (ck (A.zle 0 b)).bind fun _ =>
         (ck (A.zlt b (Int.ofNat 4))).bind fun _ =>
         (gc A (cG (lc (cI .i64) (lc (cI .i64) (lc cB (lc (cI .i64) (lc (cI .i64) (lc (cI .i64) (lc (cI .i64) (l1 (cI .i64)))))))))) (A.lset g (A.nat a) (.agg [(.int .i64 i),(.int .i64 (A.wrp .i64 (A.zadd d 1))),(.bool j),(.int .i64 c),(.int .i64 k),(.int .i64 l),(.int .i64 m),(.int .i64 n)])) (A.nat a)).bind fun (m1,n1,o1,p1,q1,r1,s1,u1) =>
         some ((A.lset (A.lset g (A.nat a) (.agg [(.int .i64 i),(.int .i64 (A.wrp .i64 (A.zadd d 1))),(.bool j),(.int .i64 c),(.int .i64 k),(.int .i64 l),(.int .i64 m),(.int .i64 n)])) (A.nat a) (.agg [(.int .i64 m1),(.int .i64 n1),(.bool o1),(.int .i64 p1),(.int .i64 (bif A.zeq b (Int.ofNat 0) then e else q1)),(.int .i64 (bif A.zeq b (Int.ofNat 1) then e else r1)),(.int .i64 (bif A.zeq b (Int.ofNat 2) then e else s1)),(.int .i64 (bif A.zeq b (Int.ofNat 3) then e else u1))])),o)
        else
         ((
          bif (A.zeq q 5) then
           (ck (A.zle 0 e)).bind fun _ =>
           (ck (A.zlt e (Int.ofNat 4))).bind fun _ =>
           (gc A (cG (lc (cI .i64) (lc (cI .i64) (lc cB (lc (cI .i64) (lc (cI .i64) (lc (cI .i64) (lc (cI .i64) (l1 (cI .i64)))))))))) (A.lset g (A.nat a) (.agg [(.int .i64 i),(.int .i64 (A.wrp .i64 (A.zadd d 1))),(.bool j),(.int .i64 c),(.int .i64 k),(.int .i64 l),(.int .i64 m),(.int .i64 n)])) (A.nat a)).bind fun (v1,w1,y1,z1,O,P,Q,R) =>
           (gc A (cI .i64) [(.int .i64 O),(.int .i64 P),(.int .i64 Q),(.int .i64 R)] (A.nat e)).bind fun z =>
           (ck (A.zle 0 v)).bind fun _ =>
           (ck (A.zlt v (Int.ofNat 4))).bind fun _ =>
           (gc A (cI .i64) [(.int .i64 O),(.int .i64 P),(.int .i64 Q),(.int .i64 R)] (A.nat v)).bind fun B =>
           (nk (A.zeq 10 0)).bind fun _ =>
           (ck (A.zle 0 b)).bind fun _ =>
           (ck (A.zlt b (Int.ofNat 4))).bind fun _ =>
           some ((A.lset (A.lset g (A.nat a) (.agg [(.int .i64 i),(.int .i64 (A.wrp .i64 (A.zadd d 1))),(.bool j),(.int .i64 c),(.int .i64 k),(.int .i64 l),(.int .i64 m),(.int .i64 n)])) (A.nat a) (.agg [(.int .i64 v1),(.int .i64 w1),(.bool y1),(.int .i64 z1),(.int .i64 (bif A.zeq b (Int.ofNat 0) then (A.rem (A.wrp .i64 (A.zadd z B)) 10) else O)),(.int .i64 (bif A.zeq b (Int.ofNat 1) then (A.rem (A.wrp .i64 (A.zadd z B)) 10) else P)),(.int .i64 (bif A.zeq b (Int.ofNat 2) then (A.rem (A.wrp .i64 (A.zadd z B)) 10) else Q)),(.int .i64 (bif A.zeq b (Int.ofNat 3) then (A.rem (A.wrp .i64 (A.zadd z B)) 10) else R))])),o)
          else
           ((
            bif (A.zeq q 6) then
             (ck (A.zle 0 b)).bind fun _ =>
             (ck (A.zlt b (Int.ofNat 4))).bind fun _ =>
             (gc A (cG (lc (cI .i64) (lc (cI .i64) (lc cB (lc (cI .i64) (lc (cI .i64) (lc (cI .i64) (lc (cI .i64) (l1 (cI .i64)))))))))) (A.lset g (A.nat a) (.agg [(.int .i64 i),(.int .i64 (A.wrp .i64 (A.zadd d 1))),(.bool j),(.int .i64 c),(.int .i64 k),(.int .i64 l),(.int .i64 m),(.int .i64 n)])) (A.nat a)).bind fun (b2,q4,c2,d2,c0,d0,e0,g0) =>
             (gc A (cI .i64) [(.int .i64 c0),(.int .i64 d0),(.int .i64 e0),(.int .i64 g0)] (A.nat b)).bind fun a2 =>
             ((
              bif (A.zeq a2 0) then
               some (A.lset (A.lset g (A.nat a) (.agg [(.int .i64 i),(.int .i64 (A.wrp .i64 (A.zadd d 1))),(.bool j),(.int .i64 c),(.int .i64 k),(.int .i64 l),(.int .i64 m),(.int .i64 n)])) (A.nat a) (.agg [(.int .i64 b2),(.int .i64 e),(.bool c2),(.int .i64 d2),(.int .i64 c0),(.int .i64 d0),(.int .i64 e0),(.int .i64 g0)]))
              else
               some (A.lset g (A.nat a) (.agg [(.int .i64 i),(.int .i64 (A.wrp .i64 (A.zadd d 1))),(.bool j),(.int .i64 c),(.int .i64 k),(.int .i64 l),(.int .i64 m),(.int .i64 n)])):Option (List D))).bind fun b3 =>
             some (b3,o)
            else
             ((
              bif (A.zeq q 7) then
               (gc A (cG (lc (cI .i64) (lc (cI .i64) (lc cB (lc (cI .i64) (lc (cI .i64) (lc (cI .i64) (lc (cI .i64) (l1 (cI .i64)))))))))) (A.lset g (A.nat a) (.agg [(.int .i64 i),(.int .i64 (A.wrp .i64 (A.zadd d 1))),(.bool j),(.int .i64 c),(.int .i64 k),(.int .i64 l),(.int .i64 m),(.int .i64 n)])) (A.nat a)).bind fun (e2,g2,r4,p,i0,j0,k0,l0) =>
               (ck (A.zle 0 p)).bind fun _ =>
               (ck (A.zlt p (A.len o))).bind fun _ =>
               (gc A (cG (lc (cI .i64) (lc (cI .i64) (lc (cI .i64) (lc (cI .i64) (lc (cI .i64) (l1 (cI .i64)))))))) o (A.nat p)).bind fun (S,U,V,W,X,s4) =>
               (ck (A.zle 0 b)).bind fun _ =>
               (ck (A.zlt b (Int.ofNat 4))).bind fun _ =>
               (gc A (cI .i64) [(.int .i64 i0),(.int .i64 j0),(.int .i64 k0),(.int .i64 l0)] (A.nat b)).bind fun j2 =>
               (ck (A.zle 0 p)).bind fun _ =>
               (ck (A.zlt p (A.len (A.lset o (A.nat p) (.agg [(.int .i64 S),(.int .i64 U),(.int .i64 V),(.int .i64 W),(.int .i64 X),(.int .i64 (A.wrp .i64 (A.zadd (A.wrp .i64 (A.zmul 2 w)) 2)))]))))).bind fun _ =>
               (gc A (cG (lc (cI .i64) (lc (cI .i64) (lc (cI .i64) (lc (cI .i64) (lc (cI .i64) (l1 (cI .i64)))))))) (A.lset o (A.nat p) (.agg [(.int .i64 S),(.int .i64 U),(.int .i64 V),(.int .i64 W),(.int .i64 X),(.int .i64 (A.wrp .i64 (A.zadd (A.wrp .i64 (A.zmul 2 w)) 2)))])) (A.nat p)).bind fun (k2,l2,m2,u4,n2,o2) =>
               some ((A.lset (A.lset g (A.nat a) (.agg [(.int .i64 i),(.int .i64 (A.wrp .i64 (A.zadd d 1))),(.bool j),(.int .i64 c),(.int .i64 k),(.int .i64 l),(.int .i64 m),(.int .i64 n)])) (A.nat a) (.agg [(.int .i64 e2),(.int .i64 g2),(.bool false),(.int .i64 p),(.int .i64 i0),(.int .i64 j0),(.int .i64 k0),(.int .i64 l0)])),(A.lset (A.lset o (A.nat p) (.agg [(.int .i64 S),(.int .i64 U),(.int .i64 V),(.int .i64 W),(.int .i64 X),(.int .i64 (A.wrp .i64 (A.zadd (A.wrp .i64 (A.zmul 2 w)) 2)))])) (A.nat p) (.agg [(.int .i64 k2),(.int .i64 l2),(.int .i64 m2),(.int .i64 j2),(.int .i64 n2),(.int .i64 o2)])))
              else
               some ((A.lset g (A.nat a) (.agg [(.int .i64 i),(.int .i64 (A.wrp .i64 (A.zadd d 1))),(.bool j),(.int .i64 c),(.int .i64 k),(.int .i64 l),(.int .i64 m),(.int .i64 n)])),o):Option (List D×List D))).bind fun (c3,d3) =>
             some (c3,d3):Option (List D×List D))).bind fun (e3,g3) =>
           some (e3,g3):Option (List D×List D))).bind fun (i3,j3) =>
         some (i3,j3):Option (List D×List D))).bind fun (k3,l3) =>
       some (r,s,u,k3,l3):Option (Int×Int×Int×List D×List D))).bind fun (m3,n3,o3,p3,q3) =>
     some (m3,n3,o3,p3,q3):Option (Int×Int×Int×List D×List D))).bind fun (r3,s3,u3,v3,w3) =>
   some (r3,s3,u3,v3,w3):Option (Int×Int×Int×List D×List D))).bind fun (y3,z3,a4,m0,b4) =>
 ((
  bif (A.zlt Y (A.len x4)) then
   (gt A (cI .i64) x4 Y).bind fun q2 =>
   some (A.zeq q2 d)
  else
   some false:Option (Bool))).bind fun c4 =>
 ((
  bif c4 then
   (gc A (cG (lc (cI .i64) (lc (cI .i64) (lc cB (lc (cI .i64) (lc (cI .i64) (lc (cI .i64) (lc (cI .i64) (l1 (cI .i64)))))))))) m0 (A.nat a)).bind fun (w4,y4,z4,C,a5,b5,c5,e5) =>
   (ck (A.zle 0 C)).bind fun _ =>
   (ck (A.zlt C (A.len F))).bind fun _ =>
   (gc A (cI .i64) F (A.nat C)).bind fun g5 =>
   some (A.lset F (A.nat C) (.int .i64 w))
  else
   some F:Option (List D))).bind fun d4 =>
 some (x2,x3,x4,(A.wrp .i64 (A.zadd w 1)),y3,z3,a4,m0,b4,d4)

def K129L0 (A:Ar) (d c g i:List D) (j k l m:Int) (n e U:List D) (V:Int) (self65:List D->List D->List D->List D->Int->Int->Int->Int->List D->List D->List D->Int->List D->Option (List D)):(List D×Int)->Option ((List D×Int)⊕(List D)):=fun (b,a) =>
 bif (A.zlt a (A.len c)) then
  (K57 A d c g i j k l m n e a).bind fun q =>
  ((
   bif q then
    (K150 A d c g i j k l m n e).bind fun (r,s,u,v,w,y,z,B,C,E) =>
    (K78 A a r s u v w y z B C E).bind fun (F,G,J,K,L,M,N,O,P,Q) =>
    (ap A [] U).bind fun o =>
    (ap A o [(.int .i64 a)]).bind fun p =>
    (self65 F G J O K L M N P Q p (A.wrp .i64 (A.zsub V 1)) b).bind fun R =>
    some R
   else
    some b:Option (List D))).bind fun S =>
  some (.inl (S,(A.wrp .i64 (A.zadd a 1))))
 else
  some (.inr b)

/--  *lineal linealref08.Play .ends -/
def K129B (A:Ar) (self65:List D->List D->List D->List D->Int->Int->Int->Int->List D->List D->List D->Int->List D->Option (List D)) (a c d e:List D) (g i j k:Int) (l b m:List D) (n:Int) (o:List D):Option (List D) :=
 ((
  bif (A.zeq n 0) then
   some true
  else
   (K77 A a c d e g i j k l b).bind fun q =>
   some q:Option (Bool))).bind fun s =>
 bif s then
  (ap A o [(.agg [(.ref [(.list 1 a),(.list 1 c),(.list 1 d),(.list 8 e),(.int .i64 g),(.int .i64 i),(.int .i64 j),(.int .i64 k),(.list 6 l),(.list 1 b)]),(.list 1 m)])]).bind fun p =>
  some p
 else
  (iter (K129L0 A a c d e g i j k l b m n self65) (o,0)).bind (fun r =>
  some r)

def K129R (A:Ar):Nat->List D->List D->List D->List D->Int->Int->Int->Int->List D->List D->List D->Int->List D->Option (List D)
 | 0=>fun _ _ _ _ _ _ _ _ _ _ _ _ _=>none
 | n+1=>fun a g i j k l m o p b c d e=>K129B A (K129R A n) a g i j k l m o p b c d e

def K129 (A:Ar) (a g i j:List D) (k l m n:Int) (o b c:List D) (d:Int) (e:List D):Option (List D):=K129R A fuel a g i j k l m n o b c d e

/-- lineal linealref08.all -/
def K92 (A:Ar) (g i j:List D) (k:Int):Option (List D) :=
 (K76 A g i j).bind fun (b,c,d,e) =>
 (K129 A b c d e 0 0 0 0 [] [] [] k []).bind fun a =>
 some a

/-- lineal linealref08.Schedules -/
def K37 (A:Ar) (b c:List D) (d:Int):Option (Int×Int) :=
 (K91 A b c d).bind fun a =>
 bif (A.zeq a 0) then
  (K92 A b c [] d).bind fun e =>
  some ((A.len e),0)
 else
  some (0,a)

/-- lineal code.Histories$1 -/
def K93 (A:Ar) (d q:List D) (v w y z B C E e g i j k l m n o p r:Int) (b s u c:List D):Option (List D) :=
 (ap A c [(.list 6 b)]).bind fun a =>
 some a

def K85cL0 (A:Ar) (x1 x2:List D) (x3 x4 x5 x6 x7 x8 x9 o0 p0 q0 r0 s0 u0 v0 w0 y0 z0 a1:Int) (b1 c1:List D) (d1:Int) (K a G:List D) (self73:List D->List D->Int->Int->Int->Int->Int->Int->Int->Int->Int->Int->Int->Int->Int->Int->Int->Int->Int->Int->List D->List D->Int->List D->List D->List D->(Option (Bool×List D))):(Int×List D)->Option ((Int×List D)⊕((List D)⊕(List D×List D×List D×Int×Int×Int×Int×Int×Int×Int×Int×Int×Int×Int×Int×Int×Int×Int×Int×Int×Int×List D×List D))):=fun (b,J) =>
 bif (A.zlt b (A.len G)) then
  (gt A (cI .i64) G b).bind fun c =>
  (K124 A x1 x2 x3 x4 x5 x6 x7 x8 x9 o0 p0 q0 r0 s0 u0 v0 w0 y0 z0 a1 b1 c1).bind fun (N,O,P,Q,R,S,U,V,W,X,Y,a0,b0,c0,d0,e0,g0,i0,j0,k0,l0,m0) =>
  (K71 A c K N O P Q R S U V W X Y a0 b0 c0 d0 e0 g0 i0 j0 k0 l0 m0).bind fun (d,e,g,i,j,k,l,m,n,o,p,q,r,s,u,v,w,y,z,B,C,E) =>
  (sl A a 0 (A.len a)).bind fun L =>
  (ck (A.zeq (A.len a) (A.len a))).bind fun _ =>
  (ap A L [(.int .i64 c)]).bind fun M =>
  (self73 d e g i j k l m n o p q r s u v w y z B C E d1 K M J).bind fun (n0,F) =>
  bif n0 then
   some (.inl ((A.wrp .i64 (A.zadd b 1)),F))
  else
   some (.inr (.inr (F,d,e,g,i,j,k,l,m,n,o,p,q,r,s,u,v,w,y,z,B,C,E)))
 else
  some (.inr (.inl J))

/--  lineal code.run .all -/
def K85cB (A:Ar) (self73:List D->List D->Int->Int->Int->Int->Int->Int->Int->Int->Int->Int->Int->Int->Int->Int->Int->Int->Int->Int->List D->List D->Int->List D->List D->List D->(Option (Bool×List D))) (b o:List D) (r s u v w y z c d e g i j k l m n a:Int) (p q:List D) (C:Int) (M E F:List D):Option (Bool×List D) :=
 (K56 A b o r s u v w y z c d e g i j k l m n a p q).bind fun B =>
 ((
  bif (A.zeq (A.len B) 0) then
   some true
  else
   some (A.zeq a C):Option (Bool))).bind fun L =>
 bif L then
  (K93 A b o r s u v w y z c d e g i j k l m n a p q E F).bind fun G =>
  some (true,G)
 else
  (iter (K85cL0 A b o r s u v w y z c d e g i j k l m n a p q C M E B self73) (0,F)).bind (Sum.elim (fun J =>
   some (true,J)) (fun (K,N,O,P,Q,R,S,U,V,W,X,Y,a0,b0,c0,d0,e0,g0,i0,j0,k0,l0,m0) =>
   some (false,K)))

def K85cR (A:Ar):Nat->List D->List D->Int->Int->Int->Int->Int->Int->Int->Int->Int->Int->Int->Int->Int->Int->Int->Int->Int->Int->List D->List D->Int->List D->List D->List D->(Option (Bool×List D))
 | 0=>fun _ _ _ _ _ _ _ _ _ _ _ _ _ _ _ _ _ _ _ _ _ _ _ _ _ _=>none
 | n+1=>fun a o y z B C E F G b c d e g i j k l m p q r s u v w=>K85cB A (K85cR A n) a o y z B C E F G b c d e g i j k l m p q r s u v w

def K85c (A:Ar) (a n:List D) (w y z B C E F b c d e g i j k l m o:Int) (p q:List D) (r:Int) (s u v:List D):Option (Bool×List D):=K85cR A fuel a n w y z B C E F b c d e g i j k l m o p q r s u v

def K85bL0 (A:Ar) (x1 x2:List D) (x3 x4 x5 x6 x7 x8 x9 o0 p0 q0 r0 s0 u0 v0 w0 y0 z0 a1 b1:Int) (K a c1 d1 G:List D):(Int×List D)->Option ((Int×List D)⊕((List D)⊕(List D×List D×List D×Int×Int×Int×Int×Int×Int×Int×Int×Int×Int×Int×Int×Int×Int×Int×Int×Int×Int×List D×List D))):=fun (b,J) =>
 bif (A.zlt b (A.len G)) then
  (gt A (cI .i64) G b).bind fun c =>
  (K124 A x1 x2 x3 x4 x5 x6 x7 x8 x9 o0 p0 q0 r0 s0 u0 v0 w0 y0 z0 a1 c1 d1).bind fun (N,O,P,Q,R,S,U,V,W,X,Y,a0,b0,c0,d0,e0,g0,i0,j0,k0,l0,m0) =>
  (K71 A c K N O P Q R S U V W X Y a0 b0 c0 d0 e0 g0 i0 j0 k0 l0 m0).bind fun (d,e,g,i,j,k,l,m,n,o,p,q,r,s,u,v,w,y,z,B,C,E) =>
  (sl A a 0 (A.len a)).bind fun L =>
  (ck (A.zeq (A.len a) (A.len a))).bind fun _ =>
  (ap A L [(.int .i64 c)]).bind fun M =>
  (K85c A d e g i j k l m n o p q r s u v w y z B C E b1 K M J).bind fun (n0,F) =>
  bif n0 then
   some (.inl ((A.wrp .i64 (A.zadd b 1)),F))
  else
   some (.inr (.inr (F,d,e,g,i,j,k,l,m,n,o,p,q,r,s,u,v,w,y,z,B,C,E)))
 else
  some (.inr (.inl J))

/--  lineal code.run .all -/
def K85b (A:Ar) (b o:List D) (r s u v w y z c d e g i j k l m n a C:Int) (M E F p q:List D):Option (Bool×List D) :=
 (K56 A b o r s u v w y z c d e g i j k l m n a p q).bind fun B =>
 ((
  bif (A.zeq (A.len B) 0) then
   some true
  else
   some (A.zeq a C):Option (Bool))).bind fun L =>
 bif L then
  (K93 A b o r s u v w y z c d e g i j k l m n a p q E F).bind fun G =>
  some (true,G)
 else
  (iter (K85bL0 A b o r s u v w y z c d e g i j k l m n a C M E p q B) (0,F)).bind (Sum.elim (fun J =>
   some (true,J)) (fun (K,N,O,P,Q,R,S,U,V,W,X,Y,a0,b0,c0,d0,e0,g0,i0,j0,k0,l0,m0) =>
   some (false,K)))

def K94 (A:Ar) (a:List D):Option Unit:=ck (A.zeq (A.len a) 0)

def K132L0 (A:Ar) (c:List D):Int->Option ((Int)⊕((Unit)⊕(Int))):=fun a =>
 bif (A.zlt a (A.len c)) then
  (gt A (cI .i64) c a).bind fun b =>
  bif (A.zeq b 0) then
   some (.inl (A.wrp .i64 (A.zadd a 1)))
  else
   some (.inr (.inr b))
 else
  some (.inr (.inl ()))

/-- cmp.Or int  -/
def K132 (A:Ar) (b:List D):Option (Int) :=
 (iter (K132L0 A b) 0).bind (Sum.elim (fun _ =>
  some 0) (fun a =>
  some a))

/-- lineal code.compare -/
def K97 (A:Ar) (b n g i j k l o m c d e:Int):Option (Int) :=
 (K132 A [(.int .i64 (A.wrp .i64 (A.zsub b l))),(.int .i64 (A.wrp .i64 (A.zsub g m))),(.int .i64 (A.wrp .i64 (A.zsub i c))),(.int .i64 (A.wrp .i64 (A.zsub j d))),(.int .i64 (A.wrp .i64 (A.zsub k e)))]).bind fun a =>
 some a

def K96L0 (A:Ar) (c d:List D):Int->Option ((Int)⊕((Unit)⊕(Int))):=fun a =>
 bif (A.zlt a (A.len c)) then
  (gt A (cG (lc (cI .i64) (lc (cI .i64) (lc (cI .i64) (lc (cI .i64) (lc (cI .i64) (l1 (cI .i64)))))))) c a).bind fun (e,g,i,j,k,l) =>
  bif (A.zle (A.len d) a) then
   some (.inr (.inr 1))
  else
   (gt A (cG (lc (cI .i64) (lc (cI .i64) (lc (cI .i64) (lc (cI .i64) (lc (cI .i64) (l1 (cI .i64)))))))) d a).bind fun (m,n,o,p,q,r) =>
   (K97 A e g i j k l m n o p q r).bind fun b =>
   bif (A.zeq b 0) then
    some (.inl (A.wrp .i64 (A.zadd a 1)))
   else
    some (.inr (.inr b))
 else
  some (.inr (.inl ()))
end
end Go.Am
