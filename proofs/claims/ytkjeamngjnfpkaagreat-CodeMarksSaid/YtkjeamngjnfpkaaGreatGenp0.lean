/- Own text: Genp0. -/
import Derived.Test.YtkjeamngjnfpkaaGreatAmLaw
import Derived.Test.YtkjeamngjnfpkaaGreatAmRef
set_option maxRecDepth 100000
set_option maxHeartbeats 2000000
set_option linter.unusedVariables false
set_option linter.unusedSimpArgs false
namespace Go.Am
open Go
noncomputable def Z59L0 (A:Ar) (b:List D):Int→Option ((Int)⊕((Unit)⊕(Unit))):=fun a =>
 bif (A.zlt a (A.len b)) then
  (gt A (cL 1) b a).bind fun c =>
  bif (A.zlt 20 (A.len c)) then
   some (.inr (.inr ()))
  else
   some (.inl (A.wrp .i64 (A.zadd a 1)))
 else
  some (.inr (.inl ()))

noncomputable def Z59L1 (A:Ar) (b:List D):Int→Option ((Int)⊕((Unit)⊕(Unit))):=fun a =>
 bif (A.zlt a (A.len b)) then
  (gt A (cL 1) b a).bind fun c =>
  bif (A.zlt 20 (A.len c)) then
   some (.inr (.inr ()))
  else
   some (.inl (A.wrp .i64 (A.zadd a 1)))
 else
  some (.inr (.inl ()))

noncomputable def Z59L2 (A:Ar) (d:List D):Int→Option ((Int)⊕((Unit)⊕(Unit))):=fun a =>
 bif (A.zlt a (A.len d)) then
  (gt A (cG (lc (cI .i64) (lc (cI .i64) (lc (cL 1) (l1 (cL 1)))))) d a).bind fun (g,i,b,c) =>
  ((
   bif (A.zlt 20 (A.len b)) then
    some true
   else
    some (A.zlt 20 (A.len c)):Option (Bool))).bind fun e =>
  bif e then
   some (.inr (.inr ()))
  else
   (iter (Z59L0 A b) 0).bind (Sum.elim (fun _ =>
    (iter (Z59L1 A c) 0).bind (Sum.elim (fun _ =>
     some (.inl (A.wrp .i64 (A.zadd a 1)))) (fun _ =>
     some (.inr (.inr ()))))) (fun _ =>
    some (.inr (.inr ()))))
 else
  some (.inr (.inl ()))

/-- lineal lineallaw02.Large -/
noncomputable def Z59 (A:Ar) (a:List D):Option (Bool) :=
 (iter (Z59L2 A a) 0).bind (Sum.elim (fun _ =>
  some (A.zlt 5 (A.len a))) (fun _ =>
  some true))

noncomputable def Z18L0 (A:Ar) (b:List D):Int→Option ((Int)⊕((Unit)⊕(Unit))):=fun a =>
 bif (A.zlt a (A.len b)) then
  (gt A (cL 4) b a).bind fun c =>
  bif (A.zlt 30 (A.len c)) then
   some (.inr (.inr ()))
  else
   some (.inl (A.wrp .i64 (A.zadd a 1)))
 else
  some (.inr (.inl ()))

noncomputable def Z18L1 (A:Ar) (b:List D):Int→Option ((Int)⊕((Unit)⊕(Unit))):=fun a =>
 bif (A.zlt a (A.len b)) then
  (gt A (cL 1) b a).bind fun c =>
  bif (A.zlt 20 (A.len c)) then
   some (.inr (.inr ()))
  else
   some (.inl (A.wrp .i64 (A.zadd a 1)))
 else
  some (.inr (.inl ()))

/-- lineal lineallaw08.Large -/
noncomputable def Z18 (A:Ar) (e g:Int) (i j a b:List D):Option (Bool) :=
 (iter (Z18L0 A a) 0).bind (Sum.elim (fun _ =>
  (iter (Z18L1 A b) 0).bind (Sum.elim (fun _ =>
   ((
    (Z59 A [(.agg [(.int .i64 e),(.int .i64 g),(.list 1 i),(.list 1 j)])]).bind fun c =>
    bif c then
     some true
    else
     bif (A.zlt 10 (A.len a)) then
      some true
     else
      some (A.zlt 10 (A.len b)):Option (Bool))).bind fun d =>
   some d) (fun _ =>
   some true))) (fun _ =>
  some true))

/-- lineal code.between -/
noncomputable def Z82 (A:Ar) (c a d:Int):Option (Bool) :=
 ((
  bif (A.zle c a) then
   some (A.zle a d)
  else
   some false:Option (Bool))).bind fun b =>
 some b

/-- lineal code.isRegister$1 -/
noncomputable def Z199 (A:Ar) (b:Int):Option (Bool) :=
 (Z82 A 0 b 3).bind fun a =>
 some (!a)

noncomputable def Z189L0 (A:Ar) (b:List D):Int→Option ((Int)⊕((Unit)⊕(Int))):=fun a =>
 bif (A.zlt a (A.len b)) then
  (gt A (cI .i64) b a).bind fun c =>
  (Z199 A c).bind fun d =>
  bif d then
   some (.inr (.inr a))
  else
   some (.inl (A.wrp .i64 (A.zadd a 1)))
 else
  some (.inr (.inl ()))

/-- slices.IndexFunc   int int  -/
noncomputable def Z189 (A:Ar) (b:List D):Option (Int) :=
 (iter (Z189L0 A b) 0).bind (Sum.elim (fun _ =>
  some (-1)) (fun a =>
  some a))

/-- slices.ContainsFunc   int int  -/
noncomputable def Z158 (A:Ar) (b:List D):Option (Bool) :=
 (Z189 A b).bind fun a =>
 some (A.zle 0 a)

/-- lineal code.isRegister -/
noncomputable def Z187 (A:Ar) (b:List D):Option (Bool) :=
 (Z158 A b).bind fun a =>
 some (!a)

/-- lineal code.isCell -/
noncomputable def Z188 (A:Ar) (b:Int):Option (Bool) :=
 (Z82 A 0 b 2).bind fun a =>
 some a

/-- lineal code.isLine -/
noncomputable def Z156 (A:Ar) (a b c d B:Int):Option (Bool) :=
 bif (A.zeq a 1) then
  ((
   (Z187 A [(.int .i64 b)]).bind fun r =>
   bif r then
    (Z188 A c).bind fun e =>
    bif e then
     some (A.zeq d 0)
    else
     some false
   else
    some false:Option (Bool))).bind fun s =>
  some s
 else
  bif (A.zeq a 2) then
   ((
    (Z188 A b).bind fun g =>
    bif g then
     (Z187 A [(.int .i64 c)]).bind fun i =>
     bif i then
      some (A.zeq d 0)
     else
      some false
    else
     some false:Option (Bool))).bind fun u =>
   some u
  else
   bif (A.zeq a 3) then
    ((
     (Z188 A b).bind fun j =>
     bif j then
      (Z187 A [(.int .i64 c),(.int .i64 d)]).bind fun k =>
      some k
     else
      some false:Option (Bool))).bind fun v =>
    some v
   else
    bif (A.zeq a 4) then
     ((
      (Z187 A [(.int .i64 b)]).bind fun l =>
      bif l then
       (Z82 A 0 c 9).bind fun m =>
       bif m then
        some (A.zeq d 0)
       else
        some false
      else
       some false:Option (Bool))).bind fun w =>
     some w
    else
     bif (A.zeq a 5) then
      (Z187 A [(.int .i64 b),(.int .i64 c),(.int .i64 d)]).bind fun n =>
      some n
     else
      bif (A.zeq a 6) then
       ((
        (Z187 A [(.int .i64 b)]).bind fun o =>
        bif o then
         (Z82 A 0 c (A.wrp .i64 (A.zsub B 1))).bind fun p =>
         bif p then
          some (A.zeq d 0)
         else
          some false
        else
         some false:Option (Bool))).bind fun y =>
       some y
      else
       bif (A.zeq a 7) then
        ((
         (Z187 A [(.int .i64 b)]).bind fun q =>
         bif q then
          bif (A.zeq c 0) then
           some (A.zeq d 0)
          else
           some false
         else
          some false:Option (Bool))).bind fun z =>
        some z
       else
        some false

/-- lineal code.isCall$1 -/
noncomputable def Z155 (A:Ar) (b c d e:Int) (g:List D):Option (Bool) :=
 (Z156 A b c d e (A.len g)).bind fun a =>
 some (!a)

noncomputable def Z186L0 (A:Ar) (b j:List D):Int→Option ((Int)⊕((Unit)⊕(Int))):=fun a =>
 bif (A.zlt a (A.len b)) then
  (gt A (cG (lc (cI .i64) (lc (cI .i64) (lc (cI .i64) (l1 (cI .i64)))))) b a).bind fun (c,d,e,g) =>
  (Z155 A c d e g j).bind fun i =>
  bif i then
   some (.inr (.inr a))
  else
   some (.inl (A.wrp .i64 (A.zadd a 1)))
 else
  some (.inr (.inl ()))

/-- slices.IndexFunc   lineal api.Line lineal api.Line  -/
noncomputable def Z186 (A:Ar) (b c:List D):Option (Int) :=
 (iter (Z186L0 A b c) 0).bind (Sum.elim (fun _ =>
  some (-1)) (fun a =>
  some a))

/-- slices.ContainsFunc   lineal api.Line lineal api.Line  -/
noncomputable def Z154 (A:Ar) (b c:List D):Option (Bool) :=
 (Z186 A b c).bind fun a =>
 some (A.zle 0 a)

/-- lineal code.isCall -/
noncomputable def Z114 (A:Ar) (a:List D):Option (Bool) :=
 ((
  (Z82 A 1 (A.len a) 8).bind fun c =>
  bif c then
   (Z154 A a a).bind fun d =>
   bif d then
    some false
   else
    (gt A (cG (lc (cI .i64) (lc (cI .i64) (lc (cI .i64) (l1 (cI .i64)))))) a (A.wrp .i64 (A.zsub (A.len a) 1))).bind fun (b,j,g,i) =>
    some (A.zeq b 7)
  else
   some false:Option (Bool))).bind fun e =>
 some e

/-- lineal code.Valid$1 -/
noncomputable def Z113 (A:Ar) (b:List D):Option (Bool) :=
 (Z114 A b).bind fun a =>
 some (!a)

noncomputable def Z153L0 (A:Ar) (b:List D):Int→Option ((Int)⊕((Unit)⊕(Int))):=fun a =>
 bif (A.zlt a (A.len b)) then
  (gt A (cL 4) b a).bind fun c =>
  (Z113 A c).bind fun d =>
  bif d then
   some (.inr (.inr a))
  else
   some (.inl (A.wrp .i64 (A.zadd a 1)))
 else
  some (.inr (.inl ()))

/-- slices.IndexFunc     lineal api.Line   lineal api.Line  -/
noncomputable def Z153 (A:Ar) (b:List D):Option (Int) :=
 (iter (Z153L0 A b) 0).bind (Sum.elim (fun _ =>
  some (-1)) (fun a =>
  some a))

/-- slices.ContainsFunc     lineal api.Line   lineal api.Line  -/
noncomputable def Z112 (A:Ar) (b:List D):Option (Bool) :=
 (Z153 A b).bind fun a =>
 some (A.zle 0 a)

/-- lineal code.Valid -/
noncomputable def Z80 (A:Ar) (a:List D):Option (Bool) :=
 ((
  (Z82 A 1 (A.len a) 4).bind fun b =>
  bif b then
   (Z112 A a).bind fun c =>
   some (!c)
  else
   some false:Option (Bool))).bind fun d =>
 some d

/-- lineal code.isWord$1 -/
noncomputable def Z165 (A:Ar) (b:Int) (c:List D):Option (Bool) :=
 (Z82 A 0 b (A.wrp .i64 (A.zsub (A.len c) 1))).bind fun a =>
 some (!a)

noncomputable def Z189aL0 (A:Ar) (b e:List D):Int→Option ((Int)⊕((Unit)⊕(Int))):=fun a =>
 bif (A.zlt a (A.len b)) then
  (gt A (cI .i64) b a).bind fun c =>
  (Z165 A c e).bind fun d =>
  bif d then
   some (.inr (.inr a))
  else
   some (.inl (A.wrp .i64 (A.zadd a 1)))
 else
  some (.inr (.inl ()))

/-- slices.IndexFunc   int int  -/
noncomputable def Z189a (A:Ar) (b c:List D):Option (Int) :=
 (iter (Z189aL0 A b c) 0).bind (Sum.elim (fun _ =>
  some (-1)) (fun a =>
  some a))

/-- slices.ContainsFunc   int int  -/
noncomputable def Z158a (A:Ar) (b c:List D):Option (Bool) :=
 (Z189a A b c).bind fun a =>
 some (A.zle 0 a)

/-- lineal code.isWord -/
noncomputable def Z124 (A:Ar) (d a:List D):Option (Bool) :=
 ((
  bif (A.zle (A.len a) 3) then
   (Z158a A a d).bind fun b =>
   some (!b)
  else
   some false:Option (Bool))).bind fun c =>
 some c

/-- lineal code.isUse$1 -/
noncomputable def Z123 (A:Ar) (b c:List D):Option (Bool) :=
 (Z124 A c b).bind fun a =>
 some (!a)

noncomputable def Z164L0 (A:Ar) (b e:List D):Int→Option ((Int)⊕((Unit)⊕(Int))):=fun a =>
 bif (A.zlt a (A.len b)) then
  (gt A (cL 1) b a).bind fun c =>
  (Z123 A c e).bind fun d =>
  bif d then
   some (.inr (.inr a))
  else
   some (.inl (A.wrp .i64 (A.zadd a 1)))
 else
  some (.inr (.inl ()))

/-- slices.IndexFunc     int   int  -/
noncomputable def Z164 (A:Ar) (b c:List D):Option (Int) :=
 (iter (Z164L0 A b c) 0).bind (Sum.elim (fun _ =>
  some (-1)) (fun a =>
  some a))

/-- slices.ContainsFunc     int   int  -/
noncomputable def Z122 (A:Ar) (b c:List D):Option (Bool) :=
 (Z164 A b c).bind fun a =>
 some (A.zle 0 a)

/-- lineal code.isUse -/
noncomputable def Z86 (A:Ar) (e a:List D):Option (Bool) :=
 ((
  (Z82 A 1 (A.len a) 2).bind fun b =>
  bif b then
   (Z122 A a e).bind fun c =>
   some (!c)
  else
   some false:Option (Bool))).bind fun d =>
 some d

/-- lineal code.checked -/
noncomputable def Z40 (A:Ar) (a d:List D):Option (Int) :=
 (Z80 A a).bind fun b =>
 bif b then
  (Z86 A a d).bind fun c =>
  bif c then
   some 0
  else
   some 81
 else
  some 80

/-- lineal code.newRun -/
noncomputable def Z35 (A:Ar) (a b:List D):Option (List D×List D) :=
 some (a,b)

/--  *lineal code.run .has -/
noncomputable def Z94 (A:Ar) (a:Int) (u b:List D) (j B C E F G k i l m n o p q r s v w:Int) (y z:List D):Option (Bool) :=
 ((
  (Z82 A 0 a (A.wrp .i64 (A.zsub (A.len b) 1))).bind fun e =>
  bif e then
   bif (A.zeq a 0) then
    (gt A (cL 1) b a).bind fun c =>
    some (A.zlt j (A.len c))
   else
    bif (A.zeq a 1) then
     (gt A (cL 1) b a).bind fun d =>
     some (A.zlt i (A.len d))
    else
     none
  else
   some false:Option (Bool))).bind fun g =>
 some g

/--  *lineal code.run .begun$1 -/
noncomputable def Z161 (A:Ar) (b e g i j c d:Int):Option (Bool) :=
 ((
  bif (A.zeq b d) then
   some (A.zeq c 0)
  else
   some false:Option (Bool))).bind fun a =>
 some a

noncomputable def Z190L0 (A:Ar) (l:Int) (b:List D):Int→Option ((Int)⊕((Unit)⊕(Int))):=fun a =>
 bif (A.zlt a (A.len b)) then
  (ck (A.zle 0 a)).bind fun _ =>
  (ck (A.zlt a (A.len b))).bind fun _ =>
  (gc A (cG (lc (cI .i64) (lc (cI .i64) (lc (cI .i64) (lc (cI .i64) (lc (cI .i64) (l1 (cI .i64)))))))) b (A.nat a)).bind fun (c,d,e,g,i,j) =>
  (Z161 A c d e g i j l).bind fun k =>
  bif k then
   some (.inr (.inr a))
  else
   some (.inl (A.wrp .i64 (A.zadd a 1)))
 else
  some (.inr (.inl ()))

/-- slices.IndexFunc   lineal api.Call lineal api.Call  -/
noncomputable def Z190 (A:Ar) (b:Int) (p u:List D) (v w y z B C d e g i j k l m n o q r:Int) (c s:List D):Option (Int) :=
 (iter (Z190L0 A b c) 0).bind (Sum.elim (fun _ =>
  some (-1)) (fun a =>
  some a))

/-- slices.ContainsFunc   lineal api.Call lineal api.Call  -/
noncomputable def Z160 (A:Ar) (b:Int) (o u:List D) (v w y z B C c d e g i j k l m n p q:Int) (r s:List D):Option (Bool) :=
 (Z190 A b o u v w y z B C c d e g i j k l m n p q r s).bind fun a =>
 some (A.zle 0 a)

/--  *lineal code.run .begun -/
noncomputable def Z118 (A:Ar) (b:Int) (o u:List D) (v w y z B C c d e g i j k l m n p q:Int) (r s:List D):Option (Bool) :=
 (Z160 A b o u v w y z B C c d e g i j k l m n p q r s).bind fun a =>
 some a

/-- lineal code.start -/
noncomputable def Z119 (A:Ar):Option (Unit) :=
 some ()

/--  *lineal code.run .swap -/
noncomputable def Z120 (A:Ar) (p a g i:Int) (F G:List D) (J K m j k l q r s u v w y z c d e B:Int) (C E:List D):Option (Int×Int×Int×Int) :=
 (ck (A.zle 0 a)).bind fun _ =>
 (ck (A.zlt a (Int.ofNat 3))).bind fun _ =>
 (gc A (cI .i64) [(.int .i64 c),(.int .i64 d),(.int .i64 e)] (A.nat a)).bind fun n =>
 (ck (A.zle 0 g)).bind fun _ =>
 (ck (A.zlt g (Int.ofNat 4))).bind fun _ =>
 (gc A (cI .i64) [(.int .i64 m),(.int .i64 j),(.int .i64 k),(.int .i64 l)] (A.nat g)).bind fun o =>
 bif (A.zeq n o) then
  (ck (A.zle 0 i)).bind fun _ =>
  (ck (A.zlt i (Int.ofNat 4))).bind fun _ =>
  (gc A (cI .i64) [(.int .i64 m),(.int .i64 j),(.int .i64 k),(.int .i64 l)] (A.nat i)).bind fun b =>
  (ck (A.zle 0 a)).bind fun _ =>
  (ck (A.zlt a (Int.ofNat 3))).bind fun _ =>
  some (1,(bif A.zeq a (Int.ofNat 0) then b else c),(bif A.zeq a (Int.ofNat 1) then b else d),(bif A.zeq a (Int.ofNat 2) then b else e))
 else
  some (0,c,d,e)

/--  *lineal code.run .swap -/
noncomputable def Z120a (A:Ar) (p a g i:Int) (E F:List D) (G J K q r s u v w j k l m y c d e z:Int) (B C:List D):Option (Int×Int×Int×Int) :=
 (ck (A.zle 0 a)).bind fun _ =>
 (ck (A.zlt a (Int.ofNat 3))).bind fun _ =>
 (gc A (cI .i64) [(.int .i64 c),(.int .i64 d),(.int .i64 e)] (A.nat a)).bind fun n =>
 (ck (A.zle 0 g)).bind fun _ =>
 (ck (A.zlt g (Int.ofNat 4))).bind fun _ =>
 (gc A (cI .i64) [(.int .i64 j),(.int .i64 k),(.int .i64 l),(.int .i64 m)] (A.nat g)).bind fun o =>
 bif (A.zeq n o) then
  (ck (A.zle 0 i)).bind fun _ =>
  (ck (A.zlt i (Int.ofNat 4))).bind fun _ =>
  (gc A (cI .i64) [(.int .i64 j),(.int .i64 k),(.int .i64 l),(.int .i64 m)] (A.nat i)).bind fun b =>
  (ck (A.zle 0 a)).bind fun _ =>
  (ck (A.zlt a (Int.ofNat 3))).bind fun _ =>
  some (1,(bif A.zeq a (Int.ofNat 0) then b else c),(bif A.zeq a (Int.ofNat 1) then b else d),(bif A.zeq a (Int.ofNat 2) then b else e))
 else
  some (0,c,d,e)

/--  *lineal code.run .step -/
noncomputable def Z84 (A:Ar) (G:Int) (x2 K L:List D) (k g V W X N O i e P Q R S U w y z j:Int) (J M:List D):Option (List D×List D×Int×Int×Int×Int×Int×Int×Int×Int×Int×Int×Int×Int×Int×Int×Int×Int×Int×Int×List D×List D) :=
 bif (A.zeq G 0) then
  (gt A (cL 1) L G).bind fun q1 =>
  (gt A (cI .i64) q1 k).bind fun o0 =>
  ((
   bif (A.zeq g 0) then
    (Z118 A G K L k g V W X N O i e P Q R S U w y z j J M).bind fun r2 =>
    some (!r2)
   else
    some false:Option (Bool))).bind fun l5 =>
  ((
   bif l5 then
    (Z119 A).bind fun () =>
    (ap A J [(.agg [(.int .i64 G),(.int .i64 0),(.int .i64 o0),(.int .i64 0),(.int .i64 (A.wrp .i64 (A.zadd (A.wrp .i64 (A.zmul 2 j)) 1))),(.int .i64 0)])]).bind fun e2 =>
    (ap A M [(.int .i64 0)]).bind fun g2 =>
    some (0,1,0,0,(A.len J),e2,g2)
   else
    some (V,W,X,N,O,J,M):Option (Int×Int×Int×Int×Int×List D×List D))).bind fun (r,s,u,C,m,v,k0) =>
  ((
   bif (A.zlt 0 (A.len x2)) then
    (gt A (cI .i64) x2 o0).bind fun a2 =>
    some (A.zeq a2 g)
   else
    some false:Option (Bool))).bind fun n7 =>
  ((
   bif n7 then
    (ck (A.zle 0 m)).bind fun _ =>
    (ck (A.zlt m (A.len k0))).bind fun _ =>
    (gc A (cI .i64) k0 (A.nat m)).bind fun u7 =>
    some (A.lset k0 (A.nat m) (.int .i64 (A.wrp .i64 (A.zadd j 1))))
   else
    some k0:Option (List D))).bind fun c1 =>
  (gt A (cL 4) K o0).bind fun b2 =>
  (gt A (cG (lc (cI .i64) (lc (cI .i64) (lc (cI .i64) (l1 (cI .i64)))))) b2 g).bind fun (F,b,d,g0) =>
  ((
   bif (A.zeq F 1) then
    (ck (A.zle 0 d)).bind fun _ =>
    (ck (A.zlt d (Int.ofNat 3))).bind fun _ =>
    (gc A (cI .i64) [(.int .i64 w),(.int .i64 y),(.int .i64 z)] (A.nat d)).bind fun i0 =>
    (ck (A.zle 0 b)).bind fun _ =>
    (ck (A.zlt b (Int.ofNat 4))).bind fun _ =>
    some (k,(A.wrp .i64 (A.zadd g 1)),(bif A.zeq b (Int.ofNat 0) then i0 else r),(bif A.zeq b (Int.ofNat 1) then i0 else s),(bif A.zeq b (Int.ofNat 2) then i0 else u),(bif A.zeq b (Int.ofNat 3) then i0 else C),w,y,z,v)
   else
    ((
     bif (A.zeq F 2) then
      (ck (A.zle 0 d)).bind fun _ =>
      (ck (A.zlt d (Int.ofNat 4))).bind fun _ =>
      (gc A (cI .i64) [(.int .i64 r),(.int .i64 s),(.int .i64 u),(.int .i64 C)] (A.nat d)).bind fun l0 =>
      (ck (A.zle 0 b)).bind fun _ =>
      (ck (A.zlt b (Int.ofNat 3))).bind fun _ =>
      some (k,(A.wrp .i64 (A.zadd g 1)),r,s,u,C,(bif A.zeq b (Int.ofNat 0) then l0 else w),(bif A.zeq b (Int.ofNat 1) then l0 else y),(bif A.zeq b (Int.ofNat 2) then l0 else z),v)
     else
      ((
       bif (A.zeq F 3) then
        (Z120 A F b d g0 K L k (A.wrp .i64 (A.zadd g 1)) r s u C m i e P Q R S U w y z (A.wrp .i64 (A.zadd j 1)) v c1).bind fun (i2,j2,k2,l2) =>
        some (k,(A.wrp .i64 (A.zadd g 1)),r,s,u,i2,j2,k2,l2,v)
       else
        ((
         bif (A.zeq F 4) then
          (ck (A.zle 0 b)).bind fun _ =>
          (ck (A.zlt b (Int.ofNat 4))).bind fun _ =>
          some (k,(A.wrp .i64 (A.zadd g 1)),(bif A.zeq b (Int.ofNat 0) then d else r),(bif A.zeq b (Int.ofNat 1) then d else s),(bif A.zeq b (Int.ofNat 2) then d else u),(bif A.zeq b (Int.ofNat 3) then d else C),v)
         else
          ((
           bif (A.zeq F 5) then
            (ck (A.zle 0 d)).bind fun _ =>
            (ck (A.zlt d (Int.ofNat 4))).bind fun _ =>
            (gc A (cI .i64) [(.int .i64 r),(.int .i64 s),(.int .i64 u),(.int .i64 C)] (A.nat d)).bind fun Y =>
            (ck (A.zle 0 g0)).bind fun _ =>
            (ck (A.zlt g0 (Int.ofNat 4))).bind fun _ =>
            (gc A (cI .i64) [(.int .i64 r),(.int .i64 s),(.int .i64 u),(.int .i64 C)] (A.nat g0)).bind fun a0 =>
            (nk (A.zeq 10 0)).bind fun _ =>
            (ck (A.zle 0 b)).bind fun _ =>
            (ck (A.zlt b (Int.ofNat 4))).bind fun _ =>
            some (k,(A.wrp .i64 (A.zadd g 1)),(bif A.zeq b (Int.ofNat 0) then (A.rem (A.wrp .i64 (A.zadd Y a0)) 10) else r),(bif A.zeq b (Int.ofNat 1) then (A.rem (A.wrp .i64 (A.zadd Y a0)) 10) else s),(bif A.zeq b (Int.ofNat 2) then (A.rem (A.wrp .i64 (A.zadd Y a0)) 10) else u),(bif A.zeq b (Int.ofNat 3) then (A.rem (A.wrp .i64 (A.zadd Y a0)) 10) else C),v)
           else
            ((
             bif (A.zeq F 6) then
              (ck (A.zle 0 b)).bind fun _ =>
              (ck (A.zlt b (Int.ofNat 4))).bind fun _ =>
              (gc A (cI .i64) [(.int .i64 r),(.int .i64 s),(.int .i64 u),(.int .i64 C)] (A.nat b)).bind fun d1 =>
              ((
               bif (A.zeq d1 0) then
                some d
               else
                some (A.wrp .i64 (A.zadd g 1)):Option (Int))).bind fun s2 =>
              some (k,s2,v)
             else
              ((
               bif (A.zeq F 7) then
                (ck (A.zle 0 m)).bind fun _ =>
                (ck (A.zlt m (A.len v))).bind fun _ =>
                (ck (A.zle 0 b)).bind fun _ =>
                (ck (A.zlt b (Int.ofNat 4))).bind fun _ =>
                (gc A (cI .i64) [(.int .i64 r),(.int .i64 s),(.int .i64 u),(.int .i64 C)] (A.nat b)).bind fun e1 =>
                (gc A (cG (lc (cI .i64) (lc (cI .i64) (lc (cI .i64) (lc (cI .i64) (lc (cI .i64) (l1 (cI .i64)))))))) v (A.nat m)).bind fun (p0,q0,r0,s0,u0,o7) =>
                (gc A (cG (lc (cI .i64) (lc (cI .i64) (lc (cI .i64) (lc (cI .i64) (lc (cI .i64) (l1 (cI .i64)))))))) (A.lset v (A.nat m) (.agg [(.int .i64 p0),(.int .i64 q0),(.int .i64 r0),(.int .i64 s0),(.int .i64 u0),(.int .i64 (A.wrp .i64 (A.zmul 2 (A.wrp .i64 (A.zadd j 1)))))])) (A.nat m)).bind fun (g1,i1,j1,p7,k1,m1) =>
                some ((A.wrp .i64 (A.zadd k 1)),0,(A.lset (A.lset v (A.nat m) (.agg [(.int .i64 p0),(.int .i64 q0),(.int .i64 r0),(.int .i64 s0),(.int .i64 u0),(.int .i64 (A.wrp .i64 (A.zmul 2 (A.wrp .i64 (A.zadd j 1)))))])) (A.nat m) (.agg [(.int .i64 g1),(.int .i64 i1),(.int .i64 j1),(.int .i64 e1),(.int .i64 k1),(.int .i64 m1)])))
               else
                some (k,(A.wrp .i64 (A.zadd g 1)),v):Option (Int×Int×List D))).bind fun (u2,v2,w2) =>
              some (u2,v2,w2):Option (Int×Int×List D))).bind fun (y2,z2,a3) =>
            some (y2,z2,r,s,u,C,a3):Option (Int×Int×Int×Int×Int×Int×List D))).bind fun (b3,c3,d3,e3,g3,i3,j3) =>
          some (b3,c3,d3,e3,g3,i3,j3):Option (Int×Int×Int×Int×Int×Int×List D))).bind fun (k3,l3,m3,n3,o3,p3,q3) =>
        some (k3,l3,m3,n3,o3,p3,w,y,z,q3):Option (Int×Int×Int×Int×Int×Int×Int×Int×Int×List D))).bind fun (r3,s3,u3,v3,w3,y3,z3,a4,b4,c4) =>
      some (r3,s3,u3,v3,w3,y3,z3,a4,b4,c4):Option (Int×Int×Int×Int×Int×Int×Int×Int×Int×List D))).bind fun (d4,e4,g4,i4,j4,k4,l4,m4,n4,o4) =>
    some (d4,e4,g4,i4,j4,k4,l4,m4,n4,o4):Option (Int×Int×Int×Int×Int×Int×Int×Int×Int×List D))).bind fun (p4,q4,r4,s4,u4,v4,w4,y4,z4,a5) =>
  some (K,L,p4,q4,r4,s4,u4,v4,m,i,e,P,Q,R,S,U,w4,y4,z4,(A.wrp .i64 (A.zadd j 1)),a5,c1)
 else
  bif (A.zeq G 1) then
   (gt A (cL 1) L G).bind fun n1 =>
   (gt A (cI .i64) n1 i).bind fun m0 =>
   ((
    bif (A.zeq e 0) then
     (Z118 A G K L k g V W X N O i e P Q R S U w y z j J M).bind fun m2 =>
     some (!m2)
    else
     some false:Option (Bool))).bind fun b5 =>
   ((
    bif b5 then
     (Z119 A).bind fun () =>
     (ap A J [(.agg [(.int .i64 G),(.int .i64 0),(.int .i64 m0),(.int .i64 0),(.int .i64 (A.wrp .i64 (A.zadd (A.wrp .i64 (A.zmul 2 j)) 1))),(.int .i64 0)])]).bind fun c2 =>
     (ap A M [(.int .i64 0)]).bind fun d2 =>
     some (0,1,0,0,(A.len J),c2,d2)
    else
     some (P,Q,R,S,U,J,M):Option (Int×Int×Int×Int×Int×List D×List D))).bind fun (n,o,p,B,l,q,j0) =>
   ((
    bif (A.zlt 0 (A.len x2)) then
     (gt A (cI .i64) x2 m0).bind fun o1 =>
     some (A.zeq o1 e)
    else
     some false:Option (Bool))).bind fun c5 =>
   ((
    bif c5 then
     (ck (A.zle 0 l)).bind fun _ =>
     (ck (A.zlt l (A.len j0))).bind fun _ =>
     (gc A (cI .i64) j0 (A.nat l)).bind fun q7 =>
     some (A.lset j0 (A.nat l) (.int .i64 (A.wrp .i64 (A.zadd j 1))))
    else
     some j0:Option (List D))).bind fun b1 =>
   (gt A (cL 4) K m0).bind fun p1 =>
   (gt A (cG (lc (cI .i64) (lc (cI .i64) (lc (cI .i64) (l1 (cI .i64)))))) p1 e).bind fun (E,a,c,b0) =>
   ((
    bif (A.zeq E 1) then
     (ck (A.zle 0 c)).bind fun _ =>
     (ck (A.zlt c (Int.ofNat 3))).bind fun _ =>
     (gc A (cI .i64) [(.int .i64 w),(.int .i64 y),(.int .i64 z)] (A.nat c)).bind fun c0 =>
     (ck (A.zle 0 a)).bind fun _ =>
     (ck (A.zlt a (Int.ofNat 4))).bind fun _ =>
     some (i,(A.wrp .i64 (A.zadd e 1)),(bif A.zeq a (Int.ofNat 0) then c0 else n),(bif A.zeq a (Int.ofNat 1) then c0 else o),(bif A.zeq a (Int.ofNat 2) then c0 else p),(bif A.zeq a (Int.ofNat 3) then c0 else B),w,y,z,q)
    else
     ((
      bif (A.zeq E 2) then
       (ck (A.zle 0 c)).bind fun _ =>
       (ck (A.zlt c (Int.ofNat 4))).bind fun _ =>
       (gc A (cI .i64) [(.int .i64 n),(.int .i64 o),(.int .i64 p),(.int .i64 B)] (A.nat c)).bind fun n0 =>
       (ck (A.zle 0 a)).bind fun _ =>
       (ck (A.zlt a (Int.ofNat 3))).bind fun _ =>
       some (i,(A.wrp .i64 (A.zadd e 1)),n,o,p,B,(bif A.zeq a (Int.ofNat 0) then n0 else w),(bif A.zeq a (Int.ofNat 1) then n0 else y),(bif A.zeq a (Int.ofNat 2) then n0 else z),q)
      else
       ((
        bif (A.zeq E 3) then
         (Z120a A E a c b0 K L k g V W X N O i (A.wrp .i64 (A.zadd e 1)) n o p B l w y z (A.wrp .i64 (A.zadd j 1)) q b1).bind fun (n2,o2,p2,q2) =>
         some (i,(A.wrp .i64 (A.zadd e 1)),n,o,p,n2,o2,p2,q2,q)
        else
         ((
          bif (A.zeq E 4) then
           (ck (A.zle 0 a)).bind fun _ =>
           (ck (A.zlt a (Int.ofNat 4))).bind fun _ =>
           some (i,(A.wrp .i64 (A.zadd e 1)),(bif A.zeq a (Int.ofNat 0) then c else n),(bif A.zeq a (Int.ofNat 1) then c else o),(bif A.zeq a (Int.ofNat 2) then c else p),(bif A.zeq a (Int.ofNat 3) then c else B),q)
          else
           ((
            bif (A.zeq E 5) then
             (ck (A.zle 0 c)).bind fun _ =>
             (ck (A.zlt c (Int.ofNat 4))).bind fun _ =>
             (gc A (cI .i64) [(.int .i64 n),(.int .i64 o),(.int .i64 p),(.int .i64 B)] (A.nat c)).bind fun d0 =>
             (ck (A.zle 0 b0)).bind fun _ =>
             (ck (A.zlt b0 (Int.ofNat 4))).bind fun _ =>
             (gc A (cI .i64) [(.int .i64 n),(.int .i64 o),(.int .i64 p),(.int .i64 B)] (A.nat b0)).bind fun e0 =>
             (nk (A.zeq 10 0)).bind fun _ =>
             (ck (A.zle 0 a)).bind fun _ =>
             (ck (A.zlt a (Int.ofNat 4))).bind fun _ =>
             some (i,(A.wrp .i64 (A.zadd e 1)),(bif A.zeq a (Int.ofNat 0) then (A.rem (A.wrp .i64 (A.zadd d0 e0)) 10) else n),(bif A.zeq a (Int.ofNat 1) then (A.rem (A.wrp .i64 (A.zadd d0 e0)) 10) else o),(bif A.zeq a (Int.ofNat 2) then (A.rem (A.wrp .i64 (A.zadd d0 e0)) 10) else p),(bif A.zeq a (Int.ofNat 3) then (A.rem (A.wrp .i64 (A.zadd d0 e0)) 10) else B),q)
            else
             ((
              bif (A.zeq E 6) then
               (ck (A.zle 0 a)).bind fun _ =>
               (ck (A.zlt a (Int.ofNat 4))).bind fun _ =>
               (gc A (cI .i64) [(.int .i64 n),(.int .i64 o),(.int .i64 p),(.int .i64 B)] (A.nat a)).bind fun r1 =>
               ((
                bif (A.zeq r1 0) then
                 some c
                else
                 some (A.wrp .i64 (A.zadd e 1)):Option (Int))).bind fun d5 =>
               some (i,d5,q)
              else
               ((
                bif (A.zeq E 7) then
                 (ck (A.zle 0 l)).bind fun _ =>
                 (ck (A.zlt l (A.len q))).bind fun _ =>
                 (ck (A.zle 0 a)).bind fun _ =>
                 (ck (A.zlt a (Int.ofNat 4))).bind fun _ =>
                 (gc A (cI .i64) [(.int .i64 n),(.int .i64 o),(.int .i64 p),(.int .i64 B)] (A.nat a)).bind fun s1 =>
                 (gc A (cG (lc (cI .i64) (lc (cI .i64) (lc (cI .i64) (lc (cI .i64) (lc (cI .i64) (l1 (cI .i64)))))))) q (A.nat l)).bind fun (v0,w0,y0,z0,a1,r7) =>
                 (gc A (cG (lc (cI .i64) (lc (cI .i64) (lc (cI .i64) (lc (cI .i64) (lc (cI .i64) (l1 (cI .i64)))))))) (A.lset q (A.nat l) (.agg [(.int .i64 v0),(.int .i64 w0),(.int .i64 y0),(.int .i64 z0),(.int .i64 a1),(.int .i64 (A.wrp .i64 (A.zmul 2 (A.wrp .i64 (A.zadd j 1)))))])) (A.nat l)).bind fun (u1,v1,w1,s7,y1,z1) =>
                 some ((A.wrp .i64 (A.zadd i 1)),0,(A.lset (A.lset q (A.nat l) (.agg [(.int .i64 v0),(.int .i64 w0),(.int .i64 y0),(.int .i64 z0),(.int .i64 a1),(.int .i64 (A.wrp .i64 (A.zmul 2 (A.wrp .i64 (A.zadd j 1)))))])) (A.nat l) (.agg [(.int .i64 u1),(.int .i64 v1),(.int .i64 w1),(.int .i64 s1),(.int .i64 y1),(.int .i64 z1)])))
                else
                 some (i,(A.wrp .i64 (A.zadd e 1)),q):Option (Int×Int×List D))).bind fun (e5,g5,i5) =>
               some (e5,g5,i5):Option (Int×Int×List D))).bind fun (j5,k5,m5) =>
             some (j5,k5,n,o,p,B,m5):Option (Int×Int×Int×Int×Int×Int×List D))).bind fun (n5,o5,p5,q5,r5,s5,u5) =>
           some (n5,o5,p5,q5,r5,s5,u5):Option (Int×Int×Int×Int×Int×Int×List D))).bind fun (v5,w5,y5,z5,a6,b6,c6) =>
         some (v5,w5,y5,z5,a6,b6,w,y,z,c6):Option (Int×Int×Int×Int×Int×Int×Int×Int×Int×List D))).bind fun (d6,e6,g6,i6,j6,k6,l6,m6,n6,o6) =>
       some (d6,e6,g6,i6,j6,k6,l6,m6,n6,o6):Option (Int×Int×Int×Int×Int×Int×Int×Int×Int×List D))).bind fun (p6,q6,r6,s6,u6,v6,w6,y6,z6,a7) =>
     some (p6,q6,r6,s6,u6,v6,w6,y6,z6,a7):Option (Int×Int×Int×Int×Int×Int×Int×Int×Int×List D))).bind fun (b7,c7,d7,e7,g7,i7,j7,k7,l7,m7) =>
   some (K,L,k,g,V,W,X,N,O,b7,c7,d7,e7,g7,i7,l,j7,k7,l7,(A.wrp .i64 (A.zadd j 1)),m7,b1)
  else
   none

noncomputable def Z69L0 (A:Ar) (E x4:List D):(Int×List D×List D×Int×Int×Int×Int×Int×Int×Int×Int×Int×Int×Int×Int×Int×Int×Int×Int×Int×Int×List D×List D)→Option ((Int×List D×List D×Int×Int×Int×Int×Int×Int×Int×Int×Int×Int×Int×Int×Int×Int×Int×Int×Int×Int×List D×List D)⊕((List D×List D×Int×Int×Int×Int×Int×Int×Int×Int×Int×Int×Int×Int×Int×Int×Int×Int×Int×Int×List D×List D)⊕(List D×List D×Int×Int×Int×Int×Int×Int×Int×Int×Int×Int×Int×Int×Int×Int×Int×Int×Int×Int×List D×List D×List D×List D×Int×Int×Int×Int×Int×Int×Int×Int×Int×Int×Int×Int×Int×Int×Int×Int×Int×Int×List D×List D))):=fun (B,a,b,c,d,e,g,i,j,k,l,m,n,o,p,q,r,s,u,v,w,y,z) =>
 bif (A.zlt B (A.len E)) then
  (gt A (cI .i64) E B).bind fun C =>
  (Z94 A C a b c d e g i j k l m n o p q r s u v w y z).bind fun F =>
  bif F then
   (Z84 A C x4 a b c d e g i j k l m n o p q r s u v w y z).bind fun (G,J,K,L,M,N,O,P,Q,R,S,U,V,W,X,Y,a0,b0,c0,d0,e0,g0) =>
   some (.inl ((A.wrp .i64 (A.zadd B 1)),G,J,K,L,M,N,O,P,Q,R,S,U,V,W,X,Y,a0,b0,c0,d0,e0,g0))
  else
   some (.inr (.inr (a,b,c,d,e,g,i,j,k,l,m,n,o,p,q,r,s,u,v,w,y,z,a,b,c,d,e,g,i,j,k,l,m,n,o,p,q,r,s,u,v,w,y,z)))
 else
  some (.inr (.inl (a,b,c,d,e,g,i,j,k,l,m,n,o,p,q,r,s,u,v,w,y,z)))

/-- lineal code.done -/
noncomputable def Z69 (A:Ar) (x1 x2 c x4:List D):Option (List D×List D×Int×Int×Int×Int×Int×Int×Int×Int×Int×Int×Int×Int×Int×Int×Int×Int×Int×Int×List D×List D×Bool) :=
 (Z35 A x1 x2).bind fun (a,b) =>
 bif (A.zlt 12 (A.len c)) then
  some (a,b,0,0,0,0,0,0,0,0,0,0,0,0,0,0,0,0,0,0,[],[],false)
 else
  (iter (Z69L0 A c x4) (0,a,b,0,0,0,0,0,0,0,0,0,0,0,0,0,0,0,0,0,0,[],[])).bind (Sum.elim (fun (Y,a0,b0,c0,d0,e0,d,e,g,i,j,k,l,m,n,o,p,q,r,s,u,v) =>
   some (Y,a0,b0,c0,d0,e0,d,e,g,i,j,k,l,m,n,o,p,q,r,s,u,v,true)) (fun (w,y,z,B,C,E,F,G,J,K,L,M,N,O,P,Q,R,S,U,V,W,X,g0,i0,j0,k0,l0,m0,n0,o0,p0,q0,r0,s0,u0,v0,w0,y0,z0,a1,b1,c1,d1,e1) =>
   some (w,y,z,B,C,E,F,G,J,K,L,M,N,O,P,Q,R,S,U,V,W,X,false)))

/-- lineal code.Run$1 -/
noncomputable def Z52 (A:Ar) (b o:List D) (s u v w y z B c d e g i j k l m n p:Int) (a q r:List D):Option (List D) :=
 some a

/-- lineal code.behind -/
noncomputable def Z51 (A:Ar) (b c J K:List D):Option ((List D)⊕(Int)) :=
 (Z40 A b c).bind fun a =>
 bif (A.zeq a 0) then
  (Z69 A b c J []).bind fun (G,d,e,g,i,j,k,l,m,n,o,p,q,r,s,u,v,w,y,z,B,C,E) =>
  bif E then
   (Z52 A G d e g i j k l m n o p q r s u v w y z B C K).bind fun F =>
   some (.inl F)
  else
   some (.inr 2)
 else
  some (.inr a)

/-- lineal code.Run -/
noncomputable def Z15 (A:Ar) (e g i:List D):Option (List D×Int) :=
 ((
  (Z51 A e g i []).bind (Sum.elim (fun a =>
   some (0,a)) (fun b =>
   some (b,[]))):Option (Int×List D))).bind fun (c,d) =>
 some (d,c)

/-- lineal lineallaw08.Sane -/
noncomputable def Z9 (A:Ar):Option (Bool) :=
 (Z15 A [(.list 4 [(.agg [(.int .i64 1),(.int .i64 0),(.int .i64 0),(.int .i64 0)]),(.agg [(.int .i64 5),(.int .i64 2),(.int .i64 0),(.int .i64 1)]),(.agg [(.int .i64 2),(.int .i64 0),(.int .i64 2),(.int .i64 0)]),(.agg [(.int .i64 7),(.int .i64 0),(.int .i64 0),(.int .i64 0)])])] [(.list 1 [(.int .i64 0)]),(.list 1 [(.int .i64 0)])] [(.int .i64 0),(.int .i64 0),(.int .i64 1),(.int .i64 1),(.int .i64 0),(.int .i64 0),(.int .i64 1),(.int .i64 1)]).bind fun (a,p) =>
 ((
  bif (A.zeq p 0) then
   bif (A.zeq (A.len a) 2) then
    (gc A (cG (lc (cI .i64) (lc (cI .i64) (lc (cI .i64) (lc (cI .i64) (lc (cI .i64) (l1 (cI .i64)))))))) a 0).bind fun (l,m,n,o,b,c) =>
    bif (A.deq [(.int .i64 l),(.int .i64 m),(.int .i64 n),(.int .i64 o),(.int .i64 b),(.int .i64 c)] [(.int .i64 0),(.int .i64 0),(.int .i64 0),(.int .i64 0),(.int .i64 1),(.int .i64 12)]) then
     (gc A (cG (lc (cI .i64) (lc (cI .i64) (lc (cI .i64) (lc (cI .i64) (lc (cI .i64) (l1 (cI .i64)))))))) a 1).bind fun (d,e,g,i,j,k) =>
     some (A.deq [(.int .i64 d),(.int .i64 e),(.int .i64 g),(.int .i64 i),(.int .i64 j),(.int .i64 k)] [(.int .i64 1),(.int .i64 0),(.int .i64 0),(.int .i64 0),(.int .i64 5),(.int .i64 16)])
    else
     some false
   else
    some false
  else
   some false:Option (Bool))).bind fun q =>
 some q

/-- lineal spec.between -/
noncomputable def Z115 (A:Ar) (c a d:Int):Option (Bool) :=
 ((
  bif (A.zle c a) then
   some (A.zle a d)
  else
   some false:Option (Bool))).bind fun b =>
 some b

/-- lineal spec.table$1$1 -/
noncomputable def Z159 (A:Ar) (b c:Int):Option (Bool) :=
 (Z115 A 0 b c).bind fun a =>
 some (!a)

noncomputable def Z189bL0 (A:Ar) (b:List D) (e:Int):Int→Option ((Int)⊕((Unit)⊕(Int))):=fun a =>
 bif (A.zlt a (A.len b)) then
  (gt A (cI .i64) b a).bind fun c =>
  (Z159 A c e).bind fun d =>
  bif d then
   some (.inr (.inr a))
  else
   some (.inl (A.wrp .i64 (A.zadd a 1)))
 else
  some (.inr (.inl ()))

/-- slices.IndexFunc   int int  -/
noncomputable def Z189b (A:Ar) (b:List D) (c:Int):Option (Int) :=
 (iter (Z189bL0 A b c) 0).bind (Sum.elim (fun _ =>
  some (-1)) (fun a =>
  some a))

/-- slices.ContainsFunc   int int  -/
noncomputable def Z158b (A:Ar) (b:List D) (c:Int):Option (Bool) :=
 (Z189b A b c).bind fun a =>
 some (A.zle 0 a)

/-- lineal spec.table$1 -/
noncomputable def Z157 (A:Ar) (a:List D) (g d:Int) (i j:List D) (e:Int):Option (Bool) :=
 ((
  bif (A.zeq (A.len a) d) then
   (Z158b A a e).bind fun b =>
   some b
  else
   some true:Option (Bool))).bind fun c =>
 some c

noncomputable def Z164aL0 (A:Ar) (b:List D) (e g:Int) (i j:List D) (k:Int):Int→Option ((Int)⊕((Unit)⊕(Int))):=fun a =>
 bif (A.zlt a (A.len b)) then
  (gt A (cL 1) b a).bind fun c =>
  (Z157 A c e g i j k).bind fun d =>
  bif d then
   some (.inr (.inr a))
  else
   some (.inl (A.wrp .i64 (A.zadd a 1)))
 else
  some (.inr (.inl ()))

/-- slices.IndexFunc     int   int  -/
noncomputable def Z164a (A:Ar) (b:List D) (c d:Int) (e g:List D) (i:Int):Option (Int) :=
 (iter (Z164aL0 A b c d e g i) 0).bind (Sum.elim (fun _ =>
  some (-1)) (fun a =>
  some a))

/-- slices.ContainsFunc     int   int  -/
noncomputable def Z122a (A:Ar) (b:List D) (c d:Int) (e g:List D) (i:Int):Option (Bool) :=
 (Z164a A b c d e g i).bind fun a =>
 some (A.zle 0 a)

/-- lineal spec.table -/
noncomputable def Z116 (A:Ar) (a e:Int) (g i b:List D) (j:Int):Option (Bool) :=
 ((
  bif (A.zeq (A.len b) a) then
   (Z122a A b a e g i j).bind fun c =>
   some (!c)
  else
   some false:Option (Bool))).bind fun d =>
 some d

/-- lineal spec.Valid -/
noncomputable def Z81 (A:Ar) (a b:Int) (c d:List D):Option (Bool) :=
 ((
  (Z115 A 1 a 8).bind fun i =>
  bif i then
   (Z115 A 1 b 4).bind fun j =>
   bif j then
    (Z116 A a b c d c (A.wrp .i64 (A.zsub a 1))).bind fun e =>
    bif e then
     (Z116 A a b c d d 5).bind fun g =>
     some g
    else
     some false
   else
    some false
  else
   some false:Option (Bool))).bind fun k =>
 some k

/-- lineal code.specified -/
noncomputable def Z33 (A:Ar) (i b:Int) (j k a l:List D):Option (Int) :=
 (Z80 A a).bind fun e =>
 bif e then
  ((
   (Z81 A i b j k).bind fun c =>
   bif c then
    some (!(A.zeq b (A.len a)))
   else
    some true:Option (Bool))).bind fun g =>
  bif g then
   some 10
  else
   (Z40 A a l).bind fun d =>
   some d
 else
  some 80

/-- lineal linealref08.within -/
noncomputable def Z77 (A:Ar) (c a d:Int):Option (Bool) :=
 ((
  bif (A.zle c a) then
   some (A.zle a d)
  else
   some false:Option (Bool))).bind fun b =>
 some b

/-- lineal linealref08.isRegister -/
noncomputable def Z109 (A:Ar) (b:Int):Option (Bool) :=
 (Z77 A 0 b 3).bind fun a =>
 some a

/-- lineal linealref08.isCell -/
noncomputable def Z110 (A:Ar) (b:Int):Option (Bool) :=
 (Z77 A 0 b 2).bind fun a =>
 some a

/-- lineal linealref08.isNumber -/
noncomputable def Z111 (A:Ar) (b:Int):Option (Bool) :=
 (Z77 A 0 b 9).bind fun a =>
 some a

/-- lineal linealref08.isLine -/
noncomputable def Z78 (A:Ar) (a b c d G:Int):Option (Bool) :=
 bif (A.zeq a 1) then
  ((
   (Z109 A b).bind fun v =>
   bif v then
    (Z110 A c).bind fun e =>
    bif e then
     some (A.zeq d 0)
    else
     some false
   else
    some false:Option (Bool))).bind fun w =>
  some w
 else
  bif (A.zeq a 2) then
   ((
    (Z110 A b).bind fun g =>
    bif g then
     (Z109 A c).bind fun i =>
     bif i then
      some (A.zeq d 0)
     else
      some false
    else
     some false:Option (Bool))).bind fun y =>
   some y
  else
   bif (A.zeq a 3) then
    ((
     (Z110 A b).bind fun j =>
     bif j then
      (Z109 A c).bind fun k =>
      bif k then
       (Z109 A d).bind fun l =>
       some l
      else
       some false
     else
      some false:Option (Bool))).bind fun z =>
    some z
   else
    bif (A.zeq a 4) then
     ((
      (Z109 A b).bind fun m =>
      bif m then
       (Z111 A c).bind fun n =>
       bif n then
        some (A.zeq d 0)
       else
        some false
      else
       some false:Option (Bool))).bind fun B =>
     some B
    else
     bif (A.zeq a 5) then
      ((
       (Z109 A b).bind fun o =>
       bif o then
        (Z109 A c).bind fun p =>
        bif p then
         (Z109 A d).bind fun q =>
         some q
        else
         some false
       else
        some false:Option (Bool))).bind fun C =>
      some C
     else
      bif (A.zeq a 6) then
       ((
        (Z109 A b).bind fun r =>
        bif r then
         (Z77 A 0 c (A.wrp .i64 (A.zsub G 1))).bind fun s =>
         bif s then
          some (A.zeq d 0)
         else
          some false
        else
         some false:Option (Bool))).bind fun E =>
       some E
      else
       bif (A.zeq a 7) then
        ((
         (Z109 A b).bind fun u =>
         bif u then
          bif (A.zeq c 0) then
           some (A.zeq d 0)
          else
           some false
         else
          some false:Option (Bool))).bind fun F =>
        some F
       else
        some false

noncomputable def Z30L0 (A:Ar) (a:List D):Int→Option ((Int)⊕((Unit)⊕(Unit))):=fun b =>
 bif (A.zlt b (A.len a)) then
  (gt A (cG (lc (cI .i64) (lc (cI .i64) (lc (cI .i64) (l1 (cI .i64)))))) a b).bind fun (c,d,e,g) =>
  (Z78 A c d e g (A.len a)).bind fun i =>
  bif i then
   some (.inl (A.wrp .i64 (A.zadd b 1)))
  else
   some (.inr (.inr ()))
 else
  some (.inr (.inl ()))

noncomputable def Z30L1 (A:Ar) (c:List D):Int→Option ((Int)⊕((Unit)⊕(Unit))):=fun b =>
 bif (A.zlt b (A.len c)) then
  (gt A (cL 4) c b).bind fun a =>
  (Z77 A 1 (A.len a) 8).bind fun e =>
  bif e then
   (iter (Z30L0 A a) 0).bind (Sum.elim (fun _ =>
    (gt A (cG (lc (cI .i64) (lc (cI .i64) (lc (cI .i64) (l1 (cI .i64)))))) a (A.wrp .i64 (A.zsub (A.len a) 1))).bind fun (d,g,i,j) =>
    bif (A.zeq d 7) then
     some (.inl (A.wrp .i64 (A.zadd b 1)))
    else
     some (.inr (.inr ()))) (fun _ =>
    some (.inr (.inr ()))))
  else
   some (.inr (.inr ()))
 else
  some (.inr (.inl ()))

/-- lineal linealref08.Valid -/
noncomputable def Z30 (A:Ar) (a:List D):Option (Bool) :=
 (Z77 A 1 (A.len a) 4).bind fun b =>
 bif b then
  (iter (Z30L1 A a) 0).bind (Sum.elim (fun _ =>
   some true) (fun _ =>
   some false))
 else
  some false

noncomputable def Z79L0 (A:Ar) (e:Int) (b:List D):Int→Option ((Int)⊕((Unit)⊕(Unit))):=fun a =>
 bif (A.zlt a (A.len b)) then
  (gt A (cI .i64) b a).bind fun c =>
  ((
   bif (A.zlt c 0) then
    some true
   else
    some (A.zle e c):Option (Bool))).bind fun d =>
  bif d then
   some (.inr (.inr ()))
  else
   some (.inl (A.wrp .i64 (A.zadd a 1)))
 else
  some (.inr (.inl ()))

noncomputable def Z79L1 (A:Ar) (d:Int) (c:List D) (e:Int):Int→Option ((Int)⊕((Unit)⊕(Unit))):=fun a =>
 bif (A.zlt a (A.len c)) then
  (gt A (cL 1) c a).bind fun b =>
  bif (A.zeq (A.len b) d) then
   (iter (Z79L0 A e b) 0).bind (Sum.elim (fun _ =>
    some (.inl (A.wrp .i64 (A.zadd a 1)))) (fun _ =>
    some (.inr (.inr ()))))
  else
   some (.inr (.inr ()))
 else
  some (.inr (.inl ()))

/-- lineal linealref01.isTable -/
noncomputable def Z79 (A:Ar) (b c:Int) (e g a:List D) (d:Int):Option (Bool) :=
 bif (A.zeq (A.len a) b) then
  (iter (Z79L1 A c a d) 0).bind (Sum.elim (fun _ =>
   some true) (fun _ =>
   some false))
 else
  some false

/-- lineal linealref01.Valid -/
noncomputable def Z31 (A:Ar) (a b:Int) (c d:List D):Option (Bool) :=
 ((
  bif (A.zle 1 a) then
   bif (A.zle a 8) then
    bif (A.zle 1 b) then
     bif (A.zle b 4) then
      (Z79 A a b c d c a).bind fun e =>
      bif e then
       (Z79 A a b c d d 6).bind fun g =>
       some g
      else
       some false
     else
      some false
    else
     some false
   else
    some false
  else
   some false:Option (Bool))).bind fun i =>
 some i

/-- lineal linealref08.isSpec -/
noncomputable def Z100 (A:Ar) (d a:Int) (e g i:List D):Option (Bool) :=
 ((
  (Z31 A d a e g).bind fun b =>
  bif b then
   some (A.zeq a (A.len i))
  else
   some false:Option (Bool))).bind fun c =>
 some c

noncomputable def Z32L0 (A:Ar) (e b:List D):Int→Option ((Int)⊕((Unit)⊕(Unit))):=fun a =>
 bif (A.zlt a (A.len b)) then
  (gt A (cI .i64) b a).bind fun c =>
  (Z77 A 0 c (A.wrp .i64 (A.zsub (A.len e) 1))).bind fun d =>
  bif d then
   some (.inl (A.wrp .i64 (A.zadd a 1)))
  else
   some (.inr (.inr ()))
 else
  some (.inr (.inl ()))

noncomputable def Z32L1 (A:Ar) (d c:List D):Int→Option ((Int)⊕((Unit)⊕(Unit))):=fun a =>
 bif (A.zlt a (A.len c)) then
  (gt A (cL 1) c a).bind fun b =>
  bif (A.zlt 3 (A.len b)) then
   some (.inr (.inr ()))
  else
   (iter (Z32L0 A d b) 0).bind (Sum.elim (fun _ =>
    some (.inl (A.wrp .i64 (A.zadd a 1)))) (fun _ =>
    some (.inr (.inr ()))))
 else
  some (.inr (.inl ()))

/-- lineal linealref08.IsUse -/
noncomputable def Z32 (A:Ar) (c a:List D):Option (Bool) :=
 (Z77 A 1 (A.len a) 2).bind fun b =>
 bif b then
  (iter (Z32L1 A c a) 0).bind (Sum.elim (fun _ =>
   some true) (fun _ =>
   some false))
 else
  some false

/-- lineal linealref08.asked -/
noncomputable def Z67 (A:Ar) (a d:List D):Option (Int) :=
 (Z30 A a).bind fun b =>
 bif b then
  (Z32 A a d).bind fun c =>
  bif c then
   some 0
  else
   some 81
 else
  some 80

/-- lineal linealref08.specified -/
noncomputable def Z60 (A:Ar) (g i:Int) (j k a l:List D):Option (Int) :=
 ((
  (Z30 A a).bind fun d =>
  bif d then
   (Z100 A g i j k a).bind fun b =>
   some (!b)
  else
   some false:Option (Bool))).bind fun e =>
 bif e then
  some 10
 else
  (Z67 A a l).bind fun c =>
  some c

/-- lineal linealref08.Begin -/
noncomputable def Z101 (A:Ar) (b a c:List D):Option (List D×List D×List D×List D) :=
 (ck (A.zeq (A.len a) (A.len a))).bind fun _ =>
 (ck (A.zle 0 (A.len a))).bind fun _ =>
 (ck (A.fits (A.len a))).bind fun _ =>
 some (b,a,c,(A.rep (A.len a) (.agg [(.int .i64 0),(.int .i64 0),(.bool false),(.int .i64 0),(.int .i64 0),(.int .i64 0),(.int .i64 0),(.int .i64 0)])))

/--  *lineal linealref08.Play .Step -/
noncomputable def Z104 (A:Ar) (a:Int) (x2 x3 x4:List D) (w r s u:Int) (y G n0:List D):Option (List D×List D×List D×Int×Int×Int×Int×List D×List D×List D) :=
 (ck (A.zle 0 a)).bind fun _ =>
 (ck (A.zlt a (A.len y))).bind fun _ =>
 (gc A (cG (lc (cI .i64) (lc (cI .i64) (lc cB (lc (cI .i64) (lc (cI .i64) (lc (cI .i64) (lc (cI .i64) (l1 (cI .i64)))))))))) y (A.nat a)).bind fun (b0,k4,k1,l4,m4,n4,o4,p4) =>
 ((
  bif k1 then
   some (y,G,n0)
  else
   (gt A (cL 1) x3 a).bind fun i2 =>
   (gc A (cG (lc (cI .i64) (lc (cI .i64) (lc cB (lc (cI .i64) (lc (cI .i64) (lc (cI .i64) (lc (cI .i64) (l1 (cI .i64)))))))))) (A.lset y (A.nat a) (.agg [(.int .i64 (A.wrp .i64 (A.zadd b0 1))),(.int .i64 0),(.bool true),(.int .i64 (A.len G)),(.int .i64 0),(.int .i64 1),(.int .i64 0),(.int .i64 0)])) (A.nat a)).bind fun (p2,v4,d5,i5,j5,k5,l5,m5) =>
   (gt A (cI .i64) i2 (A.wrp .i64 (A.zsub p2 1))).bind fun r2 =>
   (ap A G [(.agg [(.int .i64 a),(.int .i64 0),(.int .i64 r2),(.int .i64 0),(.int .i64 (A.wrp .i64 (A.zadd (A.wrp .i64 (A.zmul 2 w)) 1))),(.int .i64 0)])]).bind fun u2 =>
   (ap A n0 [(.int .i64 (-1))]).bind fun v2 =>
   some ((A.lset y (A.nat a) (.agg [(.int .i64 (A.wrp .i64 (A.zadd b0 1))),(.int .i64 0),(.bool true),(.int .i64 (A.len G)),(.int .i64 0),(.int .i64 1),(.int .i64 0),(.int .i64 0)])),u2,v2):Option (List D×List D×List D))).bind fun (g,o,F) =>
 (gc A (cG (lc (cI .i64) (lc (cI .i64) (lc cB (lc (cI .i64) (lc (cI .i64) (lc (cI .i64) (lc (cI .i64) (l1 (cI .i64)))))))))) g (A.nat a)).bind fun (i,d,j,c,k,l,m,n) =>
 (ck (A.zle 0 c)).bind fun _ =>
 (ck (A.zlt c (A.len o))).bind fun _ =>
 (gc A (cG (lc (cI .i64) (lc (cI .i64) (lc (cI .i64) (lc (cI .i64) (lc (cI .i64) (l1 (cI .i64)))))))) o (A.nat c)).bind fun (n5,o5,Y,p5,q5,r5) =>
 (gt A (cL 4) x2 Y).bind fun s2 =>
 (gt A (cG (lc (cI .i64) (lc (cI .i64) (lc (cI .i64) (l1 (cI .i64)))))) s2 d).bind fun (q,b,e,v) =>
 ((
  bif (A.zeq q 1) then
   (ck (A.zle 0 e)).bind fun _ =>
   (ck (A.zlt e (Int.ofNat 3))).bind fun _ =>
   (gc A (cI .i64) [(.int .i64 r),(.int .i64 s),(.int .i64 u)] (A.nat e)).bind fun E =>
   (ck (A.zle 0 b)).bind fun _ =>
   (ck (A.zlt b (Int.ofNat 4))).bind fun _ =>
   (gc A (cG (lc (cI .i64) (lc (cI .i64) (lc cB (lc (cI .i64) (lc (cI .i64) (lc (cI .i64) (lc (cI .i64) (l1 (cI .i64)))))))))) (A.lset g (A.nat a) (.agg [(.int .i64 i),(.int .i64 (A.wrp .i64 (A.zadd d 1))),(.bool j),(.int .i64 c),(.int .i64 k),(.int .i64 l),(.int .i64 m),(.int .i64 n)])) (A.nat a)).bind fun (o0,p0,q0,r0,s0,u0,v0,w0) =>
   some (r,s,u,(A.lset (A.lset g (A.nat a) (.agg [(.int .i64 i),(.int .i64 (A.wrp .i64 (A.zadd d 1))),(.bool j),(.int .i64 c),(.int .i64 k),(.int .i64 l),(.int .i64 m),(.int .i64 n)])) (A.nat a) (.agg [(.int .i64 o0),(.int .i64 p0),(.bool q0),(.int .i64 r0),(.int .i64 (bif A.zeq b (Int.ofNat 0) then E else s0)),(.int .i64 (bif A.zeq b (Int.ofNat 1) then E else u0)),(.int .i64 (bif A.zeq b (Int.ofNat 2) then E else v0)),(.int .i64 (bif A.zeq b (Int.ofNat 3) then E else w0))])),o)
  else
   ((
    bif (A.zeq q 2) then
     (ck (A.zle 0 e)).bind fun _ =>
     (ck (A.zlt e (Int.ofNat 4))).bind fun _ =>
     (gc A (cG (lc (cI .i64) (lc (cI .i64) (lc cB (lc (cI .i64) (lc (cI .i64) (lc (cI .i64) (lc (cI .i64) (l1 (cI .i64)))))))))) (A.lset g (A.nat a) (.agg [(.int .i64 i),(.int .i64 (A.wrp .i64 (A.zadd d 1))),(.bool j),(.int .i64 c),(.int .i64 k),(.int .i64 l),(.int .i64 m),(.int .i64 n)])) (A.nat a)).bind fun (e4,g4,i4,j4,y0,z0,a1,b1) =>
     (gc A (cI .i64) [(.int .i64 y0),(.int .i64 z0),(.int .i64 a1),(.int .i64 b1)] (A.nat e)).bind fun J =>
     (ck (A.zle 0 b)).bind fun _ =>
     (ck (A.zlt b (Int.ofNat 3))).bind fun _ =>
     some ((bif A.zeq b (Int.ofNat 0) then J else r),(bif A.zeq b (Int.ofNat 1) then J else s),(bif A.zeq b (Int.ofNat 2) then J else u),(A.lset g (A.nat a) (.agg [(.int .i64 i),(.int .i64 (A.wrp .i64 (A.zadd d 1))),(.bool j),(.int .i64 c),(.int .i64 k),(.int .i64 l),(.int .i64 m),(.int .i64 n)])),o)
    else
     ((
      bif (A.zeq q 3) then
       (ck (A.zle 0 b)).bind fun _ =>
       (ck (A.zlt b (Int.ofNat 3))).bind fun _ =>
       (gc A (cI .i64) [(.int .i64 r),(.int .i64 s),(.int .i64 u)] (A.nat b)).bind fun c1 =>
       (ck (A.zle 0 e)).bind fun _ =>
       (ck (A.zlt e (Int.ofNat 4))).bind fun _ =>
       (gc A (cG (lc (cI .i64) (lc (cI .i64) (lc cB (lc (cI .i64) (lc (cI .i64) (lc (cI .i64) (lc (cI .i64) (l1 (cI .i64)))))))))) (A.lset g (A.nat a) (.agg [(.int .i64 i),(.int .i64 (A.wrp .i64 (A.zadd d 1))),(.bool j),(.int .i64 c),(.int .i64 k),(.int .i64 l),(.int .i64 m),(.int .i64 n)])) (A.nat a)).bind fun (e1,g1,i1,j1,K,L,M,a0) =>
       (gc A (cI .i64) [(.int .i64 K),(.int .i64 L),(.int .i64 M),(.int .i64 a0)] (A.nat e)).bind fun d1 =>
       ((
        bif (A.zeq c1 d1) then
         (ck (A.zle 0 v)).bind fun _ =>
         (ck (A.zlt v (Int.ofNat 4))).bind fun _ =>
         (gc A (cI .i64) [(.int .i64 K),(.int .i64 L),(.int .i64 M),(.int .i64 a0)] (A.nat v)).bind fun N =>
         (ck (A.zle 0 b)).bind fun _ =>
         (ck (A.zlt b (Int.ofNat 3))).bind fun _ =>
         some (1,(bif A.zeq b (Int.ofNat 0) then N else r),(bif A.zeq b (Int.ofNat 1) then N else s),(bif A.zeq b (Int.ofNat 2) then N else u))
        else
         some (0,r,s,u):Option (Int×Int×Int×Int))).bind fun (w2,y2,z2,a3) =>
       some (y2,z2,a3,(A.lset (A.lset g (A.nat a) (.agg [(.int .i64 i),(.int .i64 (A.wrp .i64 (A.zadd d 1))),(.bool j),(.int .i64 c),(.int .i64 k),(.int .i64 l),(.int .i64 m),(.int .i64 n)])) (A.nat a) (.agg [(.int .i64 e1),(.int .i64 g1),(.bool i1),(.int .i64 j1),(.int .i64 K),(.int .i64 L),(.int .i64 M),(.int .i64 w2)])),o)
      else
       ((
        bif (A.zeq q 4) then
         (ck (A.zle 0 b)).bind fun _ =>
         (ck (A.zlt b (Int.ofNat 4))).bind fun _ =>
         (gc A (cG (lc (cI .i64) (lc (cI .i64) (lc cB (lc (cI .i64) (lc (cI .i64) (lc (cI .i64) (lc (cI .i64) (l1 (cI .i64)))))))))) (A.lset g (A.nat a) (.agg [(.int .i64 i),(.int .i64 (A.wrp .i64 (A.zadd d 1))),(.bool j),(.int .i64 c),(.int .i64 k),(.int .i64 l),(.int .i64 m),(.int .i64 n)])) (A.nat a)).bind fun (m1,n1,o1,p1,q1,r1,s1,u1) =>
         some ((A.lset (A.lset g (A.nat a) (.agg [(.int .i64 i),(.int .i64 (A.wrp .i64 (A.zadd d 1))),(.bool j),(.int .i64 c),(.int .i64 k),(.int .i64 l),(.int .i64 m),(.int .i64 n)])) (A.nat a) (.agg [(.int .i64 m1),(.int .i64 n1),(.bool o1),(.int .i64 p1),(.int .i64 (bif A.zeq b (Int.ofNat 0) then e else q1)),(.int .i64 (bif A.zeq b (Int.ofNat 1) then e else r1)),(.int .i64 (bif A.zeq b (Int.ofNat 2) then e else s1)),(.int .i64 (bif A.zeq b (Int.ofNat 3) then e else u1))])),o)
        else
         ((
          bif (A.zeq q 5) then
           (ck (A.zle 0 e)).bind fun _ =>
           (ck (A.zlt e (Int.ofNat 4))).bind fun _ =>
           (gc A (cG (lc (cI .i64) (lc (cI .i64) (lc cB (lc (cI .i64) (lc (cI .i64) (lc (cI .i64) (lc (cI .i64) (l1 (cI .i64)))))))))) (A.lset g (A.nat a) (.agg [(.int .i64 i),(.int .i64 (A.wrp .i64 (A.zadd d 1))),(.bool j),(.int .i64 c),(.int .i64 k),(.int .i64 l),(.int .i64 m),(.int .i64 n)])) (A.nat a)).bind fun (v1,w1,y1,z1,O,P,Q,R) =>
           (gc A (cI .i64) [(.int .i64 O),(.int .i64 P),(.int .i64 Q),(.int .i64 R)] (A.nat e)).bind fun z =>
           (ck (A.zle 0 v)).bind fun _ =>
           (ck (A.zlt v (Int.ofNat 4))).bind fun _ =>
           (gc A (cI .i64) [(.int .i64 O),(.int .i64 P),(.int .i64 Q),(.int .i64 R)] (A.nat v)).bind fun B =>
           (nk (A.zeq 10 0)).bind fun _ =>
           (ck (A.zle 0 b)).bind fun _ =>
           (ck (A.zlt b (Int.ofNat 4))).bind fun _ =>
           some ((A.lset (A.lset g (A.nat a) (.agg [(.int .i64 i),(.int .i64 (A.wrp .i64 (A.zadd d 1))),(.bool j),(.int .i64 c),(.int .i64 k),(.int .i64 l),(.int .i64 m),(.int .i64 n)])) (A.nat a) (.agg [(.int .i64 v1),(.int .i64 w1),(.bool y1),(.int .i64 z1),(.int .i64 (bif A.zeq b (Int.ofNat 0) then (A.rem (A.wrp .i64 (A.zadd z B)) 10) else O)),(.int .i64 (bif A.zeq b (Int.ofNat 1) then (A.rem (A.wrp .i64 (A.zadd z B)) 10) else P)),(.int .i64 (bif A.zeq b (Int.ofNat 2) then (A.rem (A.wrp .i64 (A.zadd z B)) 10) else Q)),(.int .i64 (bif A.zeq b (Int.ofNat 3) then (A.rem (A.wrp .i64 (A.zadd z B)) 10) else R))])),o)
          else
           ((
            bif (A.zeq q 6) then
             (ck (A.zle 0 b)).bind fun _ =>
             (ck (A.zlt b (Int.ofNat 4))).bind fun _ =>
             (gc A (cG (lc (cI .i64) (lc (cI .i64) (lc cB (lc (cI .i64) (lc (cI .i64) (lc (cI .i64) (lc (cI .i64) (l1 (cI .i64)))))))))) (A.lset g (A.nat a) (.agg [(.int .i64 i),(.int .i64 (A.wrp .i64 (A.zadd d 1))),(.bool j),(.int .i64 c),(.int .i64 k),(.int .i64 l),(.int .i64 m),(.int .i64 n)])) (A.nat a)).bind fun (b2,q4,c2,d2,c0,d0,e0,g0) =>
             (gc A (cI .i64) [(.int .i64 c0),(.int .i64 d0),(.int .i64 e0),(.int .i64 g0)] (A.nat b)).bind fun a2 =>
             ((
              bif (A.zeq a2 0) then
               some (A.lset (A.lset g (A.nat a) (.agg [(.int .i64 i),(.int .i64 (A.wrp .i64 (A.zadd d 1))),(.bool j),(.int .i64 c),(.int .i64 k),(.int .i64 l),(.int .i64 m),(.int .i64 n)])) (A.nat a) (.agg [(.int .i64 b2),(.int .i64 e),(.bool c2),(.int .i64 d2),(.int .i64 c0),(.int .i64 d0),(.int .i64 e0),(.int .i64 g0)]))
              else
               some (A.lset g (A.nat a) (.agg [(.int .i64 i),(.int .i64 (A.wrp .i64 (A.zadd d 1))),(.bool j),(.int .i64 c),(.int .i64 k),(.int .i64 l),(.int .i64 m),(.int .i64 n)])):Option (List D))).bind fun b3 =>
             some (b3,o)
            else
             ((
              bif (A.zeq q 7) then
               (gc A (cG (lc (cI .i64) (lc (cI .i64) (lc cB (lc (cI .i64) (lc (cI .i64) (lc (cI .i64) (lc (cI .i64) (l1 (cI .i64)))))))))) (A.lset g (A.nat a) (.agg [(.int .i64 i),(.int .i64 (A.wrp .i64 (A.zadd d 1))),(.bool j),(.int .i64 c),(.int .i64 k),(.int .i64 l),(.int .i64 m),(.int .i64 n)])) (A.nat a)).bind fun (e2,g2,r4,p,i0,j0,k0,l0) =>
               (ck (A.zle 0 p)).bind fun _ =>
               (ck (A.zlt p (A.len o))).bind fun _ =>
               (gc A (cG (lc (cI .i64) (lc (cI .i64) (lc (cI .i64) (lc (cI .i64) (lc (cI .i64) (l1 (cI .i64)))))))) o (A.nat p)).bind fun (S,U,V,W,X,s4) =>
               (ck (A.zle 0 b)).bind fun _ =>
               (ck (A.zlt b (Int.ofNat 4))).bind fun _ =>
               (gc A (cI .i64) [(.int .i64 i0),(.int .i64 j0),(.int .i64 k0),(.int .i64 l0)] (A.nat b)).bind fun j2 =>
               (ck (A.zle 0 p)).bind fun _ =>
               (ck (A.zlt p (A.len (A.lset o (A.nat p) (.agg [(.int .i64 S),(.int .i64 U),(.int .i64 V),(.int .i64 W),(.int .i64 X),(.int .i64 (A.wrp .i64 (A.zadd (A.wrp .i64 (A.zmul 2 w)) 2)))]))))).bind fun _ =>
               (gc A (cG (lc (cI .i64) (lc (cI .i64) (lc (cI .i64) (lc (cI .i64) (lc (cI .i64) (l1 (cI .i64)))))))) (A.lset o (A.nat p) (.agg [(.int .i64 S),(.int .i64 U),(.int .i64 V),(.int .i64 W),(.int .i64 X),(.int .i64 (A.wrp .i64 (A.zadd (A.wrp .i64 (A.zmul 2 w)) 2)))])) (A.nat p)).bind fun (k2,l2,m2,u4,n2,o2) =>
               some ((A.lset (A.lset g (A.nat a) (.agg [(.int .i64 i),(.int .i64 (A.wrp .i64 (A.zadd d 1))),(.bool j),(.int .i64 c),(.int .i64 k),(.int .i64 l),(.int .i64 m),(.int .i64 n)])) (A.nat a) (.agg [(.int .i64 e2),(.int .i64 g2),(.bool false),(.int .i64 p),(.int .i64 i0),(.int .i64 j0),(.int .i64 k0),(.int .i64 l0)])),(A.lset (A.lset o (A.nat p) (.agg [(.int .i64 S),(.int .i64 U),(.int .i64 V),(.int .i64 W),(.int .i64 X),(.int .i64 (A.wrp .i64 (A.zadd (A.wrp .i64 (A.zmul 2 w)) 2)))])) (A.nat p) (.agg [(.int .i64 k2),(.int .i64 l2),(.int .i64 m2),(.int .i64 j2),(.int .i64 n2),(.int .i64 o2)])))
              else
               some ((A.lset g (A.nat a) (.agg [(.int .i64 i),(.int .i64 (A.wrp .i64 (A.zadd d 1))),(.bool j),(.int .i64 c),(.int .i64 k),(.int .i64 l),(.int .i64 m),(.int .i64 n)])),o):Option (List D×List D))).bind fun (c3,d3) =>
             some (c3,d3):Option (List D×List D))).bind fun (e3,g3) =>
           some (e3,g3):Option (List D×List D))).bind fun (i3,j3) =>
         some (i3,j3):Option (List D×List D))).bind fun (k3,l3) =>
       some (r,s,u,k3,l3):Option (Int×Int×Int×List D×List D))).bind fun (m3,n3,o3,p3,q3) =>
     some (m3,n3,o3,p3,q3):Option (Int×Int×Int×List D×List D))).bind fun (r3,s3,u3,v3,w3) =>
   some (r3,s3,u3,v3,w3):Option (Int×Int×Int×List D×List D))).bind fun (y3,z3,a4,m0,b4) =>
 ((
  bif (A.zlt Y (A.len x4)) then
   (gt A (cI .i64) x4 Y).bind fun q2 =>
   some (A.zeq q2 d)
  else
   some false:Option (Bool))).bind fun c4 =>
 ((
  bif c4 then
   (gc A (cG (lc (cI .i64) (lc (cI .i64) (lc cB (lc (cI .i64) (lc (cI .i64) (lc (cI .i64) (lc (cI .i64) (l1 (cI .i64)))))))))) m0 (A.nat a)).bind fun (w4,y4,z4,C,a5,b5,c5,e5) =>
   (ck (A.zle 0 C)).bind fun _ =>
   (ck (A.zlt C (A.len F))).bind fun _ =>
   (gc A (cI .i64) F (A.nat C)).bind fun g5 =>
   some (A.lset F (A.nat C) (.int .i64 w))
  else
   some F:Option (List D))).bind fun d4 =>
 some (x2,x3,x4,(A.wrp .i64 (A.zadd w 1)),y3,z3,a4,m0,b4,d4)

noncomputable def Z53L0 (A:Ar) (b c:List D):Int→Option ((Int)⊕((Unit)⊕(Unit))):=fun a =>
 bif (A.zlt a (A.len c)) then
  (gt A (cI .i64) c a).bind fun d =>
  ((
   bif (A.zle (A.len b) a) then
    some true
   else
    (gt A (cL 4) b a).bind fun e =>
    (Z82 A 0 d (A.wrp .i64 (A.zsub (A.len e) 1))).bind fun g =>
    some (!g):Option (Bool))).bind fun i =>
  bif i then
   some (.inr (.inr ()))
  else
   some (.inl (A.wrp .i64 (A.zadd a 1)))
 else
  some (.inr (.inl ()))

/-- lineal code.isMarks -/
noncomputable def Z53 (A:Ar) (a b:List D):Option (Bool) :=
 (iter (Z53L0 A a b) 0).bind (Sum.elim (fun _ =>
  some (A.zeq (A.len b) (A.len a))) (fun _ =>
  some false))

/--  *lineal code.run .has -/
noncomputable def Z94a (A:Ar) (k b:List D) (j z B C E F G i l m n o p q r s u v:Int) (w y:List D) (a:Int):Option (Bool) :=
 ((
  (Z82 A 0 a (A.wrp .i64 (A.zsub (A.len b) 1))).bind fun e =>
  bif e then
   bif (A.zeq a 0) then
    (gt A (cL 1) b a).bind fun c =>
    some (A.zlt j (A.len c))
   else
    bif (A.zeq a 1) then
     (gt A (cL 1) b a).bind fun d =>
     some (A.zlt i (A.len d))
    else
     none
  else
   some false:Option (Bool))).bind fun g =>
 some g

noncomputable def Z55L0 (A:Ar) (i c:List D) (y z B C E F G j k l m n o p q r s u:Int) (v w:List D):(List D×Int)→Option ((List D×Int)⊕(List D)):=fun (b,a) =>
 bif (A.zlt a (A.len c)) then
  (Z94a A i c y z B C E F G j k l m n o p q r s u v w a).bind fun e =>
  ((
   bif e then
    (ap A b [(.int .i64 a)]).bind fun d =>
    some d
   else
    some b:Option (List D))).bind fun g =>
  some (.inl (g,(A.wrp .i64 (A.zadd a 1))))
 else
  some (.inr b)

/--  *lineal code.run .left -/
noncomputable def Z55 (A:Ar) (b o:List D) (s u v w y z B c d e g i j k l m n p:Int) (q r:List D):Option (List D) :=
 (iter (Z55L0 A b o s u v w y z B c d e g i j k l m n p q r) ([],0)).bind (fun a =>
 some a)

noncomputable def Z141L0 (A:Ar) (b:List D) (d:Int):Int→Option ((Int)⊕((Unit)⊕(Int))):=fun a =>
 bif (A.zlt a (A.len b)) then
  (gt A (cI .i64) b a).bind fun c =>
  bif (A.zeq d c) then
   some (.inr (.inr a))
  else
   some (.inl (A.wrp .i64 (A.zadd a 1)))
 else
  some (.inr (.inl ()))

/-- slices.Index   int int  -/
noncomputable def Z141 (A:Ar) (b:List D) (c:Int):Option (Int) :=
 (iter (Z141L0 A b c) 0).bind (Sum.elim (fun _ =>
  some (-1)) (fun a =>
  some a))

/-- slices.Contains   int int  -/
noncomputable def Z95 (A:Ar) (b:List D) (c:Int):Option (Bool) :=
 (Z141 A b c).bind fun a =>
 some (A.zle 0 a)

/--  *lineal code.run .order$1 -/
noncomputable def Z97 (A:Ar) (d e:Int) (w y:List D) (z B C E F g i j k l m n o p q r s u:Int) (v a:List D):Option (Int) :=
 (gt A (cI .i64) a d).bind fun b =>
 (gt A (cI .i64) a e).bind fun c =>
 some (A.wrp .i64 (A.zsub b c))

noncomputable def Z96 (A:Ar) (c p:Int) (y z:List D) (B C E F G d e g i j k l m n o q r s:Int) (u v w:List D):Option (List D):=srt (cI .i64) (fun a b=>Z97 A a b y z B C E F G d e g i j k l m n o q r s u v) c p w

noncomputable def Z96a (A:Ar) (a n s:List D) (u v w y z B b c d e g i j k l m o p:Int) (q r:List D):Option Unit:=ck (A.zeq (A.len a) 0)

noncomputable def Z56L0 (A:Ar) (d:List D):(Int×List D)→Option ((Int×List D)⊕(List D)):=fun (a,b) =>
 bif (A.zlt a (A.len d)) then
  (ap A b [(.int .i64 a)]).bind fun c =>
  some (.inl ((A.wrp .i64 (A.zadd a 1)),c))
 else
  some (.inr b)

/--  *lineal code.run .order -/
noncomputable def Z56 (A:Ar) (d q:List D) (s u v w y z B e g i j k l m n o p r:Int) (b c:List D):Option (List D×Bool) :=
 ((
  (Z55 A d q s u v w y z B e g i j k l m n o p r b c).bind fun E =>
  bif (A.zlt 0 (A.len E)) then
   some true
  else
   (Z95 A c 0).bind fun F =>
   some F:Option (Bool))).bind fun J =>
 bif J then
  some ([],false)
 else
  (ck (A.zle 0 (A.len b))).bind fun _ =>
  (ck (A.zle 0 0)).bind fun _ =>
  (ck (A.fits (A.len b))).bind fun _ =>
  (iter (Z56L0 A b) (0,(A.rep 0 (.int .i64 0)))).bind (fun a =>
  bif (A.zlt 0 (A.len a)) then
   (Z96 A 0 (A.len a) d q s u v w y z B e g i j k l m n o p r b c a).bind fun G =>
   (fz A G 0 (A.len a)).bind fun C =>
   some (C,true)
  else
   (Z96a A a d q s u v w y z B e g i j k l m n o p r b c).bind fun () =>
   some (a,true))

noncomputable def Z64L0 (A:Ar) (b g:List D):Int→Option ((Int)⊕((Unit)⊕(Unit))):=fun a =>
 bif (A.zlt a (A.len b)) then
  (gt A (cI .i64) g a).bind fun c =>
  (gt A (cL 4) b a).bind fun d =>
  (Z77 A 0 c (A.wrp .i64 (A.zsub (A.len d) 1))).bind fun e =>
  bif e then
   some (.inl (A.wrp .i64 (A.zadd a 1)))
  else
   some (.inr (.inr ()))
 else
  some (.inr (.inl ()))

/-- lineal linealref08.AreMarks -/
noncomputable def Z64 (A:Ar) (a b:List D):Option (Bool) :=
 bif (A.zeq (A.len b) (A.len a)) then
  (iter (Z64L0 A a b) 0).bind (Sum.elim (fun _ =>
   some true) (fun _ =>
   some false))
 else
  some false

/--  *lineal code.run .has -/
noncomputable def Z94b (A:Ar) (a:Int) (u b:List D) (j B C E F G k i l m n o p q r s v w:Int) (y z:List D):Option (Bool) :=
 ((
  (Z82 A 0 a (A.wrp .i64 (A.zsub (A.len b) 1))).bind fun e =>
  bif e then
   bif (A.zeq a 0) then
    (gt A (cL 1) b a).bind fun c =>
    some (A.zlt j (A.len c))
   else
    bif (A.zeq a 1) then
     (gt A (cL 1) b a).bind fun d =>
     some (A.zlt i (A.len d))
    else
     none
  else
   some false:Option (Bool))).bind fun g =>
 some g

noncomputable def Z55aL0 (A:Ar) (i c:List D) (y z B C E F G j k l m n o p q r s u:Int) (v w:List D):(List D×Int)→Option ((List D×Int)⊕(List D)):=fun (b,a) =>
 bif (A.zlt a (A.len c)) then
  (Z94b A a i c y z B C E F G j k l m n o p q r s u v w).bind fun e =>
  ((
   bif e then
    (ap A b [(.int .i64 a)]).bind fun d =>
    some d
   else
    some b:Option (List D))).bind fun g =>
  some (.inl (g,(A.wrp .i64 (A.zadd a 1))))
 else
  some (.inr b)

/--  *lineal code.run .left -/
noncomputable def Z55a (A:Ar) (b o:List D) (s u v w y z B c d e g i j k l m n p:Int) (q r:List D):Option (List D) :=
 (iter (Z55aL0 A b o s u v w y z B c d e g i j k l m n p q r) ([],0)).bind (fun a =>
 some a)

/--  lineal spec.machine .state$1 -/
noncomputable def Z180 (A:Ar) (b c d:Int) (e g:List D):Option (Bool) :=
 (Z115 A 0 b (A.wrp .i64 (A.zsub c 1))).bind fun a =>
 some (!a)

noncomputable def Z189cL0 (A:Ar) (b:List D) (e g:Int) (i j:List D):Int→Option ((Int)⊕((Unit)⊕(Int))):=fun a =>
 bif (A.zlt a (A.len b)) then
  (gt A (cI .i64) b a).bind fun c =>
  (Z180 A c e g i j).bind fun d =>
  bif d then
   some (.inr (.inr a))
  else
   some (.inl (A.wrp .i64 (A.zadd a 1)))
 else
  some (.inr (.inl ()))

/-- slices.IndexFunc   int int  -/
noncomputable def Z189c (A:Ar) (b:List D) (c d:Int) (e g:List D):Option (Int) :=
 (iter (Z189cL0 A b c d e g) 0).bind (Sum.elim (fun _ =>
  some (-1)) (fun a =>
  some a))

/-- slices.ContainsFunc   int int  -/
noncomputable def Z158c (A:Ar) (b:List D) (c d:Int) (e g:List D):Option (Bool) :=
 (Z189c A b c d e g).bind fun a =>
 some (A.zle 0 a)

/--  lineal spec.machine .state -/
noncomputable def Z145 (A:Ar) (b c:Int) (d e g:List D):Option (Bool) :=
 (Z158c A g b c d e).bind fun a =>
 some (!a)

/--  lineal spec.machine .calls$1 -/
noncomputable def Z197 (A:Ar) (b d c:Int) (e g:List D):Option (Bool) :=
 (Z115 A 0 b (A.wrp .i64 (A.zsub c 1))).bind fun a =>
 some (!a)

noncomputable def Z189dL0 (A:Ar) (b:List D) (e g:Int) (i j:List D):Int→Option ((Int)⊕((Unit)⊕(Int))):=fun a =>
 bif (A.zlt a (A.len b)) then
  (gt A (cI .i64) b a).bind fun c =>
  (Z197 A c e g i j).bind fun d =>
  bif d then
   some (.inr (.inr a))
  else
   some (.inl (A.wrp .i64 (A.zadd a 1)))
 else
  some (.inr (.inl ()))

/-- slices.IndexFunc   int int  -/
noncomputable def Z189d (A:Ar) (b:List D) (c d:Int) (e g:List D):Option (Int) :=
 (iter (Z189dL0 A b c d e g) 0).bind (Sum.elim (fun _ =>
  some (-1)) (fun a =>
  some a))

/-- slices.ContainsFunc   int int  -/
noncomputable def Z158d (A:Ar) (b:List D) (c d:Int) (e g:List D):Option (Bool) :=
 (Z189d A b c d e g).bind fun a =>
 some (A.zle 0 a)

/--  lineal spec.machine .calls -/
noncomputable def Z181 (A:Ar) (b c:Int) (d e g:List D):Option (Bool) :=
 (Z158d A g b c d e).bind fun a =>
 some (!a)

/--  lineal spec.machine .word -/
noncomputable def Z146 (A:Ar) (d e:Int) (g i a:List D):Option (Bool) :=
 ((
  bif (A.zle (A.len a) 20) then
   (Z181 A d e g i a).bind fun b =>
   some b
  else
   some false:Option (Bool))).bind fun c =>
 some c

/-- lineal spec.Run$1 -/
noncomputable def Z144 (A:Ar) (a b:Int) (c d:List D) (j:Int) (k:List D):Option (Bool) :=
 ((
  (Z145 A a b c d [(.int .i64 j)]).bind fun g =>
  bif g then
   (Z146 A a b c d k).bind fun e =>
   some e
  else
   some false:Option (Bool))).bind fun i =>
 some i

/-- lineal spec.opened -/
noncomputable def Z143 (A:Ar) (a b:Int) (c d:List D) (i:Int) (j:List D):Option (Int×Int×List D×List D×Int) :=
 (Z81 A a b c d).bind fun g =>
 bif g then
  (Z144 A a b c d i j).bind fun e =>
  bif e then
   some (a,b,c,d,0)
  else
   some (0,0,[],[],2)
 else
  some (0,0,[],[],10)

noncomputable def Z147L0 (A:Ar) (m n e:List D):(Int×List D×Int)→Option ((Int×List D×Int)⊕(Int×List D)):=fun (a,d,b) =>
 bif (A.zlt b (A.len e)) then
  (gt A (cI .i64) e b).bind fun c =>
  (gt A (cL 1) n a).bind fun g =>
  (gt A (cI .i64) g c).bind fun i =>
  (ap A d [(.int .i64 i)]).bind fun l =>
  (gt A (cL 1) m a).bind fun j =>
  (gt A (cI .i64) j c).bind fun k =>
  some (.inl (k,l,(A.wrp .i64 (A.zadd b 1))))
 else
  some (.inr (a,d))

/--  lineal spec.machine .run -/
noncomputable def Z147 (A:Ar) (i j:Int) (c d:List D) (e:Int) (g:List D):Option (List D×Int) :=
 (iter (Z147L0 A c d g) (e,[],0)).bind (fun (a,b) =>
 some (b,a))

/-- lineal spec.Run -/
noncomputable def Z98 (A:Ar) (l m:Int) (n o:List D) (b:Int) (c:List D):Option (List D×Int×Int) :=
 (Z143 A l m n o b c).bind fun (j,k,d,e,a) =>
 bif (A.zeq a 0) then
  (Z147 A j k d e b c).bind fun (g,i) =>
  some (g,i,0)
 else
  some ([],0,a)

noncomputable def Z99L0 (A:Ar) (b e:List D):Int→Option ((Int)⊕((Unit)⊕(Unit))):=fun a =>
 bif (A.zlt a (A.len b)) then
  (gt A (cI .i64) b a).bind fun c =>
  (gt A (cI .i64) e a).bind fun d =>
  bif (A.zeq c d) then
   some (.inl (A.wrp .i64 (A.zadd a 1)))
  else
   some (.inr (.inr ()))
 else
  some (.inr (.inl ()))

/-- slices.Equal   int int  -/
noncomputable def Z99 (A:Ar) (a b:List D):Option (Bool) :=
 bif (A.zeq (A.len a) (A.len b)) then
  (iter (Z99L0 A a b) 0).bind (Sum.elim (fun _ =>
   some true) (fun _ =>
   some false))
 else
  some false

noncomputable def Z57L0 (A:Ar) (l d:List D):(List D×List D×Int)→Option ((List D×List D×Int)⊕(List D×List D)):=fun (b,c,a) =>
 bif (A.zlt a (A.len d)) then
  (gt A (cI .i64) d a).bind fun e =>
  (gt A (cG (lc (cI .i64) (lc (cI .i64) (lc (cI .i64) (lc (cI .i64) (lc (cI .i64) (l1 (cI .i64)))))))) l e).bind fun (m,n,g,i,o,p) =>
  (ap A b [(.int .i64 g)]).bind fun j =>
  (ap A c [(.int .i64 i)]).bind fun k =>
  some (.inl (j,k,(A.wrp .i64 (A.zadd a 1))))
 else
  some (.inr (b,c))

/-- lineal code.allowed -/
noncomputable def Z57 (A:Ar) (i j:Int) (k l m n:List D):Option (Bool) :=
 (iter (Z57L0 A m n) ([],[],0)).bind (fun (d,e) =>
 (Z98 A i j k l 0 d).bind fun (a,o,b) =>
 ((
  bif (A.zeq b 0) then
   (Z99 A a e).bind fun c =>
   some c
  else
   some false:Option (Bool))).bind fun g =>
 some g)

/-- lineal code.Marked$1 -/
noncomputable def Z54 (A:Ar) (b o:List D) (r s u v w y z c d e g i j k l m n p:Int) (a q N:List D) (J K:Int) (L M:List D):Option (Bool) :=
 (Z55 A b o r s u v w y z c d e g i j k l m n p a q).bind fun B =>
 bif (A.zlt 0 (A.len B)) then
  some true
 else
  (Z56 A b o r s u v w y z c d e g i j k l m n p a q).bind fun (C,E) =>
  ((
   bif E then
    (Z57 A J K L M a C).bind fun F =>
    some F
   else
    some false:Option (Bool))).bind fun G =>
  some G

/-- slices.Clone   lineal api.Call lineal api.Call  -/
noncomputable def Z117 (A:Ar) (a:List D):Option (List D) :=
 bif (A.zlt 0 (A.len a)) then
  (ap A [] a).bind fun b =>
  some b
 else
  both (
   some []) (
   (ap A [] a).bind fun c =>
   some c)

/-- slices.Clone   int int  -/
noncomputable def Z39 (A:Ar) (a:List D):Option (List D) :=
 bif (A.zlt 0 (A.len a)) then
  (ap A [] a).bind fun b =>
  some b
 else
  both (
   some []) (
   (ap A [] a).bind fun c =>
   some c)

/--  lineal code.run .clone -/
noncomputable def Z83 (A:Ar) (c p:List D) (u v w y z B C d e g i j k l m n o q:Int) (r s:List D):Option (List D×List D×Int×Int×Int×Int×Int×Int×Int×Int×Int×Int×Int×Int×Int×Int×Int×Int×Int×Int×List D×List D) :=
 (Z117 A r).bind fun a =>
 (ck (scalars a)).bind fun _ =>
 (Z39 A s).bind fun b =>
 (ck (scalars b)).bind fun _ =>
 some (c,p,u,v,w,y,z,B,C,d,e,g,i,j,k,l,m,n,o,q,a,b)

noncomputable def Z36aL0 (A:Ar) (x1 x2:List D) (x3 x4 x5 x6 x7 x8 x9 m0 n0 o0 p0 q0 r0 s0 u0 v0 w0 y0:Int) (z0 a1:List D) (b1:Int) (G a:List D) (c1 d1:Int) (e1 g1 F:List D) (self162:List D→List D→Int→Int→Int→Int→Int→Int→Int→Int→Int→Int→Int→Int→Int→Int→Int→Int→Int→Int→List D→List D→Int→List D→List D→Int→Int→List D→List D→Option (Bool)):Int→Option ((Int)⊕((Unit)⊕(List D×List D×Int×Int×Int×Int×Int×Int×Int×Int×Int×Int×Int×Int×Int×Int×Int×Int×Int×Int×List D×List D))):=fun b =>
 bif (A.zlt b (A.len F)) then
  (gt A (cI .i64) F b).bind fun c =>
  (Z83 A x1 x2 x3 x4 x5 x6 x7 x8 x9 m0 n0 o0 p0 q0 r0 s0 u0 v0 w0 y0 z0 a1).bind fun (L,M,N,O,P,Q,R,S,U,V,W,X,Y,a0,b0,c0,d0,e0,g0,i0,j0,k0) =>
  (Z84 A c G L M N O P Q R S U V W X Y a0 b0 c0 d0 e0 g0 i0 j0 k0).bind fun (d,e,g,i,j,k,l,m,n,o,p,q,r,s,u,v,w,y,z,B,C,E) =>
  (sl A a 0 (A.len a)).bind fun J =>
  (ck (A.zeq (A.len a) (A.len a))).bind fun _ =>
  (ap A J [(.int .i64 c)]).bind fun K =>
  (self162 d e g i j k l m n o p q r s u v w y z B C E b1 G K c1 d1 e1 g1).bind fun l0 =>
  bif l0 then
   some (.inl (A.wrp .i64 (A.zadd b 1)))
  else
   some (.inr (.inr (d,e,g,i,j,k,l,m,n,o,p,q,r,s,u,v,w,y,z,B,C,E)))
 else
  some (.inr (.inl ()))
end Go.Am
