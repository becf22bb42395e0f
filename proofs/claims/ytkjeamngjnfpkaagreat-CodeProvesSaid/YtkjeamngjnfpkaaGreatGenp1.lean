/- Own text: Genp1. -/
import Derived.Test.YtkjeamngjnfpkaaGreatGenp0
set_option maxRecDepth 100000
set_option maxHeartbeats 2000000
set_option linter.unusedVariables false
set_option linter.unusedSimpArgs false
namespace Go.Am
open Go
noncomputable def Z36aR (A:Ar):Nat→List D→List D→Int→Int→Int→Int→Int→Int→Int→Int→Int→Int→Int→Int→Int→Int→Int→Int→Int→Int→List D→List D→Int→List D→List D→Int→Int→List D→List D→Option (Bool)
 | 0=>fun _ _ _ _ _ _ _ _ _ _ _ _ _ _ _ _ _ _ _ _ _ _ _ _ _ _ _ _ _=>none
 | n+1=>fun a o C E F G J K L b c d e g i j k l m p q r s u v w y z B=>Z36aB A (Z36aR A n) a o C E F G J K L b c d e g i j k l m p q r s u v w y z B

noncomputable def Z36a (A:Ar) (a n:List D) (B C E F G J K b c d e g i j k l m o:Int) (p q:List D) (r:Int) (s u:List D) (v w:Int) (y z:List D):Option (Bool):=Z36aR A fuel a n B C E F G J K b c d e g i j k l m o p q r s u v w y z

noncomputable def Z36L0 (A:Ar) (x1 x2:List D) (x3 x4 x5 x6 x7 x8 x9 m0 n0 o0 p0 q0 r0 s0 u0 v0 w0 y0 z0:Int) (G a:List D) (a1 b1:Int) (c1 d1 e1 g1 F:List D):Int→Option ((Int)⊕((Unit)⊕(List D×List D×Int×Int×Int×Int×Int×Int×Int×Int×Int×Int×Int×Int×Int×Int×Int×Int×Int×Int×List D×List D))):=fun b =>
 bif (A.zlt b (A.len F)) then
  (gt A (cI .i64) F b).bind fun c =>
  (Z83 A x1 x2 x3 x4 x5 x6 x7 x8 x9 m0 n0 o0 p0 q0 r0 s0 u0 v0 w0 y0 e1 g1).bind fun (L,M,N,O,P,Q,R,S,U,V,W,X,Y,a0,b0,c0,d0,e0,g0,i0,j0,k0) =>
  (Z84 A c G L M N O P Q R S U V W X Y a0 b0 c0 d0 e0 g0 i0 j0 k0).bind fun (d,e,g,i,j,k,l,m,n,o,p,q,r,s,u,v,w,y,z,B,C,E) =>
  (sl A a 0 (A.len a)).bind fun J =>
  (ck (A.zeq (A.len a) (A.len a))).bind fun _ =>
  (ap A J [(.int .i64 c)]).bind fun K =>
  (Z36a A d e g i j k l m n o p q r s u v w y z B C E z0 G K a1 b1 c1 d1).bind fun l0 =>
  bif l0 then
   some (.inl (A.wrp .i64 (A.zadd b 1)))
  else
   some (.inr (.inr (d,e,g,i,j,k,l,m,n,o,p,q,r,s,u,v,w,y,z,B,C,E)))
 else
  some (.inr (.inl ()))

/--  lineal code.run .all -/
noncomputable def Z36 (A:Ar) (b o:List D) (r s u v w y z c d e g i j k l m n a C:Int) (N E:List D) (F G:Int) (J K p q:List D):Option (Bool) :=
 (Z55a A b o r s u v w y z c d e g i j k l m n a p q).bind fun B =>
 ((
  bif (A.zeq (A.len B) 0) then
   some true
  else
   some (A.zeq a C):Option (Bool))).bind fun M =>
 bif M then
  (Z54 A b o r s u v w y z c d e g i j k l m n a p q E F G J K).bind fun L =>
  some L
 else
  (iter (Z36L0 A b o r s u v w y z c d e g i j k l m n a C N E F G J K p q B) 0).bind (Sum.elim (fun _ =>
   some true) (fun (O,P,Q,R,S,U,V,W,X,Y,a0,b0,c0,d0,e0,g0,i0,j0,k0,l0,m0,n0) =>
   some false))

/-- lineal code.Marked -/
noncomputable def Z16 (A:Ar) (c d:Int) (e g a i j:List D):Option (Bool×Int) :=
 (Z33 A c d e g a i).bind fun b =>
 bif (A.zeq b 0) then
  (Z53 A a j).bind fun k =>
  bif k then
   (Z35 A a i).bind fun (l,m) =>
   (Z36 A l m 0 0 0 0 0 0 0 0 0 0 0 0 0 0 0 0 0 0 12 j [] c d e g [] []).bind fun n =>
   some (n,0)
  else
   some (false,2)
 else
  some (false,b)

/--  *lineal code.run .has -/
noncomputable def Z94c (A:Ar) (k b:List D) (j z B C E F G i l m n o p q r s u v:Int) (w y:List D) (a:Int):Option (Bool) :=
 ((
  (Z82 A 0 a (A.wrp .i64 (A.zsub (A.len b) 1))).bind fun e =>
  bif e then
   bif (A.zeq a 0) then
    (gt A (cL 1) b a).bind fun c =>
    some (A.zlt j (A.len c))
   else
    bif (A.zeq a 1) then
     (gt A (cL 1) b a).bind fun d =>
     some (A.zlt i (A.len d))
    else
     none
  else
   some false:Option (Bool))).bind fun g =>
 some g

noncomputable def Z55bL0 (A:Ar) (i c:List D) (y z B C E F G j k l m n o p q r s u:Int) (v w:List D):(List D×Int)→Option ((List D×Int)⊕(List D)):=fun (b,a) =>
 bif (A.zlt a (A.len c)) then
  (Z94c A i c y z B C E F G j k l m n o p q r s u v w a).bind fun e =>
  ((
   bif e then
    (ap A b [(.int .i64 a)]).bind fun d =>
    some d
   else
    some b:Option (List D))).bind fun g =>
  some (.inl (g,(A.wrp .i64 (A.zadd a 1))))
 else
  some (.inr b)

/--  *lineal code.run .left -/
noncomputable def Z55b (A:Ar) (b o:List D) (s u v w y z B c d e g i j k l m n p:Int) (q r:List D):Option (List D) :=
 (iter (Z55bL0 A b o s u v w y z B c d e g i j k l m n p q r) ([],0)).bind (fun a =>
 some a)

/-- lineal code.Left$1 -/
noncomputable def Z105 (A:Ar) (b o:List D) (s u v w y z B c d e g i j k l m n p:Int) (q r:List D):Option (List D) :=
 (Z55b A b o s u v w y z B c d e g i j k l m n p q r).bind fun a =>
 some a

/-- lineal code.behind -/
noncomputable def Z51a (A:Ar) (b c J:List D):Option (List D×Int) :=
 (Z40 A b c).bind fun a =>
 bif (A.zeq a 0) then
  (Z69 A b c J []).bind fun (F,G,d,e,g,i,j,k,l,m,n,o,p,q,r,s,u,v,w,y,z,B,C) =>
  bif C then
   (Z105 A F G d e g i j k l m n o p q r s u v w y z B).bind fun E =>
   some (E,0)
  else
   some ([],2)
 else
  some ([],a)

/-- lineal code.Left -/
noncomputable def Z71 (A:Ar) (c d e:List D):Option (List D×Int) :=
 (Z51a A c d e).bind fun (a,b) =>
 some (a,b)

noncomputable def Z28L0 (A:Ar) (o e g:List D) (p:Int):(List D×Int)→Option ((List D×Int)⊕((List D)⊕(List D×Bool×Bool))):=fun (b,c) =>
 bif (A.zlt c p) then
  (Z71 A o e b).bind fun (a,m) =>
  bif (A.zeq m 0) then
   bif (A.zeq (A.len a) 0) then
    some (.inr (.inr (b,true,true)))
   else
    (gc A (cI .i64) a 0).bind fun i =>
    ((
     bif (A.zlt c (A.len g)) then
      (gt A (cI .u8) g c).bind fun j =>
      (nk (A.zeq (A.len a) 0)).bind fun _ =>
      (gt A (cI .i64) a (A.rem (A.wrp .i64 j) (A.len a))).bind fun k =>
      some k
     else
      some i:Option (Int))).bind fun d =>
    ((
     bif (A.zlt d 0) then
      some true
     else
      some (A.zle (A.len e) d):Option (Bool))).bind fun n =>
    bif n then
     some (.inr (.inr ([],false,false)))
    else
     (ap A b [(.int .i64 d)]).bind fun l =>
     some (.inl (l,(A.wrp .i64 (A.zadd c 1))))
  else
   some (.inr (.inr ([],false,false)))
 else
  some (.inr (.inl b))

/-- lineal lineallaw08.schedule -/
noncomputable def Z28 (A:Ar) (m n:Int) (o p b c k:List D) (l:Int):Option (List D×Bool×Bool) :=
 (iter (Z28L0 A b c k l) ([],0)).bind (Sum.elim (fun a =>
  (Z71 A b c a).bind fun (d,e) =>
  some (a,(A.zeq (A.len d) 0),(A.zeq e 0))) (fun (g,i,j) =>
  some (g,i,j)))

/-- lineal history.index -/
noncomputable def Z107 (A:Ar) (b:List D) (c:Int):Option (Bool) :=
 (Z152 A 0 c (A.wrp .i64 (A.zsub (A.len b) 1))).bind fun a =>
 some a

noncomputable def Z73L0 (A:Ar) (k d:List D):(Int×List (D×D))→Option ((Int×List (D×D))⊕((List (D×D))⊕(List (D×D)))):=fun (c,a) =>
 bif (A.zlt c (A.len d)) then
  (gt A (cI .i64) d c).bind fun b =>
  ((
   (Z107 A k b).bind fun i =>
   bif i then
    (lk A cB a (.int .i64 b)).bind fun g=>g.elim (
     some false) fun e =>
    some e
   else
    some true:Option (Bool))).bind fun j =>
  bif j then
   some (.inr (.inr a))
  else
   some (.inl ((A.wrp .i64 (A.zadd c 1)),(A.mput a (.int .i64 b) (.bool true))))
 else
  some (.inr (.inl a))

noncomputable def Z73L1 (A:Ar) (b:List D) (g:List (D×D)):Int→Option ((Int)⊕((Unit)⊕(Unit))):=fun a =>
 bif (A.zlt a (A.len b)) then
  (gt A (cG (lc (cI .i64) (lc (cI .i64) (lc (cI .i64) (lc (cI .i64) (lc (cI .i64) (l1 (cI .i64)))))))) b a).bind fun (j,k,l,m,n,c) =>
  ((
   bif (A.zlt 0 c) then
    (lk A cB g (.int .i64 a)).bind fun e=>e.elim (
     some true) fun d =>
    some (!d)
   else
    some false:Option (Bool))).bind fun i =>
  bif i then
   some (.inr (.inr ()))
  else
   some (.inl (A.wrp .i64 (A.zadd a 1)))
 else
  some (.inr (.inl ()))

/-- lineal history.isOrder -/
noncomputable def Z73 (A:Ar) (a c:List D):Option (Bool) :=
 (iter (Z73L0 A a c) (0,[])).bind (Sum.elim (fun b =>
  (iter (Z73L1 A a b) 0).bind (Sum.elim (fun _ =>
   some true) (fun _ =>
   some false))) (fun d =>
  some false))

noncomputable def Z74L0 (A:Ar) (c:List D) (s:Int) (b:List D):Int→Option ((Int)⊕((Unit)⊕(Unit))):=fun a =>
 bif (A.zlt a (A.len b)) then
  (gt A (cI .i64) b a).bind fun d =>
  (gt A (cG (lc (cI .i64) (lc (cI .i64) (lc (cI .i64) (lc (cI .i64) (lc (cI .i64) (l1 (cI .i64)))))))) c s).bind fun (e,g,i,j,k,l) =>
  (gt A (cG (lc (cI .i64) (lc (cI .i64) (lc (cI .i64) (lc (cI .i64) (lc (cI .i64) (l1 (cI .i64)))))))) c d).bind fun (m,n,o,p,q,r) =>
  (Z75 A e g i j k l m n o p q r).bind fun u =>
  bif u then
   some (.inr (.inr ()))
  else
   some (.inl (A.wrp .i64 (A.zadd a 1)))
 else
  some (.inr (.inl ()))

noncomputable def Z74L1 (A:Ar) (e b:List D):Int→Option ((Int)⊕((Unit)⊕(Unit))):=fun a =>
 bif (A.zlt a (A.len b)) then
  (gt A (cI .i64) b a).bind fun c =>
  (sl A b 0 a).bind fun d =>
  (iter (Z74L0 A e c d) 0).bind (Sum.elim (fun _ =>
   some (.inl (A.wrp .i64 (A.zadd a 1)))) (fun _ =>
   some (.inr (.inr ()))))
 else
  some (.inr (.inl ()))

/-- lineal history.keeps -/
noncomputable def Z74 (A:Ar) (a b:List D):Option (Bool) :=
 (iter (Z74L1 A a b) 0).bind (Sum.elim (fun _ =>
  some true) (fun _ =>
  some false))

noncomputable def Z76L0 (A:Ar) (q r b:List D):(Int×Int×Int)→Option ((Int×Int×Int)⊕((Unit)⊕(Unit))):=fun (o,p,a) =>
 bif (A.zlt a (A.len b)) then
  (gt A (cI .i64) b a).bind fun c =>
  (gt A (cG (lc (cI .i64) (lc (cI .i64) (lc (cI .i64) (lc (cI .i64) (lc (cI .i64) (l1 (cI .i64)))))))) r c).bind fun (d,e,g,i,j,k) =>
  (Z108a A o p q d e g i j k).bind fun (l,m,n) =>
  bif n then
   some (.inl (l,m,(A.wrp .i64 (A.zadd a 1))))
  else
   some (.inr (.inr ()))
 else
  some (.inr (.inl ()))

/-- lineal history.allows -/
noncomputable def Z76 (A:Ar) (a b c:List D):Option (Bool) :=
 (iter (Z76L0 A a b c) (0,0,0)).bind (Sum.elim (fun _ =>
  some true) (fun _ =>
  some false))

/-- lineal history.IsOrder -/
noncomputable def Z29 (A:Ar) (d a b:List D):Option (Bool×Int) :=
 (Z72 A d a).bind fun c =>
 bif (A.zeq c 0) then
  ((
   (Z73 A a b).bind fun i =>
   bif i then
    (Z74 A a b).bind fun e =>
    bif e then
     (Z76 A d a b).bind fun g =>
     some g
    else
     some false
   else
    some false:Option (Bool))).bind fun j =>
  some (j,0)
 else
  some (false,c)

noncomputable def Z7L0 (A:Ar) (d e:List D):(List D×Int)→Option ((List D×Int)⊕(List D)):=fun (c,a) =>
 bif (A.zlt a (A.len d)) then
  ((
   bif (A.zlt a (A.len e)) then
    (gt A (cI .u8) e a).bind fun g =>
    (gt A (cL 4) d a).bind fun b =>
    (nk (A.zeq (A.len b) 0)).bind fun _ =>
    some (A.rem (A.wrp .i64 g) (A.len b))
   else
    some 0:Option (Int))).bind fun j =>
  (ap A c [(.int .i64 j)]).bind fun i =>
  some (.inl (i,(A.wrp .i64 (A.zadd a 1))))
 else
  some (.inr c)

/-- lineal lineallaw08.CodeProves -/
noncomputable def Z7 (A:Ar) (c d:Int) (e g a b n o:List D):Option (Bool) :=
 ((
  (Z8 A c d e g a b).bind fun p =>
  bif p then
   bif (A.zlt 60 (A.len o)) then
    some true
   else
    some (A.zlt 60 (A.len n))
  else
   some true:Option (Bool))).bind fun L =>
 bif L then
  (Z9 A).bind fun r =>
  some r
 else
  (iter (Z7L0 A a n) ([],0)).bind (fun m =>
  (Z16 A c d e g a b m).bind fun (j,s) =>
  (Z28 A c d e g a b o 12).bind fun (i,k,u) =>
  ((
   bif (A.zeq s 0) then
    some (!u)
   else
    some true:Option (Bool))).bind fun M =>
  bif M then
   some false
  else
   (Z26 A a b i m).bind fun (v,l) =>
   bif (A.zeq l 0) then
    (Z15 A a b i).bind fun (z,B) =>
    (Z24 A c d e g a b i).bind fun (C,E) =>
    (Z29 A [(.agg [(.int .i64 c),(.int .i64 d),(.list 1 e),(.list 1 g)])] z v).bind fun (F,G) =>
    ((
     bif (A.zeq B 0) then
      bif (A.zeq E 0) then
       bif (A.zeq G 0) then
        bif k then
         bif j then
          bif F then
           bif C then
            some false
           else
            (Z9 A).bind fun J =>
            some J
          else
           some false
         else
          (Z9 A).bind fun q =>
          some q
        else
         some false
       else
        some false
      else
       some false
     else
      some false:Option (Bool))).bind fun K =>
    some K
   else
    ((
     bif (A.zeq l 5) then
      bif k then
       bif j then
        some false
       else
        (Z9 A).bind fun w =>
        some w
      else
       (Z9 A).bind fun y =>
       some y
     else
      some false:Option (Bool))).bind fun N =>
    some N)
end Go.Am
