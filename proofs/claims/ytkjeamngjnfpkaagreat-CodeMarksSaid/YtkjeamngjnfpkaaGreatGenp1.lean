/- Own text: Genp1. -/
import Derived.Test.YtkjeamngjnfpkaaGreatGenp0
set_option maxRecDepth 100000
set_option maxHeartbeats 2000000
set_option linter.unusedVariables false
set_option linter.unusedSimpArgs false
namespace Go.Am
open Go
/--  lineal code.run .all -/
noncomputable def Z36aB (A:Ar) (self162:List D→List D→Int→Int→Int→Int→Int→Int→Int→Int→Int→Int→Int→Int→Int→Int→Int→Int→Int→Int→List D→List D→Int→List D→List D→Int→Int→List D→List D→Option (Bool)) (b o:List D) (r s u v w y z c d e g i j k l m n a:Int) (p q:List D) (C:Int) (N E:List D) (F G:Int) (J K:List D):Option (Bool) :=
 (Z55a A b o r s u v w y z c d e g i j k l m n a p q).bind fun B =>
 ((
  bif (A.zeq (A.len B) 0) then
   some true
  else
   some (A.zeq a C):Option (Bool))).bind fun M =>
 bif M then
  (Z54 A b o r s u v w y z c d e g i j k l m n a p q E F G J K).bind fun L =>
  some L
 else
  (iter (Z36aL0 A b o r s u v w y z c d e g i j k l m n a p q C N E F G J K B self162) 0).bind (Sum.elim (fun _ =>
   some true) (fun (O,P,Q,R,S,U,V,W,X,Y,a0,b0,c0,d0,e0,g0,i0,j0,k0,l0,m0,n0) =>
   some false))

noncomputable def Z36aR (A:Ar):Nat→List D→List D→Int→Int→Int→Int→Int→Int→Int→Int→Int→Int→Int→Int→Int→Int→Int→Int→Int→Int→List D→List D→Int→List D→List D→Int→Int→List D→List D→Option (Bool)
 | 0=>fun _ _ _ _ _ _ _ _ _ _ _ _ _ _ _ _ _ _ _ _ _ _ _ _ _ _ _ _ _=>none
 | n+1=>fun a o C E F G J K L b c d e g i j k l m p q r s u v w y z B=>Z36aB A (Z36aR A n) a o C E F G J K L b c d e g i j k l m p q r s u v w y z B

noncomputable def Z36a (A:Ar) (a n:List D) (B C E F G J K b c d e g i j k l m o:Int) (p q:List D) (r:Int) (s u:List D) (v w:Int) (y z:List D):Option (Bool):=Z36aR A fuel a n B C E F G J K b c d e g i j k l m o p q r s u v w y z

noncomputable def Z36L0 (A:Ar) (x1 x2:List D) (x3 x4 x5 x6 x7 x8 x9 m0 n0 o0 p0 q0 r0 s0 u0 v0 w0 y0 z0:Int) (G a:List D) (a1 b1:Int) (c1 d1 e1 g1 F:List D):Int→Option ((Int)⊕((Unit)⊕(List D×List D×Int×Int×Int×Int×Int×Int×Int×Int×Int×Int×Int×Int×Int×Int×Int×Int×Int×Int×List D×List D))):=fun b =>
 bif (A.zlt b (A.len F)) then
  (gt A (cI .i64) F b).bind fun c =>
  (Z83 A x1 x2 x3 x4 x5 x6 x7 x8 x9 m0 n0 o0 p0 q0 r0 s0 u0 v0 w0 y0 e1 g1).bind fun (L,M,N,O,P,Q,R,S,U,V,W,X,Y,a0,b0,c0,d0,e0,g0,i0,j0,k0) =>
  (Z84 A c G L M N O P Q R S U V W X Y a0 b0 c0 d0 e0 g0 i0 j0 k0).bind fun (d,e,g,i,j,k,l,m,n,o,p,q,r,s,u,v,w,y,z,B,C,E) =>
  (sl A a 0 (A.len a)).bind fun J =>
  (ck (A.zeq (A.len a) (A.len a))).bind fun _ =>
  (ap A J [(.int .i64 c)]).bind fun K =>
  (Z36a A d e g i j k l m n o p q r s u v w y z B C E z0 G K a1 b1 c1 d1).bind fun l0 =>
  bif l0 then
   some (.inl (A.wrp .i64 (A.zadd b 1)))
  else
   some (.inr (.inr (d,e,g,i,j,k,l,m,n,o,p,q,r,s,u,v,w,y,z,B,C,E)))
 else
  some (.inr (.inl ()))

/--  lineal code.run .all -/
noncomputable def Z36 (A:Ar) (b o:List D) (r s u v w y z c d e g i j k l m n a C:Int) (N E:List D) (F G:Int) (J K p q:List D):Option (Bool) :=
 (Z55a A b o r s u v w y z c d e g i j k l m n a p q).bind fun B =>
 ((
  bif (A.zeq (A.len B) 0) then
   some true
  else
   some (A.zeq a C):Option (Bool))).bind fun M =>
 bif M then
  (Z54 A b o r s u v w y z c d e g i j k l m n a p q E F G J K).bind fun L =>
  some L
 else
  (iter (Z36L0 A b o r s u v w y z c d e g i j k l m n a C N E F G J K p q B) 0).bind (Sum.elim (fun _ =>
   some true) (fun (O,P,Q,R,S,U,V,W,X,Y,a0,b0,c0,d0,e0,g0,i0,j0,k0,l0,m0,n0) =>
   some false))

/-- lineal code.Marked -/
noncomputable def Z16 (A:Ar) (c d:Int) (e g a i j:List D):Option (Bool×Int) :=
 (Z33 A c d e g a i).bind fun b =>
 bif (A.zeq b 0) then
  (Z53 A a j).bind fun k =>
  bif k then
   (Z35 A a i).bind fun (l,m) =>
   (Z36 A l m 0 0 0 0 0 0 0 0 0 0 0 0 0 0 0 0 0 0 12 j [] c d e g [] []).bind fun n =>
   some (n,0)
  else
   some (false,2)
 else
  some (false,b)

/--  *lineal code.run .has -/
noncomputable def Z94c (A:Ar) (k b:List D) (j z B C E F G i l m n o p q r s u v:Int) (w y:List D) (a:Int):Option (Bool) :=
 ((
  (Z82 A 0 a (A.wrp .i64 (A.zsub (A.len b) 1))).bind fun e =>
  bif e then
   bif (A.zeq a 0) then
    (gt A (cL 1) b a).bind fun c =>
    some (A.zlt j (A.len c))
   else
    bif (A.zeq a 1) then
     (gt A (cL 1) b a).bind fun d =>
     some (A.zlt i (A.len d))
    else
     none
  else
   some false:Option (Bool))).bind fun g =>
 some g

/--  *lineal linealref08.Play .HasLine -/
noncomputable def Z103a (A:Ar) (p g r i:List D) (s u v w:Int) (y q:List D) (a:Int):Option (Bool) :=
 ((
  (gt A (cG (lc (cI .i64) (lc (cI .i64) (lc cB (lc (cI .i64) (lc (cI .i64) (lc (cI .i64) (lc (cI .i64) (l1 (cI .i64)))))))))) i a).bind fun (b,j,c,k,l,m,n,o) =>
  bif c then
   some true
  else
   (gt A (cL 1) g a).bind fun d =>
   some (A.zlt b (A.len d)):Option (Bool))).bind fun e =>
 some e

noncomputable def Z65aL0 (A:Ar) (d b g i:List D) (j k l m:Int) (n e:List D):Int→Option ((Int)⊕((Unit)⊕(Unit))):=fun a =>
 bif (A.zlt a (A.len b)) then
  (Z103a A d b g i j k l m n e a).bind fun c =>
  bif c then
   some (.inr (.inr ()))
  else
   some (.inl (A.wrp .i64 (A.zadd a 1)))
 else
  some (.inr (.inl ()))

/--  *lineal linealref08.Play .Over -/
noncomputable def Z65a (A:Ar) (a c d e:List D) (g i j k:Int) (l b:List D):Option (Bool) :=
 (iter (Z65aL0 A a c d e g i j k l b) 0).bind (Sum.elim (fun _ =>
  some true) (fun _ =>
  some false))

/--  *lineal linealref08.Play .copied -/
noncomputable def Z148 (A:Ar) (d g i j:List D) (k l m n:Int) (o e:List D):Option (List D×List D×List D×Int×Int×Int×Int×List D×List D×List D) :=
 (ap A [] j).bind fun a =>
 (ap A [] o).bind fun b =>
 (ap A [] e).bind fun c =>
 some (d,g,i,k,l,m,n,a,b,c)

/--  *lineal linealref08.Play .Step -/
noncomputable def Z104a (A:Ar) (a:Int) (x2 x3 x4:List D) (w r s u:Int) (y G n0:List D):Option (List D×List D×List D×Int×Int×Int×Int×List D×List D×List D) :=
 (ck (A.zle 0 a)).bind fun _ =>
 (ck (A.zlt a (A.len y))).bind fun _ =>
 (gc A (cG (lc (cI .i64) (lc (cI .i64) (lc cB (lc (cI .i64) (lc (cI .i64) (lc (cI .i64) (lc (cI .i64) (l1 (cI .i64)))))))))) y (A.nat a)).bind fun (b0,k4,k1,l4,m4,n4,o4,p4) =>
 ((
  bif k1 then
   some (y,G,n0)
  else
   (gt A (cL 1) x3 a).bind fun i2 =>
   (gc A (cG (lc (cI .i64) (lc (cI .i64) (lc cB (lc (cI .i64) (lc (cI .i64) (lc (cI .i64) (lc (cI .i64) (l1 (cI .i64)))))))))) (A.lset y (A.nat a) (.agg [(.int .i64 (A.wrp .i64 (A.zadd b0 1))),(.int .i64 0),(.bool true),(.int .i64 (A.len G)),(.int .i64 0),(.int .i64 1),(.int .i64 0),(.int .i64 0)])) (A.nat a)).bind fun (p2,v4,d5,i5,j5,k5,l5,m5) =>
   (gt A (cI .i64) i2 (A.wrp .i64 (A.zsub p2 1))).bind fun r2 =>
   (ap A G [(.agg [(.int .i64 a),(.int .i64 0),(.int .i64 r2),(.int .i64 0),(.int .i64 (A.wrp .i64 (A.zadd (A.wrp .i64 (A.zmul 2 w)) 1))),(.int .i64 0)])]).bind fun u2 =>
   (ap A n0 [(.int .i64 (-1))]).bind fun v2 =>
   some ((A.lset y (A.nat a) (.agg [(.int .i64 (A.wrp .i64 (A.zadd b0 1))),(.int .i64 0),(.bool true),(.int .i64 (A.len G)),(.int .i64 0),(.int .i64 1),(.int .i64 0),(.int .i64 0)])),u2,v2):Option (List D×List D×List D))).bind fun (g,o,F) =>
 (gc A (cG (lc (cI .i64) (lc (cI .i64) (lc cB (lc (cI .i64) (lc (cI .i64) (lc (cI .i64) (lc (cI .i64) (l1 (cI .i64)))))))))) g (A.nat a)).bind fun (i,d,j,c,k,l,m,n) =>
 (ck (A.zle 0 c)).bind fun _ =>
 (ck (A.zlt c (A.len o))).bind fun _ =>
 (gc A (cG (lc (cI .i64) (lc (cI .i64) (lc (cI .i64) (lc (cI .i64) (lc (cI .i64) (l1 (cI .i64)))))))) o (A.nat c)).bind fun (n5,o5,Y,p5,q5,r5) =>
 (gt A (cL 4) x2 Y).bind fun s2 =>
 (gt A (cG (lc (cI .i64) (lc (cI .i64) (lc (cI .i64) (l1 (cI .i64)))))) s2 d).bind fun (q,b,e,v) =>
 ((
  bif (A.zeq q 1) then
   (ck (A.zle 0 e)).bind fun _ =>
   (ck (A.zlt e (Int.ofNat 3))).bind fun _ =>
   (gc A (cI .i64) [(.int .i64 r),(.int .i64 s),(.int .i64 u)] (A.nat e)).bind fun E =>
   (ck (A.zle 0 b)).bind fun _ =>
   (ck (A.zlt b (Int.ofNat 4))).bind fun _ =>
   (gc A (cG (lc (cI .i64) (lc (cI .i64) (lc cB (lc (cI .i64) (lc (cI .i64) (lc (cI .i64) (lc (cI .i64) (l1 (cI .i64)))))))))) (A.lset g (A.nat a) (.agg [(.int .i64 i),(.int .i64 (A.wrp .i64 (A.zadd d 1))),(.bool j),(.int .i64 c),(.int .i64 k),(.int .i64 l),(.int .i64 m),(.int .i64 n)])) (A.nat a)).bind fun (o0,p0,q0,r0,s0,u0,v0,w0) =>
   some (r,s,u,(A.lset (A.lset g (A.nat a) (.agg [(.int .i64 i),(.int .i64 (A.wrp .i64 (A.zadd d 1))),(.bool j),(.int .i64 c),(.int .i64 k),(.int .i64 l),(.int .i64 m),(.int .i64 n)])) (A.nat a) (.agg [(.int .i64 o0),(.int .i64 p0),(.bool q0),(.int .i64 r0),(.int .i64 (bif A.zeq b (Int.ofNat 0) then E else s0)),(.int .i64 (bif A.zeq b (Int.ofNat 1) then E else u0)),(.int .i64 (bif A.zeq b (Int.ofNat 2) then E else v0)),(.int .i64 (bif A.zeq b (Int.ofNat 3) then E else w0))])),o)
  else
   ((
    bif (A.zeq q 2) then
     (ck (A.zle 0 e)).bind fun _ =>
     (ck (A.zlt e (Int.ofNat 4))).bind fun _ =>
     (gc A (cG (lc (cI .i64) (lc (cI .i64) (lc cB (lc (cI .i64) (lc (cI .i64) (lc (cI .i64) (lc (cI .i64) (l1 (cI .i64)))))))))) (A.lset g (A.nat a) (.agg [(.int .i64 i),(.int .i64 (A.wrp .i64 (A.zadd d 1))),(.bool j),(.int .i64 c),(.int .i64 k),(.int .i64 l),(.int .i64 m),(.int .i64 n)])) (A.nat a)).bind fun (e4,g4,i4,j4,y0,z0,a1,b1) =>
     (gc A (cI .i64) [(.int .i64 y0),(.int .i64 z0),(.int .i64 a1),(.int .i64 b1)] (A.nat e)).bind fun J =>
     (ck (A.zle 0 b)).bind fun _ =>
     (ck (A.zlt b (Int.ofNat 3))).bind fun _ =>
     some ((bif A.zeq b (Int.ofNat 0) then J else r),(bif A.zeq b (Int.ofNat 1) then J else s),(bif A.zeq b (Int.ofNat 2) then J else u),(A.lset g (A.nat a) (.agg [(.int .i64 i),(.int .i64 (A.wrp .i64 (A.zadd d 1))),(.bool j),(.int .i64 c),(.int .i64 k),(.int .i64 l),(.int .i64 m),(.int .i64 n)])),o)
    else
     ((
      bif (A.zeq q 3) then
       (ck (A.zle 0 b)).bind fun _ =>
       (ck (A.zlt b (Int.ofNat 3))).bind fun _ =>
       (gc A (cI .i64) [(.int .i64 r),(.int .i64 s),(.int .i64 u)] (A.nat b)).bind fun c1 =>
       (ck (A.zle 0 e)).bind fun _ =>
       (ck (A.zlt e (Int.ofNat 4))).bind fun _ =>
       (gc A (cG (lc (cI .i64) (lc (cI .i64) (lc cB (lc (cI .i64) (lc (cI .i64) (lc (cI .i64) (lc (cI .i64) (l1 (cI .i64)))))))))) (A.lset g (A.nat a) (.agg [(.int .i64 i),(.int .i64 (A.wrp .i64 (A.zadd d 1))),(.bool j),(.int .i64 c),(.int .i64 k),(.int .i64 l),(.int .i64 m),(.int .i64 n)])) (A.nat a)).bind fun (e1,g1,i1,j1,K,L,M,a0) =>
       (gc A (cI .i64) [(.int .i64 K),(.int .i64 L),(.int .i64 M),(.int .i64 a0)] (A.nat e)).bind fun d1 =>
       ((
        bif (A.zeq c1 d1) then
         (ck (A.zle 0 v)).bind fun _ =>
         (ck (A.zlt v (Int.ofNat 4))).bind fun _ =>
         (gc A (cI .i64) [(.int .i64 K),(.int .i64 L),(.int .i64 M),(.int .i64 a0)] (A.nat v)).bind fun N =>
         (ck (A.zle 0 b)).bind fun _ =>
         (ck (A.zlt b (Int.ofNat 3))).bind fun _ =>
         some (1,(bif A.zeq b (Int.ofNat 0) then N else r),(bif A.zeq b (Int.ofNat 1) then N else s),(bif A.zeq b (Int.ofNat 2) then N else u))
        else
         some (0,r,s,u):Option (Int×Int×Int×Int))).bind fun (w2,y2,z2,a3) =>
       some (y2,z2,a3,(A.lset (A.lset g (A.nat a) (.agg [(.int .i64 i),(.int .i64 (A.wrp .i64 (A.zadd d 1))),(.bool j),(.int .i64 c),(.int .i64 k),(.int .i64 l),(.int .i64 m),(.int .i64 n)])) (A.nat a) (.agg [(.int .i64 e1),(.int .i64 g1),(.bool i1),(.int .i64 j1),(.int .i64 K),(.int .i64 L),(.int .i64 M),(.int .i64 w2)])),o)
      else
       ((
        bif (A.zeq q 4) then
         (ck (A.zle 0 b)).bind fun _ =>
         (ck (A.zlt b (Int.ofNat 4))).bind fun _ =>
         (gc A (cG (lc (cI .i64) (lc (cI .i64) (lc cB (lc (cI .i64) (lc (cI .i64) (lc (cI .i64) (lc (cI .i64) (l1 (cI .i64)))))))))) (A.lset g (A.nat a) (.agg [(.int .i64 i),(.int .i64 (A.wrp .i64 (A.zadd d 1))),(.bool j),(.int .i64 c),(.int .i64 k),(.int .i64 l),(.int .i64 m),(.int .i64 n)])) (A.nat a)).bind fun (m1,n1,o1,p1,q1,r1,s1,u1) =>
         some ((A.lset (A.lset g (A.nat a) (.agg [(.int .i64 i),(.int .i64 (A.wrp .i64 (A.zadd d 1))),(.bool j),(.int .i64 c),(.int .i64 k),(.int .i64 l),(.int .i64 m),(.int .i64 n)])) (A.nat a) (.agg [(.int .i64 m1),(.int .i64 n1),(.bool o1),(.int .i64 p1),(.int .i64 (bif A.zeq b (Int.ofNat 0) then e else q1)),(.int .i64 (bif A.zeq b (Int.ofNat 1) then e else r1)),(.int .i64 (bif A.zeq b (Int.ofNat 2) then e else s1)),(.int .i64 (bif A.zeq b (Int.ofNat 3) then e else u1))])),o)
        else
         ((
          bif (A.zeq q 5) then
           (ck (A.zle 0 e)).bind fun _ =>
           (ck (A.zlt e (Int.ofNat 4))).bind fun _ =>
           (gc A (cG (lc (cI .i64) (lc (cI .i64) (lc cB (lc (cI .i64) (lc (cI .i64) (lc (cI .i64) (lc (cI .i64) (l1 (cI .i64)))))))))) (A.lset g (A.nat a) (.agg [(.int .i64 i),(.int .i64 (A.wrp .i64 (A.zadd d 1))),(.bool j),(.int .i64 c),(.int .i64 k),(.int .i64 l),(.int .i64 m),(.int .i64 n)])) (A.nat a)).bind fun (v1,w1,y1,z1,O,P,Q,R) =>
           (gc A (cI .i64) [(.int .i64 O),(.int .i64 P),(.int .i64 Q),(.int .i64 R)] (A.nat e)).bind fun z =>
           (ck (A.zle 0 v)).bind fun _ =>
           (ck (A.zlt v (Int.ofNat 4))).bind fun _ =>
           (gc A (cI .i64) [(.int .i64 O),(.int .i64 P),(.int .i64 Q),(.int .i64 R)] (A.nat v)).bind fun B =>
           (nk (A.zeq 10 0)).bind fun _ =>
           (ck (A.zle 0 b)).bind fun _ =>
           (ck (A.zlt b (Int.ofNat 4))).bind fun _ =>
           some ((A.lset (A.lset g (A.nat a) (.agg [(.int .i64 i),(.int .i64 (A.wrp .i64 (A.zadd d 1))),(.bool j),(.int .i64 c),(.int .i64 k),(.int .i64 l),(.int .i64 m),(.int .i64 n)])) (A.nat a) (.agg [(.int .i64 v1),(.int .i64 w1),(.bool y1),(.int .i64 z1),(.int .i64 (bif A.zeq b (Int.ofNat 0) then (A.rem (A.wrp .i64 (A.zadd z B)) 10) else O)),(.int .i64 (bif A.zeq b (Int.ofNat 1) then (A.rem (A.wrp .i64 (A.zadd z B)) 10) else P)),(.int .i64 (bif A.zeq b (Int.ofNat 2) then (A.rem (A.wrp .i64 (A.zadd z B)) 10) else Q)),(.int .i64 (bif A.zeq b (Int.ofNat 3) then (A.rem (A.wrp .i64 (A.zadd z B)) 10) else R))])),o)
          else
           ((
            bif (A.zeq q 6) then
             (ck (A.zle 0 b)).bind fun _ =>
             (ck (A.zlt b (Int.ofNat 4))).bind fun _ =>
             (gc A (cG (lc (cI .i64) (lc (cI .i64) (lc cB (lc (cI .i64) (lc (cI .i64) (lc (cI .i64) (lc (cI .i64) (l1 (cI .i64)))))))))) (A.lset g (A.nat a) (.agg [(.int .i64 i),(.int .i64 (A.wrp .i64 (A.zadd d 1))),(.bool j),(.int .i64 c),(.int .i64 k),(.int .i64 l),(.int .i64 m),(.int .i64 n)])) (A.nat a)).bind fun (b2,q4,c2,d2,c0,d0,e0,g0) =>
             (gc A (cI .i64) [(.int .i64 c0),(.int .i64 d0),(.int .i64 e0),(.int .i64 g0)] (A.nat b)).bind fun a2 =>
             ((
              bif (A.zeq a2 0) then
               some (A.lset (A.lset g (A.nat a) (.agg [(.int .i64 i),(.int .i64 (A.wrp .i64 (A.zadd d 1))),(.bool j),(.int .i64 c),(.int .i64 k),(.int .i64 l),(.int .i64 m),(.int .i64 n)])) (A.nat a) (.agg [(.int .i64 b2),(.int .i64 e),(.bool c2),(.int .i64 d2),(.int .i64 c0),(.int .i64 d0),(.int .i64 e0),(.int .i64 g0)]))
              else
               some (A.lset g (A.nat a) (.agg [(.int .i64 i),(.int .i64 (A.wrp .i64 (A.zadd d 1))),(.bool j),(.int .i64 c),(.int .i64 k),(.int .i64 l),(.int .i64 m),(.int .i64 n)])):Option (List D))).bind fun b3 =>
             some (b3,o)
            else
             ((
              bif (A.zeq q 7) then
               (gc A (cG (lc (cI .i64) (lc (cI .i64) (lc cB (lc (cI .i64) (lc (cI .i64) (lc (cI .i64) (lc (cI .i64) (l1 (cI .i64)))))))))) (A.lset g (A.nat a) (.agg [(.int .i64 i),(.int .i64 (A.wrp .i64 (A.zadd d 1))),(.bool j),(.int .i64 c),(.int .i64 k),(.int .i64 l),(.int .i64 m),(.int .i64 n)])) (A.nat a)).bind fun (e2,g2,r4,p,i0,j0,k0,l0) =>
               (ck (A.zle 0 p)).bind fun _ =>
               (ck (A.zlt p (A.len o))).bind fun _ =>
               (gc A (cG (lc (cI .i64) (lc (cI .i64) (lc (cI .i64) (lc (cI .i64) (lc (cI .i64) (l1 (cI .i64)))))))) o (A.nat p)).bind fun (S,U,V,W,X,s4) =>
               (ck (A.zle 0 b)).bind fun _ =>
               (ck (A.zlt b (Int.ofNat 4))).bind fun _ =>
               (gc A (cI .i64) [(.int .i64 i0),(.int .i64 j0),(.int .i64 k0),(.int .i64 l0)] (A.nat b)).bind fun j2 =>
               (ck (A.zle 0 p)).bind fun _ =>
               (ck (A.zlt p (A.len (A.lset o (A.nat p) (.agg [(.int .i64 S),(.int .i64 U),(.int .i64 V),(.int .i64 W),(.int .i64 X),(.int .i64 (A.wrp .i64 (A.zadd (A.wrp .i64 (A.zmul 2 w)) 2)))]))))).bind fun _ =>
               (gc A (cG (lc (cI .i64) (lc (cI .i64) (lc (cI .i64) (lc (cI .i64) (lc (cI .i64) (l1 (cI .i64)))))))) (A.lset o (A.nat p) (.agg [(.int .i64 S),(.int .i64 U),(.int .i64 V),(.int .i64 W),(.int .i64 X),(.int .i64 (A.wrp .i64 (A.zadd (A.wrp .i64 (A.zmul 2 w)) 2)))])) (A.nat p)).bind fun (k2,l2,m2,u4,n2,o2) =>
               some ((A.lset (A.lset g (A.nat a) (.agg [(.int .i64 i),(.int .i64 (A.wrp .i64 (A.zadd d 1))),(.bool j),(.int .i64 c),(.int .i64 k),(.int .i64 l),(.int .i64 m),(.int .i64 n)])) (A.nat a) (.agg [(.int .i64 e2),(.int .i64 g2),(.bool false),(.int .i64 p),(.int .i64 i0),(.int .i64 j0),(.int .i64 k0),(.int .i64 l0)])),(A.lset (A.lset o (A.nat p) (.agg [(.int .i64 S),(.int .i64 U),(.int .i64 V),(.int .i64 W),(.int .i64 X),(.int .i64 (A.wrp .i64 (A.zadd (A.wrp .i64 (A.zmul 2 w)) 2)))])) (A.nat p) (.agg [(.int .i64 k2),(.int .i64 l2),(.int .i64 m2),(.int .i64 j2),(.int .i64 n2),(.int .i64 o2)])))
              else
               some ((A.lset g (A.nat a) (.agg [(.int .i64 i),(.int .i64 (A.wrp .i64 (A.zadd d 1))),(.bool j),(.int .i64 c),(.int .i64 k),(.int .i64 l),(.int .i64 m),(.int .i64 n)])),o):Option (List D×List D))).bind fun (c3,d3) =>
             some (c3,d3):Option (List D×List D))).bind fun (e3,g3) =>
           some (e3,g3):Option (List D×List D))).bind fun (i3,j3) =>
         some (i3,j3):Option (List D×List D))).bind fun (k3,l3) =>
       some (r,s,u,k3,l3):Option (Int×Int×Int×List D×List D))).bind fun (m3,n3,o3,p3,q3) =>
     some (m3,n3,o3,p3,q3):Option (Int×Int×Int×List D×List D))).bind fun (r3,s3,u3,v3,w3) =>
   some (r3,s3,u3,v3,w3):Option (Int×Int×Int×List D×List D))).bind fun (y3,z3,a4,m0,b4) =>
 ((
  bif (A.zlt Y (A.len x4)) then
   (gt A (cI .i64) x4 Y).bind fun q2 =>
   some (A.zeq q2 d)
  else
   some false:Option (Bool))).bind fun c4 =>
 ((
  bif c4 then
   (gc A (cG (lc (cI .i64) (lc (cI .i64) (lc cB (lc (cI .i64) (lc (cI .i64) (lc (cI .i64) (lc (cI .i64) (l1 (cI .i64)))))))))) m0 (A.nat a)).bind fun (w4,y4,z4,C,a5,b5,c5,e5) =>
   (ck (A.zle 0 C)).bind fun _ =>
   (ck (A.zlt C (A.len F))).bind fun _ =>
   (gc A (cI .i64) F (A.nat C)).bind fun g5 =>
   some (A.lset F (A.nat C) (.int .i64 w))
  else
   some F:Option (List D))).bind fun d4 =>
 some (x2,x3,x4,(A.wrp .i64 (A.zadd w 1)),y3,z3,a4,m0,b4,d4)

noncomputable def Z102L0 (A:Ar) (d c g i:List D) (j k l m:Int) (n e U:List D) (V:Int) (self177:List D→List D→List D→List D→Int→Int→Int→Int→List D→List D→List D→Int→List D→Option (List D)):(List D×Int)→Option ((List D×Int)⊕(List D)):=fun (b,a) =>
 bif (A.zlt a (A.len c)) then
  (Z103a A d c g i j k l m n e a).bind fun q =>
  ((
   bif q then
    (Z148 A d c g i j k l m n e).bind fun (r,s,u,v,w,y,z,B,C,E) =>
    (Z104a A a r s u v w y z B C E).bind fun (F,G,J,K,L,M,N,O,P,Q) =>
    (ap A [] U).bind fun o =>
    (ap A o [(.int .i64 a)]).bind fun p =>
    (self177 F G J O K L M N P Q p (A.wrp .i64 (A.zsub V 1)) b).bind fun R =>
    some R
   else
    some b:Option (List D))).bind fun S =>
  some (.inl (S,(A.wrp .i64 (A.zadd a 1))))
 else
  some (.inr b)

/--  *lineal linealref08.Play .ends -/
noncomputable def Z102B (A:Ar) (self177:List D→List D→List D→List D→Int→Int→Int→Int→List D→List D→List D→Int→List D→Option (List D)) (a c d e:List D) (g i j k:Int) (l b m:List D) (n:Int) (o:List D):Option (List D) :=
 ((
  bif (A.zeq n 0) then
   some true
  else
   (Z65a A a c d e g i j k l b).bind fun q =>
   some q:Option (Bool))).bind fun s =>
 bif s then
  (ap A o [(.agg [(.ref [(.list 1 a),(.list 1 c),(.list 1 d),(.list 8 e),(.int .i64 g),(.int .i64 i),(.int .i64 j),(.int .i64 k),(.list 6 l),(.list 1 b)]),(.list 1 m)])]).bind fun p =>
  some p
 else
  (iter (Z102L0 A a c d e g i j k l b m n self177) (o,0)).bind (fun r =>
  some r)

noncomputable def Z102R (A:Ar):Nat→List D→List D→List D→List D→Int→Int→Int→Int→List D→List D→List D→Int→List D→Option (List D)
 | 0=>fun _ _ _ _ _ _ _ _ _ _ _ _ _=>none
 | n+1=>fun a g i j k l m o p b c d e=>Z102B A (Z102R A n) a g i j k l m o p b c d e

noncomputable def Z102 (A:Ar) (a g i j:List D) (k l m n:Int) (o b c:List D) (d:Int) (e:List D):Option (List D):=Z102R A fuel a g i j k l m n o b c d e

/-- lineal linealref08.all -/
noncomputable def Z62 (A:Ar) (g i j:List D) (k:Int):Option (List D) :=
 (Z101 A g i j).bind fun (b,c,d,e) =>
 (Z102 A b c d e 0 0 0 0 [] [] [] k []).bind fun a =>
 some a

noncomputable def Z66aL0 (A:Ar) (j i:List D) (e:Int):(List D×Int)→Option ((List D×Int)⊕(List D)):=fun (b,a) =>
 bif (A.zlt a (A.len j)) then
  (gt A (cI .i64) i a).bind fun c =>
  ((
   bif (A.zeq c e) then
    (ap A b [(.int .i64 a)]).bind fun d =>
    some d
   else
    some b:Option (List D))).bind fun g =>
  some (.inl (g,(A.wrp .i64 (A.zadd a 1))))
 else
  some (.inr b)

noncomputable def Z66aL1 (A:Ar) (e:Int) (g d:List D):(List D×Int)→Option ((List D×Int)⊕(List D)):=fun (b,a) =>
 bif (A.zlt a e) then
  (iter (Z66aL0 A g d a) (b,0)).bind (fun c =>
  some (.inl (c,(A.wrp .i64 (A.zadd a 1)))))
 else
  some (.inr b)

/--  *lineal linealref08.Play .order -/
noncomputable def Z66a (A:Ar) (g i j k:List D) (d l m n:Int) (a c:List D):Option (List D×Bool) :=
 (Z65a A g i j k d l m n a c).bind fun e =>
 bif e then
  (iter (Z66aL1 A d a c) ([],0)).bind (fun b =>
  some (b,(A.zeq (A.len b) (A.len a))))
 else
  some ([],false)

noncomputable def Z22L0 (A:Ar) (n o e c:List D):(Int×Int)→Option ((Int×Int)⊕((Unit)⊕(Unit))):=fun (d,a) =>
 bif (A.zlt a (A.len c)) then
  (gt A (cI .i64) c a).bind fun g =>
  (gt A (cG (lc (cI .i64) (lc (cI .i64) (lc (cI .i64) (lc (cI .i64) (lc (cI .i64) (l1 (cI .i64)))))))) e g).bind fun (p,q,b,i,r,s) =>
  (gt A (cL 1) o d).bind fun j =>
  (gt A (cI .i64) j b).bind fun k =>
  bif (A.zeq k i) then
   (gt A (cL 1) n d).bind fun l =>
   (gt A (cI .i64) l b).bind fun m =>
   some (.inl (m,(A.wrp .i64 (A.zadd a 1))))
  else
   some (.inr (.inr ()))
 else
  some (.inr (.inl ()))

noncomputable def Z22L1 (A:Ar) (s u o:List D):Int→Option ((Int)⊕((Unit)⊕(Unit))):=fun b =>
 bif (A.zlt b (A.len o)) then
  jn (fun (_:Unit) =>
   some (.inl (A.wrp .i64 (A.zadd b 1)))) fun c =>
   (gt A (cG (refN 10 (lc (cL 1) (lc (cL 1) (lc (cL 1) (lc (cL 8) (lc (cI .i64) (lc (cI .i64) (lc (cI .i64) (lc (cI .i64) (lc (cL 6) (lc (cL 1) (l1 (cL 1)))))))))))) (fun _=>lb rfl))) o b).bind fun (d,e,g,i,j,k,l,m,a,n,v) =>
   (Z65a A d e g i j k l m a n).bind fun p =>
   bif p then
    (Z66a A d e g i j k l m a n).bind fun (q,r) =>
    bif r then
     (iter (Z22L0 A s u a q) (0,0)).bind (Sum.elim (fun _ =>
      c ()) (fun _ =>
      some (.inr (.inr ()))))
    else
     some (.inr (.inr ()))
   else
    c ()
 else
  some (.inr (.inl ()))

/-- lineal linealref08.Marked -/
noncomputable def Z22 (A:Ar) (m n:Int) (d e a g i:List D):Option (Bool×Int) :=
 (Z60 A m n d e a g).bind fun b =>
 ((
  bif (A.zeq b 0) then
   (Z64 A a i).bind fun j =>
   some (!j)
  else
   some false:Option (Bool))).bind fun l =>
 ((
  bif l then
   some 2
  else
   some b:Option (Int))).bind fun c =>
 bif (A.zeq c 0) then
  (Z62 A a g i 12).bind fun k =>
  (iter (Z22L1 A d e k) 0).bind (Sum.elim (fun _ =>
   some (true,0)) (fun _ =>
   some (false,0)))
 else
  some (false,c)

/-- lineal code.Ends$1 -/
noncomputable def Z58 (A:Ar) (b o:List D) (s u v w y z B c d e g i j k l m n p:Int) (q r C:List D):Option (Bool) :=
 (Z55 A b o s u v w y z B c d e g i j k l m n p q r).bind fun a =>
 some (A.zeq (A.len a) 0)

noncomputable def Z36cL0 (A:Ar) (x1 x2:List D) (x3 x4 x5 x6 x7 x8 x9 m0 n0 o0 p0 q0 r0 s0 u0 v0 w0 y0:Int) (z0 a1:List D) (b1:Int) (G a F:List D) (self186:List D→List D→Int→Int→Int→Int→Int→Int→Int→Int→Int→Int→Int→Int→Int→Int→Int→Int→Int→Int→List D→List D→Int→List D→List D→Option (Bool)):Int→Option ((Int)⊕((Unit)⊕(List D×List D×Int×Int×Int×Int×Int×Int×Int×Int×Int×Int×Int×Int×Int×Int×Int×Int×Int×Int×List D×List D))):=fun b =>
 bif (A.zlt b (A.len F)) then
  (gt A (cI .i64) F b).bind fun c =>
  (Z83 A x1 x2 x3 x4 x5 x6 x7 x8 x9 m0 n0 o0 p0 q0 r0 s0 u0 v0 w0 y0 z0 a1).bind fun (L,M,N,O,P,Q,R,S,U,V,W,X,Y,a0,b0,c0,d0,e0,g0,i0,j0,k0) =>
  (Z84 A c G L M N O P Q R S U V W X Y a0 b0 c0 d0 e0 g0 i0 j0 k0).bind fun (d,e,g,i,j,k,l,m,n,o,p,q,r,s,u,v,w,y,z,B,C,E) =>
  (sl A a 0 (A.len a)).bind fun J =>
  (ck (A.zeq (A.len a) (A.len a))).bind fun _ =>
  (ap A J [(.int .i64 c)]).bind fun K =>
  (self186 d e g i j k l m n o p q r s u v w y z B C E b1 G K).bind fun l0 =>
  bif l0 then
   some (.inl (A.wrp .i64 (A.zadd b 1)))
  else
   some (.inr (.inr (d,e,g,i,j,k,l,m,n,o,p,q,r,s,u,v,w,y,z,B,C,E)))
 else
  some (.inr (.inl ()))

/--  lineal code.run .all -/
noncomputable def Z36cB (A:Ar) (self186:List D→List D→Int→Int→Int→Int→Int→Int→Int→Int→Int→Int→Int→Int→Int→Int→Int→Int→Int→Int→List D→List D→Int→List D→List D→Option (Bool)) (b o:List D) (r s u v w y z c d e g i j k l m n a:Int) (p q:List D) (C:Int) (J E:List D):Option (Bool) :=
 (Z55a A b o r s u v w y z c d e g i j k l m n a p q).bind fun B =>
 ((
  bif (A.zeq (A.len B) 0) then
   some true
  else
   some (A.zeq a C):Option (Bool))).bind fun G =>
 bif G then
  (Z58 A b o r s u v w y z c d e g i j k l m n a p q E).bind fun F =>
  some F
 else
  (iter (Z36cL0 A b o r s u v w y z c d e g i j k l m n a p q C J E B self186) 0).bind (Sum.elim (fun _ =>
   some true) (fun (K,L,M,N,O,P,Q,R,S,U,V,W,X,Y,a0,b0,c0,d0,e0,g0,i0,j0) =>
   some false))

noncomputable def Z36cR (A:Ar):Nat→List D→List D→Int→Int→Int→Int→Int→Int→Int→Int→Int→Int→Int→Int→Int→Int→Int→Int→Int→Int→List D→List D→Int→List D→List D→Option (Bool)
 | 0=>fun _ _ _ _ _ _ _ _ _ _ _ _ _ _ _ _ _ _ _ _ _ _ _ _ _=>none
 | n+1=>fun a o w y z B C E F b c d e g i j k l m p q r s u v=>Z36cB A (Z36cR A n) a o w y z B C E F b c d e g i j k l m p q r s u v

noncomputable def Z36c (A:Ar) (a n:List D) (v w y z B C E b c d e g i j k l m o:Int) (p q:List D) (r:Int) (s u:List D):Option (Bool):=Z36cR A fuel a n v w y z B C E b c d e g i j k l m o p q r s u

noncomputable def Z36bL0 (A:Ar) (x1 x2:List D) (x3 x4 x5 x6 x7 x8 x9 m0 n0 o0 p0 q0 r0 s0 u0 v0 w0 y0 z0:Int) (G a a1 b1 F:List D):Int→Option ((Int)⊕((Unit)⊕(List D×List D×Int×Int×Int×Int×Int×Int×Int×Int×Int×Int×Int×Int×Int×Int×Int×Int×Int×Int×List D×List D))):=fun b =>
 bif (A.zlt b (A.len F)) then
  (gt A (cI .i64) F b).bind fun c =>
  (Z83 A x1 x2 x3 x4 x5 x6 x7 x8 x9 m0 n0 o0 p0 q0 r0 s0 u0 v0 w0 y0 a1 b1).bind fun (L,M,N,O,P,Q,R,S,U,V,W,X,Y,a0,b0,c0,d0,e0,g0,i0,j0,k0) =>
  (Z84 A c G L M N O P Q R S U V W X Y a0 b0 c0 d0 e0 g0 i0 j0 k0).bind fun (d,e,g,i,j,k,l,m,n,o,p,q,r,s,u,v,w,y,z,B,C,E) =>
  (sl A a 0 (A.len a)).bind fun J =>
  (ck (A.zeq (A.len a) (A.len a))).bind fun _ =>
  (ap A J [(.int .i64 c)]).bind fun K =>
  (Z36c A d e g i j k l m n o p q r s u v w y z B C E z0 G K).bind fun l0 =>
  bif l0 then
   some (.inl (A.wrp .i64 (A.zadd b 1)))
  else
   some (.inr (.inr (d,e,g,i,j,k,l,m,n,o,p,q,r,s,u,v,w,y,z,B,C,E)))
 else
  some (.inr (.inl ()))

/--  lineal code.run .all -/
noncomputable def Z36b (A:Ar) (b o:List D) (r s u v w y z c d e g i j k l m n a C:Int) (J E p q:List D):Option (Bool) :=
 (Z55a A b o r s u v w y z c d e g i j k l m n a p q).bind fun B =>
 ((
  bif (A.zeq (A.len B) 0) then
   some true
  else
   some (A.zeq a C):Option (Bool))).bind fun G =>
 bif G then
  (Z58 A b o r s u v w y z c d e g i j k l m n a p q E).bind fun F =>
  some F
 else
  (iter (Z36bL0 A b o r s u v w y z c d e g i j k l m n a C J E p q B) 0).bind (Sum.elim (fun _ =>
   some true) (fun (K,L,M,N,O,P,Q,R,S,U,V,W,X,Y,a0,b0,c0,d0,e0,g0,i0,j0) =>
   some false))

/-- lineal code.Ends -/
noncomputable def Z17 (A:Ar) (b c:List D):Option (Bool×Int) :=
 (Z40 A b c).bind fun a =>
 bif (A.zeq a 0) then
  (Z35 A b c).bind fun (e,g) =>
  (Z36b A e g 0 0 0 0 0 0 0 0 0 0 0 0 0 0 0 0 0 0 12 [] [] [] []).bind fun d =>
  some (d,0)
 else
  some (false,a)

noncomputable def Z23L0 (A:Ar) (b:List D):Int→Option ((Int)⊕((Unit)⊕(Unit))):=fun a =>
 bif (A.zlt a (A.len b)) then
  (gt A (cG (refN 10 (lc (cL 1) (lc (cL 1) (lc (cL 1) (lc (cL 8) (lc (cI .i64) (lc (cI .i64) (lc (cI .i64) (lc (cI .i64) (lc (cL 6) (lc (cL 1) (l1 (cL 1)))))))))))) (fun _=>lb rfl))) b a).bind fun (c,d,e,g,i,j,k,l,m,n,p) =>
  (Z65a A c d e g i j k l m n).bind fun o =>
  bif o then
   some (.inl (A.wrp .i64 (A.zadd a 1)))
  else
   some (.inr (.inr ()))
 else
  some (.inr (.inl ()))

/-- lineal linealref08.Ends -/
noncomputable def Z23 (A:Ar) (b c:List D):Option (Bool×Int) :=
 (Z67 A b c).bind fun a =>
 bif (A.zeq a 0) then
  (Z62 A b c [] 12).bind fun d =>
  (iter (Z23L0 A d) 0).bind (Sum.elim (fun _ =>
   some (true,0)) (fun _ =>
   some (false,0)))
 else
  some (false,a)

/-- lineal lineallaw08.CodeMarks -/
noncomputable def Z5 (A:Ar) (c d:Int) (e g a b i:List D):Option (Bool) :=
 ((
  (Z18 A c d e g a b).bind fun u =>
  bif u then
   some true
  else
   some (A.zlt 60 (A.len i)):Option (Bool))).bind fun v =>
 bif v then
  (Z9 A).bind fun j =>
  some j
 else
  (Z16 A c d e g a b i).bind fun (k,l) =>
  (Z22 A c d e g a b i).bind fun (m,n) =>
  (Z17 A a b).bind fun (o,p) =>
  (Z23 A a b).bind fun (q,r) =>
  ((
   bif (A.beq k m) then
    bif (A.zeq l n) then
     bif (A.beq o q) then
      bif (A.zeq p r) then
       (Z9 A).bind fun s =>
       some s
      else
       some false
     else
      some false
    else
     some false
   else
    some false:Option (Bool))).bind fun w =>
  some w
end Go.Am
