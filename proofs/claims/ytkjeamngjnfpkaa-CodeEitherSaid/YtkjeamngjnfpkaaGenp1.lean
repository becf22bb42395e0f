/- Own text: Genp1. -/
import Derived.Test.YtkjeamngjnfpkaaGenp0
set_option maxRecDepth 100000
set_option maxHeartbeats 2000000
set_option linter.unusedVariables false
set_option linter.unusedSimpArgs false
namespace Go.Am
noncomputable section
open Go
/-- lineal code.Left$1 -/
def K55 (A:Ar) (b o:List D) (s u v w y z B c d e g i j k l m n p:Int) (q r:List D):Option (List D) :=
 (K56a A b o s u v w y z B c d e g i j k l m n p q r).bind fun a =>
 some a

/-- lineal code.behind -/
def K44a (A:Ar) (b c J:List D):Option (List D×Int) :=
 (K89 A b c).bind fun a =>
 bif (A.zeq a 0) then
  (K104 A b c J []).bind fun (F,G,d,e,g,i,j,k,l,m,n,o,p,q,r,s,u,v,w,y,z,B,C) =>
  bif C then
   (K55 A F G d e g i j k l m n o p q r s u v w y z B).bind fun E =>
   some (E,0)
  else
   some ([],2)
 else
  some ([],a)

/-- lineal code.Left -/
def K20 (A:Ar) (c d e:List D):Option (List D×Int) :=
 (K44a A c d e).bind fun (a,b) =>
 some (a,b)

def K24L0 (A:Ar) (o e g:List D) (p:Int):(List D×Int)->Option ((List D×Int)⊕((List D)⊕(List D×Bool×Bool))):=fun (b,c) =>
 bif (A.zlt c p) then
  (K20 A o e b).bind fun (a,m) =>
  bif (A.zeq m 0) then
   bif (A.zeq (A.len a) 0) then
    some (.inr (.inr (b,true,true)))
   else
    (gc A (cI .i64) a 0).bind fun i =>
    ((
     bif (A.zlt c (A.len g)) then
      (gt A (cI .u8) g c).bind fun j =>
      (nk (A.zeq (A.len a) 0)).bind fun _ =>
      (gt A (cI .i64) a (A.rem (A.wrp .i64 j) (A.len a))).bind fun k =>
      some k
     else
      some i:Option (Int))).bind fun d =>
    ((
     bif (A.zlt d 0) then
      some true
     else
      some (A.zle (A.len e) d):Option (Bool))).bind fun n =>
    bif n then
     some (.inr (.inr ([],false,false)))
    else
     (ap A b [(.int .i64 d)]).bind fun l =>
     some (.inl (l,(A.wrp .i64 (A.zadd c 1))))
  else
   some (.inr (.inr ([],false,false)))
 else
  some (.inr (.inl b))

/-- lineal lineallaw08.schedule -/
def K24 (A:Ar) (m n:Int) (o p b c k:List D) (l:Int):Option (List D×Bool×Bool) :=
 (iter (K24L0 A b c k l) ([],0)).bind (Sum.elim (fun a =>
  (K20 A b c a).bind fun (d,e) =>
  some (a,(A.zeq (A.len d) 0),(A.zeq e 0))) (fun (g,i,j) =>
  some (g,i,j)))

/-- lineal lineallaw08.CodeEither -/
def K6 (A:Ar) (a b:Int) (c d e g:List D) (j k:Int) (q:List D):Option (Bool) :=
 ((
  (K23 A a b c d e g).bind fun r =>
  bif r then
   some (A.zlt 60 (A.len q))
  else
   some true:Option (Bool))).bind fun L =>
 bif L then
  (K10 A).bind fun s =>
  some s
 else
  (nk (A.zeq 13 0)).bind fun _ =>
  (nk (A.zeq 13 0)).bind fun _ =>
  (K32 A a b c d e g (A.zmax (A.rem (A.wrp .i64 j) 13) (A.rem (A.wrp .i64 k) 13))).bind fun (i,u) =>
  (K32 A a b c d e g (A.zmin (A.rem (A.wrp .i64 j) 13) (A.rem (A.wrp .i64 k) 13))).bind fun (m,v) =>
  (K33 A a b c d e g (A.zmax (A.rem (A.wrp .i64 j) 13) (A.rem (A.wrp .i64 k) 13))).bind fun (n,l) =>
  ((
   bif (A.zeq u 0) then
    bif (A.zeq v 0) then
     bif (A.beq i (A.zeq l 5)) then
      bif (A.zeq l 0) then
       bif i then
        some (true,(!m))
       else
        some (false,false)
      else
       bif (A.zeq l 5) then
        bif i then
         some (true,(!m))
        else
         some (false,false)
       else
        some (i,true)
     else
      some (i,true)
    else
     some (i,true)
   else
    some (i,true):Option (Bool×Bool))).bind fun (M,N) =>
  bif N then
   some false
  else
   jn (fun (P:Bool) =>
    (K24 A a b c d e g q (A.zmax (A.rem (A.wrp .i64 j) 13) (A.rem (A.wrp .i64 k) 13))).bind fun (o,S,z) =>
    bif z then
     (K34 A a b c d e g o).bind fun (p,B) =>
     (K13 A e g o).bind fun (C,E) =>
     ((
      bif (A.zeq B 0) then
       some (!(A.zeq E 0))
      else
       some true:Option (Bool))).bind fun Q =>
     bif Q then
      some false
     else
      (K35 A [(.agg [(.int .i64 a),(.int .i64 b),(.list 1 c),(.list 1 d)])] C).bind fun (F,G) =>
      ((
       bif (A.zeq G 0) then
        bif (A.beq p (!F)) then
         bif P then
          bif p then
           some false
          else
           (K10 A).bind fun J =>
           some J
         else
          (K10 A).bind fun K =>
          some K
        else
         some false
       else
        some false:Option (Bool))).bind fun R =>
      some R
    else
     some false) fun K56 =>
    bif M then
     K56 true
    else
     (K34 A a b c d e g n).bind fun (w,y) =>
     ((
      bif (A.zeq y 0) then
       bif w then
        some (A.zlt (A.zmax (A.rem (A.wrp .i64 j) 13) (A.rem (A.wrp .i64 k) 13)) (A.len n))
       else
        some true
      else
       some true:Option (Bool))).bind fun O =>
     bif O then
      some false
     else
      K56 false
end
end Go.Am
