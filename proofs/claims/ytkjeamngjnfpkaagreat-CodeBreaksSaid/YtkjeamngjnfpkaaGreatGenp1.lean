/- Own text: Genp1. -/
import Derived.Test.YtkjeamngjnfpkaaGreatGenp0
set_option maxRecDepth 100000
set_option maxHeartbeats 2000000
set_option linter.unusedVariables false
set_option linter.unusedSimpArgs false
namespace Go.Am
open Go
/-- lineal linealref02.areSpecs -/
noncomputable def Z48 (A:Ar) (a:List D):Option (Bool) :=
 (iter (Z48L0 A a) 0).bind (Sum.elim (fun _ =>
  (Z90 A 1 (A.len a) 2).bind fun b =>
  some b) (fun _ =>
  some false))

/-- lineal linealref02.before -/
noncomputable def Z171 (A:Ar) (d i j k l a m n o e c g:Int):Option (Bool) :=
 ((
  bif (A.zeq a 0) then
   some false
  else
   some (A.zlt a c):Option (Bool))).bind fun b =>
 some b

/-- lineal linealref02.meets -/
noncomputable def Z135 (A:Ar) (e j k l d a g m n i b c:Int):Option (Bool) :=
 ((
  bif (A.zeq d b) then
   some true
  else
   bif (A.zeq d c) then
    some true
   else
    bif (A.zeq a b) then
     some true
    else
     bif (A.zeq a 0) then
      some false
     else
      some (A.zeq a c):Option (Bool))).bind fun q =>
 bif q then
  some true
 else
  ((
   bif (A.zeq e g) then
    (Z171 A e j k l d a g m n i b c).bind fun o =>
    bif o then
     some false
    else
     (Z171 A g m n i b c e j k l d a).bind fun p =>
     some (!p)
   else
    some false:Option (Bool))).bind fun r =>
  some r

noncomputable def Z91L0 (A:Ar) (r:List D) (q b c d e g i:Int):Int→Option ((Int)⊕((Unit)⊕(Unit))):=fun a =>
 bif (A.zlt a q) then
  (gt A (cG (lc (cI .i64) (lc (cI .i64) (lc (cI .i64) (lc (cI .i64) (lc (cI .i64) (l1 (cI .i64)))))))) r a).bind fun (j,k,l,m,n,o) =>
  (Z135 A b c d e g i j k l m n o).bind fun p =>
  bif p then
   some (.inr (.inr ()))
  else
   some (.inl (A.wrp .i64 (A.zadd a 1)))
 else
  some (.inr (.inl ()))

noncomputable def Z91L1 (A:Ar) (e:List D):Int→Option ((Int)⊕((Unit)⊕(Unit))):=fun a =>
 bif (A.zlt a (A.len e)) then
  (gt A (cG (lc (cI .i64) (lc (cI .i64) (lc (cI .i64) (lc (cI .i64) (lc (cI .i64) (l1 (cI .i64)))))))) e a).bind fun (g,i,j,b,c,d) =>
  ((
   (Z90 A 0 g 3).bind fun k =>
   bif k then
    (Z90 A 0 i 1).bind fun l =>
    bif l then
     (Z90 A 0 j 3).bind fun m =>
     bif m then
      (Z90 A 0 b 9).bind fun n =>
      bif n then
       (Z90 A 1 c 100).bind fun o =>
       some (!o)
      else
       some true
     else
      some true
    else
     some true
   else
    some true:Option (Bool))).bind fun q =>
  bif q then
   some (.inr (.inr ()))
  else
   ((
    bif (A.zeq d 0) then
     bif (A.zeq b 0) then
      some false
     else
      some true
    else
     (Z90 A (A.wrp .i64 (A.zadd c 1)) d 100).bind fun p =>
     some (!p):Option (Bool))).bind fun r =>
   bif r then
    some (.inr (.inr ()))
   else
    (iter (Z91L0 A e a g i j b c d) 0).bind (Sum.elim (fun _ =>
     some (.inl (A.wrp .i64 (A.zadd a 1)))) (fun _ =>
     some (.inr (.inr ()))))
 else
  some (.inr (.inl ()))

/-- lineal linealref02.Valid -/
noncomputable def Z91 (A:Ar) (a:List D):Option (Bool) :=
 bif (A.zlt 8 (A.len a)) then
  some false
 else
  (iter (Z91L1 A a) 0).bind (Sum.elim (fun _ =>
   some true) (fun _ =>
   some false))

noncomputable def Z49L0 (A:Ar) (c d:List D):Int→Option ((Int)⊕((Unit)⊕(Unit))):=fun a =>
 bif (A.zlt a (A.len d)) then
  ((
   (gt A (cG (lc (cI .i64) (lc (cI .i64) (lc (cI .i64) (lc (cI .i64) (lc (cI .i64) (l1 (cI .i64)))))))) d a).bind fun (j,b,e,k,l,m) =>
   bif (A.zle (A.len c) b) then
    some true
   else
    (gt A (cG (lc (cI .i64) (lc (cI .i64) (lc (cL 1) (l1 (cL 1)))))) c b).bind fun (n,g,o,p) =>
    some (A.zle g e):Option (Bool))).bind fun i =>
  bif i then
   some (.inr (.inr ()))
  else
   some (.inl (A.wrp .i64 (A.zadd a 1)))
 else
  some (.inr (.inl ()))

/-- lineal linealref02.isFor -/
noncomputable def Z49 (A:Ar) (a b:List D):Option (Bool) :=
 ((
  (Z48 A a).bind fun c =>
  bif c then
   (Z91 A b).bind fun d =>
   some (!d)
  else
   some true:Option (Bool))).bind fun e =>
 bif e then
  some false
 else
  (iter (Z49L0 A a b) 0).bind (Sum.elim (fun _ =>
   some true) (fun _ =>
   some false))

/-- lineal linealref02.asked -/
noncomputable def Z92 (A:Ar) (a d:List D):Option (Int) :=
 (Z48 A a).bind fun b =>
 bif b then
  (Z49 A a d).bind fun c =>
  bif c then
   some 0
  else
   some 20
 else
  some 10

noncomputable def Z136aL0 (A:Ar) (e g:List D):(Int×List D)→Option ((Int×List D)⊕((List D)⊕(List D))):=fun (d,a) =>
 bif (A.zlt d (A.len g)) then
  ((
   (gt A (cI .i64) g d).bind fun b =>
   (Z90 A 0 b (A.wrp .i64 (A.zsub (A.len e) 1))).bind fun j =>
   bif j then
    (ck (A.zle 0 b)).bind fun _ =>
    (ck (A.zlt b (A.len e))).bind fun _ =>
    (gc A cB a (A.nat (A.zadd 0 b))).bind fun i =>
    some i
   else
    some true:Option (Bool))).bind fun k =>
  bif k then
   some (.inr (.inr a))
  else
   (gt A (cI .i64) g d).bind fun c =>
   (ck (A.zle 0 c)).bind fun _ =>
   (ck (A.zlt c (A.len e))).bind fun _ =>
   (A.lget a (A.nat (A.zadd 0 c))).bind fun l =>
   some (.inl ((A.wrp .i64 (A.zadd d 1)),(A.lset a (A.nat (A.zadd 0 c)) (.bool true))))
 else
  some (.inr (.inl a))

noncomputable def Z136aL1 (A:Ar) (b g:List D):Int→Option ((Int)⊕((Unit)⊕(Unit))):=fun a =>
 bif (A.zlt a (A.len b)) then
  ((
   (gt A (cG (lc (cI .i64) (lc (cI .i64) (lc (cI .i64) (lc (cI .i64) (lc (cI .i64) (l1 (cI .i64)))))))) b a).bind fun (i,j,k,l,m,d) =>
   bif (A.zeq d 0) then
    some false
   else
    (ck (A.zle 0 a)).bind fun _ =>
    (ck (A.zlt a (A.len b))).bind fun _ =>
    (gc A cB g (A.nat (A.zadd 0 a))).bind fun c =>
    some (!c):Option (Bool))).bind fun e =>
  bif e then
   some (.inr (.inr ()))
  else
   some (.inl (A.wrp .i64 (A.zadd a 1)))
 else
  some (.inr (.inl ()))

/-- lineal linealref02.isList -/
noncomputable def Z136a (A:Ar) (a b:List D):Option (Bool) :=
 bif (A.zlt (A.len a) (A.len b)) then
  some false
 else
  (ck (A.zeq (A.len a) (A.len a))).bind fun _ =>
  (ck (A.zle 0 (A.len a))).bind fun _ =>
  (ck (A.fits (A.len a))).bind fun _ =>
  (iter (Z136aL0 A a b) (0,(A.rep (A.len a) (.bool false)))).bind (Sum.elim (fun c =>
   (iter (Z136aL1 A a c) 0).bind (Sum.elim (fun _ =>
    some true) (fun _ =>
    some false))) (fun d =>
   some false))

noncomputable def Z137aL0 (A:Ar) (b:List D) (d:Int):Int→Option ((Int)⊕((Unit)⊕(Unit))):=fun a =>
 bif (A.zlt a (A.len b)) then
  (gt A (cI .i64) b a).bind fun c =>
  bif (A.zeq c d) then
   some (.inr (.inr ()))
  else
   some (.inl (A.wrp .i64 (A.zadd a 1)))
 else
  some (.inr (.inl ()))

/-- lineal linealref02.has -/
noncomputable def Z137a (A:Ar) (a:List D) (b:Int):Option (Bool) :=
 (iter (Z137aL0 A a b) 0).bind (Sum.elim (fun _ =>
  some false) (fun _ =>
  some true))

noncomputable def Z138aL0 (A:Ar) (c v g:List D):(Int×List D)→Option ((Int×List D)⊕((List D)⊕(List D))):=fun (d,b) =>
 bif (A.zlt d (A.len g)) then
  (gt A (cI .i64) g d).bind fun n =>
  (gt A (cG (lc (cI .i64) (lc (cI .i64) (lc (cI .i64) (lc (cI .i64) (lc (cI .i64) (l1 (cI .i64)))))))) v n).bind fun (w,a,e,o,y,p) =>
  (gt A (cG (lc (cI .i64) (lc (cI .i64) (lc (cL 1) (l1 (cL 1)))))) c a).bind fun (z,B,q,r) =>
  ((
   bif (A.zeq p 0) then
    some false
   else
    (ck (A.zle 0 a)).bind fun _ =>
    (ck (A.zlt a (A.len c))).bind fun _ =>
    (gc A (cI .i64) b (A.nat (A.zadd 0 a))).bind fun s =>
    (gt A (cL 1) r s).bind fun i =>
    (gt A (cI .i64) i e).bind fun j =>
    some (!(A.zeq j o)):Option (Bool))).bind fun u =>
  bif u then
   some (.inr (.inr b))
  else
   (ck (A.zle 0 a)).bind fun _ =>
   (ck (A.zlt a (A.len c))).bind fun _ =>
   (gc A (cI .i64) b (A.nat (A.zadd 0 a))).bind fun k =>
   (gt A (cL 1) q k).bind fun l =>
   (gt A (cI .i64) l e).bind fun m =>
   (ck (A.zle 0 a)).bind fun _ =>
   (ck (A.zlt a (A.len c))).bind fun _ =>
   (A.lget b (A.nat (A.zadd 0 a))).bind fun C =>
   some (.inl ((A.wrp .i64 (A.zadd d 1)),(A.lset b (A.nat (A.zadd 0 a)) (.int .i64 m))))
 else
  some (.inr (.inl b))

/-- lineal linealref02.allows -/
noncomputable def Z138a (A:Ar) (a b c:List D):Option (Bool) :=
 (ck (A.zeq (A.len a) (A.len a))).bind fun _ =>
 (ck (A.zle 0 (A.len a))).bind fun _ =>
 (ck (A.fits (A.len a))).bind fun _ =>
 (iter (Z138aL0 A a b c) (0,(A.rep (A.len a) (.int .i64 0)))).bind (Sum.elim (fun d =>
  some true) (fun e =>
  some false))

noncomputable def Z139aL0 (A:Ar) (c d:List D) (b:Int):Int→Option ((Int)⊕((Unit)⊕(Unit))):=fun a =>
 bif (A.zlt a b) then
  ((
   (gt A (cI .i64) d b).bind fun e =>
   (gt A (cG (lc (cI .i64) (lc (cI .i64) (lc (cI .i64) (lc (cI .i64) (lc (cI .i64) (l1 (cI .i64)))))))) c e).bind fun (g,n,o,p,i,q) =>
   (gt A (cI .i64) d a).bind fun j =>
   (gt A (cG (lc (cI .i64) (lc (cI .i64) (lc (cI .i64) (lc (cI .i64) (lc (cI .i64) (l1 (cI .i64)))))))) c j).bind fun (k,r,s,u,l,v) =>
   bif (A.zeq g k) then
    some (A.zlt i l)
   else
    some false:Option (Bool))).bind fun m =>
  bif m then
   some (.inr (.inr ()))
  else
   some (.inl (A.wrp .i64 (A.zadd a 1)))
 else
  some (.inr (.inl ()))

noncomputable def Z139aL1 (A:Ar) (c b:List D):Int→Option ((Int)⊕((Unit)⊕(Unit))):=fun a =>
 bif (A.zlt a (A.len b)) then
  (iter (Z139aL0 A c b a) 0).bind (Sum.elim (fun _ =>
   some (.inl (A.wrp .i64 (A.zadd a 1)))) (fun _ =>
   some (.inr (.inr ()))))
 else
  some (.inr (.inl ()))

/-- lineal linealref02.keepsThreads -/
noncomputable def Z139a (A:Ar) (a b:List D):Option (Bool) :=
 (iter (Z139aL1 A a b) 0).bind (Sum.elim (fun _ =>
  some true) (fun _ =>
  some false))

noncomputable def Z140aL0 (A:Ar) (c d:List D) (b:Int):Int→Option ((Int)⊕((Unit)⊕(Unit))):=fun a =>
 bif (A.zlt a b) then
  (gt A (cI .i64) d b).bind fun e =>
  (gt A (cG (lc (cI .i64) (lc (cI .i64) (lc (cI .i64) (lc (cI .i64) (lc (cI .i64) (l1 (cI .i64)))))))) c e).bind fun (g,i,j,k,l,m) =>
  (gt A (cI .i64) d a).bind fun n =>
  (gt A (cG (lc (cI .i64) (lc (cI .i64) (lc (cI .i64) (lc (cI .i64) (lc (cI .i64) (l1 (cI .i64)))))))) c n).bind fun (o,p,q,r,s,u) =>
  (Z171 A g i j k l m o p q r s u).bind fun v =>
  bif v then
   some (.inr (.inr ()))
  else
   some (.inl (A.wrp .i64 (A.zadd a 1)))
 else
  some (.inr (.inl ()))

noncomputable def Z140aL1 (A:Ar) (c b:List D):Int→Option ((Int)⊕((Unit)⊕(Unit))):=fun a =>
 bif (A.zlt a (A.len b)) then
  (iter (Z140aL0 A c b a) 0).bind (Sum.elim (fun _ =>
   some (.inl (A.wrp .i64 (A.zadd a 1)))) (fun _ =>
   some (.inr (.inr ()))))
 else
  some (.inr (.inl ()))

/-- lineal linealref02.keepsTime -/
noncomputable def Z140a (A:Ar) (a b:List D):Option (Bool) :=
 (iter (Z140aL1 A a b) 0).bind (Sum.elim (fun _ =>
  some true) (fun _ =>
  some false))

noncomputable def Z93L0 (A:Ar) (l m a:List D) (self113:List D→Bool→List D→List D→Bool→Int→List D→(Option (Bool×Int×List D))):(Bool×Int×Bool×Int×List D)→Option ((Bool×Int×Bool×Int×List D)⊕(Bool×Int×List D)):=fun (i,c,d,e,g) =>
 ((
  bif (A.zlt c (A.len a)) then
   bif i then
    some (true,(!(A.zlt 0 e)))
   else
    some (false,true)
  else
   some (i,false):Option (Bool×Bool))).bind fun (j,y) =>
 bif y then
  (ap A [] l).bind fun n =>
  (ap A n [(.int .i64 c)]).bind fun b =>
  ((
   (Z137a A l c).bind fun o =>
   bif o then
    some (false,d)
   else
    (Z138a A m a b).bind fun p =>
    bif p then
     bif d then
      (Z139a A a b).bind fun q =>
      bif q then
       some (true,true)
      else
       some (false,true)
     else
      (Z140a A a b).bind fun r =>
      some (r,false)
    else
     some (false,d):Option (Bool×Bool))).bind fun (z,k) =>
  ((
   bif z then
    (self113 b j m a k e g).bind fun (s,u,v) =>
    some (s,u,v)
   else
    some (k,e,g):Option (Bool×Int×List D))).bind fun (B,C,w) =>
  some (.inl (j,(A.wrp .i64 (A.zadd c 1)),B,C,w))
 else
  some (.inr (d,e,g))

/--  *lineal linealref02.search .from -/
noncomputable def Z93B (A:Ar) (self113:List D→Bool→List D→List D→Bool→Int→List D→(Option (Bool×Int×List D))) (a:List D) (o:Bool) (p c:List D) (q:Bool) (b:Int) (d:List D):Option (Bool×Int×List D) :=
 (Z136a A c a).bind fun g =>
 ((
  bif g then
   ((
    bif (A.zeq b 0) then
     (ap A [] a).bind fun e =>
     some e
    else
     some d:Option (List D))).bind fun l =>
   some ((A.wrp .i64 (A.zadd b 1)),l)
  else
   some (b,d):Option (Int×List D))).bind fun (m,n) =>
 (iter (Z93L0 A a p c self113) (o,0,q,m,n)).bind (fun (i,j,k) =>
 some (i,j,k))

noncomputable def Z93R (A:Ar):Nat→List D→Bool→List D→List D→Bool→Int→List D→(Option (Bool×Int×List D))
 | 0=>fun _ _ _ _ _ _ _=>none
 | n+1=>fun a b c d e g i=>Z93B A (Z93R A n) a b c d e g i

noncomputable def Z93 (A:Ar) (a:List D) (b:Bool) (c d:List D) (e:Bool) (g:Int) (i:List D):Option (Bool×Int×List D):=Z93R A fuel a b c d e g i

/-- lineal linealref02.Order -/
noncomputable def Z50 (A:Ar) (b c:List D):Option (List D×Int) :=
 (Z92 A b c).bind fun a =>
 bif (A.zeq a 0) then
  (Z93 A [] true b c false 0 []).bind fun (g,d,e) =>
  bif (A.zeq d 0) then
   some ([],5)
  else
   some (e,0)
 else
  some ([],a)

/-- lineal linealref02.Linear -/
noncomputable def Z14 (A:Ar) (b c:List D):Option (Bool×Int) :=
 (Z50 A b c).bind fun (d,a) =>
 bif (A.zeq a 5) then
  some (false,0)
 else
  some ((A.zeq a 0),a)

/-- lineal linealref08.linear -/
noncomputable def Z63 (A:Ar) (b c:Int) (d e g:List D):Option (Bool) :=
 (Z14 A [(.agg [(.int .i64 b),(.int .i64 c),(.list 1 d),(.list 1 e)])] g).bind fun (a,i) =>
 some a

/-- lineal linealref08.Breaks -/
noncomputable def Z25 (A:Ar) (c d:Int) (e g i j m:List D):Option (Bool×Int) :=
 (Z60 A c d e g i j).bind fun b =>
 bif (A.zeq b 0) then
  (Z68 A i j m).bind (Sum.elim (fun a =>
   bif (A.zeq a 0) then
    none
   else
    some (false,a)) (fun (n,o,p,q,r,s,u,v,k,w) =>
   (Z63 A c d e g k).bind fun l =>
   some ((!l),0)))
 else
  some (false,b)

noncomputable def Z53L0 (A:Ar) (b c:List D):Int→Option ((Int)⊕((Unit)⊕(Unit))):=fun a =>
 bif (A.zlt a (A.len c)) then
  (gt A (cI .i64) c a).bind fun d =>
  ((
   bif (A.zle (A.len b) a) then
    some true
   else
    (gt A (cL 4) b a).bind fun e =>
    (Z82 A 0 d (A.wrp .i64 (A.zsub (A.len e) 1))).bind fun g =>
    some (!g):Option (Bool))).bind fun i =>
  bif i then
   some (.inr (.inr ()))
  else
   some (.inl (A.wrp .i64 (A.zadd a 1)))
 else
  some (.inr (.inl ()))

/-- lineal code.isMarks -/
noncomputable def Z53 (A:Ar) (a b:List D):Option (Bool) :=
 (iter (Z53L0 A a b) 0).bind (Sum.elim (fun _ =>
  some (A.zeq (A.len b) (A.len a))) (fun _ =>
  some false))

/--  *lineal code.run .has -/
noncomputable def Z94a (A:Ar) (k b:List D) (j z B C E F G i l m n o p q r s u v:Int) (w y:List D) (a:Int):Option (Bool) :=
 ((
  (Z82 A 0 a (A.wrp .i64 (A.zsub (A.len b) 1))).bind fun e =>
  bif e then
   bif (A.zeq a 0) then
    (gt A (cL 1) b a).bind fun c =>
    some (A.zlt j (A.len c))
   else
    bif (A.zeq a 1) then
     (gt A (cL 1) b a).bind fun d =>
     some (A.zlt i (A.len d))
    else
     none
  else
   some false:Option (Bool))).bind fun g =>
 some g

noncomputable def Z55L0 (A:Ar) (i c:List D) (y z B C E F G j k l m n o p q r s u:Int) (v w:List D):(List D×Int)→Option ((List D×Int)⊕(List D)):=fun (b,a) =>
 bif (A.zlt a (A.len c)) then
  (Z94a A i c y z B C E F G j k l m n o p q r s u v w a).bind fun e =>
  ((
   bif e then
    (ap A b [(.int .i64 a)]).bind fun d =>
    some d
   else
    some b:Option (List D))).bind fun g =>
  some (.inl (g,(A.wrp .i64 (A.zadd a 1))))
 else
  some (.inr b)

/--  *lineal code.run .left -/
noncomputable def Z55 (A:Ar) (b o:List D) (s u v w y z B c d e g i j k l m n p:Int) (q r:List D):Option (List D) :=
 (iter (Z55L0 A b o s u v w y z B c d e g i j k l m n p q r) ([],0)).bind (fun a =>
 some a)

noncomputable def Z141L0 (A:Ar) (b:List D) (d:Int):Int→Option ((Int)⊕((Unit)⊕(Int))):=fun a =>
 bif (A.zlt a (A.len b)) then
  (gt A (cI .i64) b a).bind fun c =>
  bif (A.zeq d c) then
   some (.inr (.inr a))
  else
   some (.inl (A.wrp .i64 (A.zadd a 1)))
 else
  some (.inr (.inl ()))

/-- slices.Index   int int  -/
noncomputable def Z141 (A:Ar) (b:List D) (c:Int):Option (Int) :=
 (iter (Z141L0 A b c) 0).bind (Sum.elim (fun _ =>
  some (-1)) (fun a =>
  some a))

/-- slices.Contains   int int  -/
noncomputable def Z95 (A:Ar) (b:List D) (c:Int):Option (Bool) :=
 (Z141 A b c).bind fun a =>
 some (A.zle 0 a)

/--  *lineal code.run .order$1 -/
noncomputable def Z97 (A:Ar) (d e:Int) (w y:List D) (z B C E F g i j k l m n o p q r s u:Int) (v a:List D):Option (Int) :=
 (gt A (cI .i64) a d).bind fun b =>
 (gt A (cI .i64) a e).bind fun c =>
 some (A.wrp .i64 (A.zsub b c))

noncomputable def Z96 (A:Ar) (c p:Int) (y z:List D) (B C E F G d e g i j k l m n o q r s:Int) (u v w:List D):Option (List D):=srt (cI .i64) (fun a b=>Z97 A a b y z B C E F G d e g i j k l m n o q r s u v) c p w

noncomputable def Z96a (A:Ar) (a n s:List D) (u v w y z B b c d e g i j k l m o p:Int) (q r:List D):Option Unit:=ck (A.zeq (A.len a) 0)

noncomputable def Z56L0 (A:Ar) (d:List D):(Int×List D)→Option ((Int×List D)⊕(List D)):=fun (a,b) =>
 bif (A.zlt a (A.len d)) then
  (ap A b [(.int .i64 a)]).bind fun c =>
  some (.inl ((A.wrp .i64 (A.zadd a 1)),c))
 else
  some (.inr b)

/--  *lineal code.run .order -/
noncomputable def Z56 (A:Ar) (d q:List D) (s u v w y z B e g i j k l m n o p r:Int) (b c:List D):Option (List D×Bool) :=
 ((
  (Z55 A d q s u v w y z B e g i j k l m n o p r b c).bind fun E =>
  bif (A.zlt 0 (A.len E)) then
   some true
  else
   (Z95 A c 0).bind fun F =>
   some F:Option (Bool))).bind fun J =>
 bif J then
  some ([],false)
 else
  (ck (A.zle 0 (A.len b))).bind fun _ =>
  (ck (A.zle 0 0)).bind fun _ =>
  (ck (A.fits (A.len b))).bind fun _ =>
  (iter (Z56L0 A b) (0,(A.rep 0 (.int .i64 0)))).bind (fun a =>
  bif (A.zlt 0 (A.len a)) then
   (Z96 A 0 (A.len a) d q s u v w y z B e g i j k l m n o p r b c a).bind fun G =>
   (fz A G 0 (A.len a)).bind fun C =>
   some (C,true)
  else
   (Z96a A a d q s u v w y z B e g i j k l m n o p r b c).bind fun () =>
   some (a,true))

/-- lineal code.Order -/
noncomputable def Z26 (A:Ar) (a c M d:List D):Option (List D×Int) :=
 (Z40 A a c).bind fun b =>
 bif (A.zeq b 0) then
  (Z53 A a d).bind fun L =>
  bif L then
   (Z69 A a c M d).bind fun (e,g,i,j,k,l,m,n,o,p,q,r,s,u,v,w,y,z,B,C,E,F,G) =>
   bif G then
    (Z56 A e g i j k l m n o p q r s u v w y z B C E F).bind fun (J,K) =>
    bif K then
     some (J,0)
    else
     some ([],5)
   else
    some ([],2)
  else
   some ([],2)
 else
  some ([],b)

noncomputable def Z64L0 (A:Ar) (b g:List D):Int→Option ((Int)⊕((Unit)⊕(Unit))):=fun a =>
 bif (A.zlt a (A.len b)) then
  (gt A (cI .i64) g a).bind fun c =>
  (gt A (cL 4) b a).bind fun d =>
  (Z77 A 0 c (A.wrp .i64 (A.zsub (A.len d) 1))).bind fun e =>
  bif e then
   some (.inl (A.wrp .i64 (A.zadd a 1)))
  else
   some (.inr (.inr ()))
 else
  some (.inr (.inl ()))

/-- lineal linealref08.AreMarks -/
noncomputable def Z64 (A:Ar) (a b:List D):Option (Bool) :=
 bif (A.zeq (A.len b) (A.len a)) then
  (iter (Z64L0 A a b) 0).bind (Sum.elim (fun _ =>
   some true) (fun _ =>
   some false))
 else
  some false

noncomputable def Z65L0 (A:Ar) (d b g:List D) (i j k l:Int) (m n e:List D):Int→Option ((Int)⊕((Unit)⊕(Unit))):=fun a =>
 bif (A.zlt a (A.len b)) then
  (Z103 A a d b g i j k l m n e).bind fun c =>
  bif c then
   some (.inr (.inr ()))
  else
   some (.inl (A.wrp .i64 (A.zadd a 1)))
 else
  some (.inr (.inl ()))

/--  *lineal linealref08.Play .Over -/
noncomputable def Z65 (A:Ar) (a c d:List D) (e g i j:Int) (k l b:List D):Option (Bool) :=
 (iter (Z65L0 A a c d e g i j k l b) 0).bind (Sum.elim (fun _ =>
  some true) (fun _ =>
  some false))

noncomputable def Z66L0 (A:Ar) (j c:List D) (g:Int):(List D×Int)→Option ((List D×Int)⊕(List D)):=fun (b,a) =>
 bif (A.zlt a (A.len j)) then
  (ck (A.zle 0 a)).bind fun _ =>
  (ck (A.zlt a (A.len c))).bind fun _ =>
  (gc A (cI .i64) c (A.nat a)).bind fun d =>
  ((
   bif (A.zeq d g) then
    (ap A b [(.int .i64 a)]).bind fun e =>
    some e
   else
    some b:Option (List D))).bind fun i =>
  some (.inl (i,(A.wrp .i64 (A.zadd a 1))))
 else
  some (.inr b)

noncomputable def Z66L1 (A:Ar) (e:Int) (g d:List D):(List D×Int)→Option ((List D×Int)⊕(List D)):=fun (b,a) =>
 bif (A.zlt a e) then
  (iter (Z66L0 A g d a) (b,0)).bind (fun c =>
  some (.inl (c,(A.wrp .i64 (A.zadd a 1)))))
 else
  some (.inr b)

/--  *lineal linealref08.Play .order -/
noncomputable def Z66 (A:Ar) (g i j:List D) (d k l m:Int) (n a c:List D):Option (List D×Bool) :=
 (Z65 A g i j d k l m n a c).bind fun e =>
 bif e then
  (iter (Z66L1 A d a c) ([],0)).bind (fun b =>
  some (b,(A.zeq (A.len b) (A.len a))))
 else
  some ([],false)

/-- lineal linealref08.Order -/
noncomputable def Z27 (A:Ar) (a c u d:List D):Option (List D×Int) :=
 (Z67 A a c).bind fun b =>
 bif (A.zeq b 0) then
  (Z64 A a d).bind fun s =>
  bif s then
   (Z70 A a c u d).bind (Sum.elim (fun _ =>
    some ([],2)) (fun (e,g,i,j,k,l,m,n,o,p) =>
    (Z66 A e g i j k l m n o p).bind fun (q,r) =>
    bif r then
     some (q,0)
    else
     some ([],5)))
  else
   some ([],2)
 else
  some ([],b)

noncomputable def Z21L0 (A:Ar) (b e:List D):Int→Option ((Int)⊕((Unit)⊕(Unit))):=fun a =>
 bif (A.zlt a (A.len b)) then
  (gt A (cI .i64) b a).bind fun c =>
  (gt A (cI .i64) e a).bind fun d =>
  bif (A.zeq c d) then
   some (.inl (A.wrp .i64 (A.zadd a 1)))
  else
   some (.inr (.inr ()))
 else
  some (.inr (.inl ()))

/-- lineal linealref08.SameInts -/
noncomputable def Z21 (A:Ar) (a b:List D):Option (Bool) :=
 bif (A.zeq (A.len a) (A.len b)) then
  (iter (Z21L0 A a b) 0).bind (Sum.elim (fun _ =>
   some true) (fun _ =>
   some false))
 else
  some false

/-- lineal lineallaw08.CodeBreaks -/
noncomputable def Z6 (A:Ar) (d e:Int) (g i a b c j:List D):Option (Bool) :=
 ((
  (Z18 A d e g i a b).bind fun k =>
  bif k then
   some true
  else
   bif (A.zlt 60 (A.len c)) then
    some true
   else
    some (A.zlt 60 (A.len j)):Option (Bool))).bind fun y =>
 bif y then
  (Z9 A).bind fun l =>
  some l
 else
  (Z24 A d e g i a b c).bind fun (m,n) =>
  (Z25 A d e g i a b c).bind fun (o,p) =>
  (Z26 A a b c j).bind fun (q,r) =>
  (Z27 A a b c j).bind fun (s,u) =>
  ((
   bif (A.beq m o) then
    bif (A.zeq n p) then
     (Z21 A q s).bind fun v =>
     bif v then
      bif (A.zeq r u) then
       (Z9 A).bind fun w =>
       some w
      else
       some false
     else
      some false
    else
     some false
   else
    some false:Option (Bool))).bind fun z =>
  some z

/--  *lineal code.run .has -/
noncomputable def Z94c (A:Ar) (k b:List D) (j z B C E F G i l m n o p q r s u v:Int) (w y:List D) (a:Int):Option (Bool) :=
 ((
  (Z82 A 0 a (A.wrp .i64 (A.zsub (A.len b) 1))).bind fun e =>
  bif e then
   bif (A.zeq a 0) then
    (gt A (cL 1) b a).bind fun c =>
    some (A.zlt j (A.len c))
   else
    bif (A.zeq a 1) then
     (gt A (cL 1) b a).bind fun d =>
     some (A.zlt i (A.len d))
    else
     none
  else
   some false:Option (Bool))).bind fun g =>
 some g
end Go.Am
