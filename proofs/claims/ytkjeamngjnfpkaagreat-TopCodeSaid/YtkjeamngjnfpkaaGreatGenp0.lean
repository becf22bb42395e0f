import Derived.Test.YtkjeamngjnfpkaaGreatAmLaw
import Derived.Test.YtkjeamngjnfpkaaGreatAmLaw
import Derived.Test.YtkjeamngjnfpkaaGreatAmLaw
set_option maxRecDepth 100000
set_option maxHeartbeats 2000000
set_option linter.unusedVariables false
set_option linter.unusedSimpArgs false
namespace Go.Am
noncomputable section
open Go
def b2K (A:Ar) (b:List D):Int->Option ((Int)⊕((Unit)⊕(Unit))):=fun a => bif (A.zlt a (A.len b)) then (gt A (cL 1) b a).bind fun c => bif (A.zlt 20 (A.len c)) then some (.inr (.inr ())) else some (.inl (A.wrp .i64 (A.zadd a 1))) else some (.inr (.inl ()))

def b7K (A:Ar) (b:List D):Int->Option ((Int)⊕((Unit)⊕(Unit))):=fun a => bif (A.zlt a (A.len b)) then (gt A (cL 1) b a).bind fun c => bif (A.zlt 20 (A.len c)) then some (.inr (.inr ())) else some (.inl (A.wrp .i64 (A.zadd a 1))) else some (.inr (.inl ()))

def b2L (A:Ar) (d:List D):Int->Option ((Int)⊕((Unit)⊕(Unit))):=fun a => bif (A.zlt a (A.len d)) then (gt A (cG (lc (cI .i64) (lc (cI .i64) (lc (cL 1) (l1 (cL 1)))))) d a).bind fun (g,i,b,c) => (( bif (A.zlt 20 (A.len b)) then some true else some (A.zlt 20 (A.len c)):Option (Bool))).bind fun e => bif e then some (.inr (.inr ())) else (iter (b2K A b) 0).bind (Sum.elim (fun _ => (iter (b7K A c) 0).bind (Sum.elim (fun _ => some (.inl (A.wrp .i64 (A.zadd a 1)))) (fun _ => some (.inr (.inr ()))))) (fun _ => some (.inr (.inr ())))) else some (.inr (.inl ()))

/-- lineal lineallaw02.Large -/
def Z59 (A:Ar) (a:List D):Option (Bool) := (iter (b2L A a) 0).bind (Sum.elim (fun _ => some (A.zlt 5 (A.len a))) (fun _ => some true))

def b2M (A:Ar) (b:List D):Int->Option ((Int)⊕((Unit)⊕(Unit))):=fun a => bif (A.zlt a (A.len b)) then (gt A (cL 4) b a).bind fun c => bif (A.zlt 30 (A.len c)) then some (.inr (.inr ())) else some (.inl (A.wrp .i64 (A.zadd a 1))) else some (.inr (.inl ()))

def b2N (A:Ar) (b:List D):Int->Option ((Int)⊕((Unit)⊕(Unit))):=fun a => bif (A.zlt a (A.len b)) then (gt A (cL 1) b a).bind fun c => bif (A.zlt 20 (A.len c)) then some (.inr (.inr ())) else some (.inl (A.wrp .i64 (A.zadd a 1))) else some (.inr (.inl ()))

/-- lineal lineallaw08.Large -/
def Z18 (A:Ar) (e g:Int) (i j a b:List D):Option (Bool) := (iter (b2M A a) 0).bind (Sum.elim (fun _ => (iter (b2N A b) 0).bind (Sum.elim (fun _ => (( (Z59 A [(.agg [(.int .i64 e),(.int .i64 g),(.list 1 i),(.list 1 j)])]).bind fun c => bif c then some true else bif (A.zlt 10 (A.len a)) then some true else some (A.zlt 10 (A.len b)):Option (Bool))).bind fun d => some d) (fun _ => some true))) (fun _ => some true))

/-- lineal code.between -/
def Z82 (A:Ar) (c a d:Int):Option (Bool) := (( bif (A.zle c a) then some (A.zle a d) else some false:Option (Bool))).bind fun b => some b

/-- lineal code.isRegister$1 -/
def b9v (A:Ar) (b:Int):Option (Bool) := (Z82 A 0 b 3).bind fun a => some (!a)

def a8Q (A:Ar) (b:List D):Int->Option ((Int)⊕((Unit)⊕(Int))):=fun a => bif (A.zlt a (A.len b)) then (gt A (cI .i64) b a).bind fun c => (b9v A c).bind fun d => bif d then some (.inr (.inr a)) else some (.inl (A.wrp .i64 (A.zadd a 1))) else some (.inr (.inl ()))

/-- slices.IndexFunc   int int  -/
def c2m (A:Ar) (b:List D):Option (Int) := (iter (a8Q A b) 0).bind (Sum.elim (fun _ => some (-1)) (fun a => some a))

/-- slices.ContainsFunc   int int  -/
def c2n (A:Ar) (b:List D):Option (Bool) := (c2m A b).bind fun a => some (A.zle 0 a)

/-- lineal code.isRegister -/
def b0X (A:Ar) (b:List D):Option (Bool) := (c2n A b).bind fun a => some (!a)

/-- lineal code.isCell -/
def b7L (A:Ar) (b:Int):Option (Bool) := (Z82 A 0 b 2).bind fun a => some a

/-- lineal code.isLine -/
def b9w (A:Ar) (a b c d B:Int):Option (Bool) := bif (A.zeq a 1) then (( (b0X A [(.int .i64 b)]).bind fun r => bif r then (b7L A c).bind fun e => bif e then some (A.zeq d 0) else some false else some false:Option (Bool))).bind fun s => some s else bif (A.zeq a 2) then (( (b7L A b).bind fun g => bif g then (b0X A [(.int .i64 c)]).bind fun i => bif i then some (A.zeq d 0) else some false else some false:Option (Bool))).bind fun u => some u else bif (A.zeq a 3) then (( (b7L A b).bind fun j => bif j then (b0X A [(.int .i64 c),(.int .i64 d)]).bind fun k => some k else some false:Option (Bool))).bind fun v => some v else bif (A.zeq a 4) then (( (b0X A [(.int .i64 b)]).bind fun l => bif l then (Z82 A 0 c 9).bind fun m => bif m then some (A.zeq d 0) else some false else some false:Option (Bool))).bind fun w => some w else bif (A.zeq a 5) then (b0X A [(.int .i64 b),(.int .i64 c),(.int .i64 d)]).bind fun n => some n else bif (A.zeq a 6) then (( (b0X A [(.int .i64 b)]).bind fun o => bif o then (Z82 A 0 c (A.wrp .i64 (A.zsub B 1))).bind fun p => bif p then some (A.zeq d 0) else some false else some false:Option (Bool))).bind fun y => some y else bif (A.zeq a 7) then (( (b0X A [(.int .i64 b)]).bind fun q => bif q then bif (A.zeq c 0) then some (A.zeq d 0) else some false else some false:Option (Bool))).bind fun z => some z else some false

/-- lineal code.isCall$1 -/
def b9x (A:Ar) (b c d e:Int) (g:List D):Option (Bool) := (b9w A b c d e (A.len g)).bind fun a => some (!a)

def a8R (A:Ar) (b j:List D):Int->Option ((Int)⊕((Unit)⊕(Int))):=fun a => bif (A.zlt a (A.len b)) then (gt A (cG (lc (cI .i64) (lc (cI .i64) (lc (cI .i64) (l1 (cI .i64)))))) b a).bind fun (c,d,e,g) => (b9x A c d e g j).bind fun i => bif i then some (.inr (.inr a)) else some (.inl (A.wrp .i64 (A.zadd a 1))) else some (.inr (.inl ()))

/-- slices.IndexFunc   lineal api.Line lineal api.Line  -/
def c2o (A:Ar) (b c:List D):Option (Int) := (iter (a8R A b c) 0).bind (Sum.elim (fun _ => some (-1)) (fun a => some a))

/-- slices.ContainsFunc   lineal api.Line lineal api.Line  -/
def b9y (A:Ar) (b c:List D):Option (Bool) := (c2o A b c).bind fun a => some (A.zle 0 a)

/-- lineal code.isCall -/
def b9z (A:Ar) (a:List D):Option (Bool) := (( (Z82 A 1 (A.len a) 8).bind fun c => bif c then (b9y A a a).bind fun d => bif d then some false else (gt A (cG (lc (cI .i64) (lc (cI .i64) (lc (cI .i64) (l1 (cI .i64)))))) a (A.wrp .i64 (A.zsub (A.len a) 1))).bind fun (b,j,g,i) => some (A.zeq b 7) else some false:Option (Bool))).bind fun e => some e

/-- lineal code.Valid$1 -/
def c2p (A:Ar) (b:List D):Option (Bool) := (b9z A b).bind fun a => some (!a)

def a8S (A:Ar) (b:List D):Int->Option ((Int)⊕((Unit)⊕(Int))):=fun a => bif (A.zlt a (A.len b)) then (gt A (cL 4) b a).bind fun c => (c2p A c).bind fun d => bif d then some (.inr (.inr a)) else some (.inl (A.wrp .i64 (A.zadd a 1))) else some (.inr (.inl ()))

/-- slices.IndexFunc     lineal api.Line   lineal api.Line  -/
def c2q (A:Ar) (b:List D):Option (Int) := (iter (a8S A b) 0).bind (Sum.elim (fun _ => some (-1)) (fun a => some a))

/-- slices.ContainsFunc     lineal api.Line   lineal api.Line  -/
def c2r (A:Ar) (b:List D):Option (Bool) := (c2q A b).bind fun a => some (A.zle 0 a)

/-- lineal code.Valid -/
def Z80 (A:Ar) (a:List D):Option (Bool) := (( (Z82 A 1 (A.len a) 4).bind fun b => bif b then (c2r A a).bind fun c => some (!c) else some false:Option (Bool))).bind fun d => some d

/-- lineal code.isWord$1 -/
def b9A (A:Ar) (b:Int) (c:List D):Option (Bool) := (Z82 A 0 b (A.wrp .i64 (A.zsub (A.len c) 1))).bind fun a => some (!a)

def a6k (A:Ar) (b e:List D):Int->Option ((Int)⊕((Unit)⊕(Int))):=fun a => bif (A.zlt a (A.len b)) then (gt A (cI .i64) b a).bind fun c => (b9A A c e).bind fun d => bif d then some (.inr (.inr a)) else some (.inl (A.wrp .i64 (A.zadd a 1))) else some (.inr (.inl ()))

/-- slices.IndexFunc   int int  -/
def b5l (A:Ar) (b c:List D):Option (Int) := (iter (a6k A b c) 0).bind (Sum.elim (fun _ => some (-1)) (fun a => some a))

/-- slices.ContainsFunc   int int  -/
def b5m (A:Ar) (b c:List D):Option (Bool) := (b5l A b c).bind fun a => some (A.zle 0 a)

/-- lineal code.isWord -/
def b9B (A:Ar) (d a:List D):Option (Bool) := (( bif (A.zle (A.len a) 3) then (b5m A a d).bind fun b => some (!b) else some false:Option (Bool))).bind fun c => some c

/-- lineal code.isUse$1 -/
def c2s (A:Ar) (b c:List D):Option (Bool) := (b9B A c b).bind fun a => some (!a)

def a8T (A:Ar) (b e:List D):Int->Option ((Int)⊕((Unit)⊕(Int))):=fun a => bif (A.zlt a (A.len b)) then (gt A (cL 1) b a).bind fun c => (c2s A c e).bind fun d => bif d then some (.inr (.inr a)) else some (.inl (A.wrp .i64 (A.zadd a 1))) else some (.inr (.inl ()))

/-- slices.IndexFunc     int   int  -/
def c2t (A:Ar) (b c:List D):Option (Int) := (iter (a8T A b c) 0).bind (Sum.elim (fun _ => some (-1)) (fun a => some a))

/-- slices.ContainsFunc     int   int  -/
def c2u (A:Ar) (b c:List D):Option (Bool) := (c2t A b c).bind fun a => some (A.zle 0 a)

/-- lineal code.isUse -/
def Z86 (A:Ar) (e a:List D):Option (Bool) := (( (Z82 A 1 (A.len a) 2).bind fun b => bif b then (c2u A a e).bind fun c => some (!c) else some false:Option (Bool))).bind fun d => some d

/-- lineal code.checked -/
def Z40 (A:Ar) (a d:List D):Option (Int) := (Z80 A a).bind fun b => bif b then (Z86 A a d).bind fun c => bif c then some 0 else some 81 else some 80

/-- lineal code.newRun -/
def Z35 (A:Ar) (a b:List D):Option (List D×List D) := some (a,b)

/--  *lineal code.run .has -/
def Z94 (A:Ar) (a:Int) (u b:List D) (j B C E F G k i l m n o p q r s v w:Int) (y z:List D):Option (Bool) := (( (Z82 A 0 a (A.wrp .i64 (A.zsub (A.len b) 1))).bind fun e => bif e then bif (A.zeq a 0) then (gt A (cL 1) b a).bind fun c => some (A.zlt j (A.len c)) else bif (A.zeq a 1) then (gt A (cL 1) b a).bind fun d => some (A.zlt i (A.len d)) else none else some false:Option (Bool))).bind fun g => some g

/--  *lineal code.run .begun$1 -/
def b9C (A:Ar) (b e g i j c d:Int):Option (Bool) := (( bif (A.zeq b d) then some (A.zeq c 0) else some false:Option (Bool))).bind fun a => some a

def a8U (A:Ar) (l:Int) (b:List D):Int->Option ((Int)⊕((Unit)⊕(Int))):=fun a => bif (A.zlt a (A.len b)) then (ck (A.zle 0 a)).bind fun _ => (ck (A.zlt a (A.len b))).bind fun _ => (gc A (cG (lc (cI .i64) (lc (cI .i64) (lc (cI .i64) (lc (cI .i64) (lc (cI .i64) (l1 (cI .i64)))))))) b (A.nat a)).bind fun (c,d,e,g,i,j) => (b9C A c d e g i j l).bind fun k => bif k then some (.inr (.inr a)) else some (.inl (A.wrp .i64 (A.zadd a 1))) else some (.inr (.inl ()))

/-- slices.IndexFunc   lineal api.Call lineal api.Call  -/
def c2v (A:Ar) (b:Int) (p u:List D) (v w y z B C d e g i j k l m n o q r:Int) (c s:List D):Option (Int) := (iter (a8U A b c) 0).bind (Sum.elim (fun _ => some (-1)) (fun a => some a))

/-- slices.ContainsFunc   lineal api.Call lineal api.Call  -/
def c2w (A:Ar) (b:Int) (o u:List D) (v w y z B C c d e g i j k l m n p q:Int) (r s:List D):Option (Bool) := (c2v A b o u v w y z B C c d e g i j k l m n p q r s).bind fun a => some (A.zle 0 a)

/--  *lineal code.run .begun -/
def b9o (A:Ar) (b:Int) (o u:List D) (v w y z B C c d e g i j k l m n p q:Int) (r s:List D):Option (Bool) := (c2w A b o u v w y z B C c d e g i j k l m n p q r s).bind fun a => some a

/-- lineal code.start -/
def b9D (A:Ar):Option (Unit) := some ()

/--  *lineal code.run .swap -/
def b9E (A:Ar) (p a g i:Int) (F G:List D) (J K m j k l q r s u v w y z c d e B:Int) (C E:List D):Option (Int×Int×Int×Int) := (ck (A.zle 0 a)).bind fun _ => (ck (A.zlt a (Int.ofNat 3))).bind fun _ => (gc A (cI .i64) [(.int .i64 c),(.int .i64 d),(.int .i64 e)] (A.nat a)).bind fun n => (ck (A.zle 0 g)).bind fun _ => (ck (A.zlt g (Int.ofNat 4))).bind fun _ => (gc A (cI .i64) [(.int .i64 m),(.int .i64 j),(.int .i64 k),(.int .i64 l)] (A.nat g)).bind fun o => bif (A.zeq n o) then (ck (A.zle 0 i)).bind fun _ => (ck (A.zlt i (Int.ofNat 4))).bind fun _ => (gc A (cI .i64) [(.int .i64 m),(.int .i64 j),(.int .i64 k),(.int .i64 l)] (A.nat i)).bind fun b => (ck (A.zle 0 a)).bind fun _ => (ck (A.zlt a (Int.ofNat 3))).bind fun _ => some (1,(bif A.zeq a (Int.ofNat 0) then b else c),(bif A.zeq a (Int.ofNat 1) then b else d),(bif A.zeq a (Int.ofNat 2) then b else e)) else some (0,c,d,e)

/--  *lineal code.run .swap -/
def b2O (A:Ar) (p a g i:Int) (E F:List D) (G J K q r s u v w j k l m y c d e z:Int) (B C:List D):Option (Int×Int×Int×Int) := (ck (A.zle 0 a)).bind fun _ => (ck (A.zlt a (Int.ofNat 3))).bind fun _ => (gc A (cI .i64) [(.int .i64 c),(.int .i64 d),(.int .i64 e)] (A.nat a)).bind fun n => (ck (A.zle 0 g)).bind fun _ => (ck (A.zlt g (Int.ofNat 4))).bind fun _ => (gc A (cI .i64) [(.int .i64 j),(.int .i64 k),(.int .i64 l),(.int .i64 m)] (A.nat g)).bind fun o => bif (A.zeq n o) then (ck (A.zle 0 i)).bind fun _ => (ck (A.zlt i (Int.ofNat 4))).bind fun _ => (gc A (cI .i64) [(.int .i64 j),(.int .i64 k),(.int .i64 l),(.int .i64 m)] (A.nat i)).bind fun b => (ck (A.zle 0 a)).bind fun _ => (ck (A.zlt a (Int.ofNat 3))).bind fun _ => some (1,(bif A.zeq a (Int.ofNat 0) then b else c),(bif A.zeq a (Int.ofNat 1) then b else d),(bif A.zeq a (Int.ofNat 2) then b else e)) else some (0,c,d,e)

/--  *lineal code.run .step -/
def Z84 (A:Ar) (G:Int) (x2 K L:List D) (k g V W X N O i e P Q R S U w y z j:Int) (J M:List D):Option (List D×List D×Int×Int×Int×Int×Int×Int×Int×Int×Int×Int×Int×Int×Int×Int×Int×Int×Int×Int×List D×List D) := bif (A.zeq G 0) then (gt A (cL 1) L G).bind fun q1 => (gt A (cI .i64) q1 k).bind fun o0 => (( bif (A.zeq g 0) then (b9o A G K L k g V W X N O i e P Q R S U w y z j J M).bind fun r2 => some (!r2) else some false:Option (Bool))).bind fun l5 => (( bif l5 then (b9D A).bind fun () => (ap A J [(.agg [(.int .i64 G),(.int .i64 0),(.int .i64 o0),(.int .i64 0),(.int .i64 (A.wrp .i64 (A.zadd (A.wrp .i64 (A.zmul 2 j)) 1))),(.int .i64 0)])]).bind fun e2 => (ap A M [(.int .i64 0)]).bind fun g2 => some (0,1,0,0,(A.len J),e2,g2) else some (V,W,X,N,O,J,M):Option (Int×Int×Int×Int×Int×List D×List D))).bind fun (r,s,u,C,m,v,k0) => (( bif (A.zlt 0 (A.len x2)) then (gt A (cI .i64) x2 o0).bind fun a2 => some (A.zeq a2 g) else some false:Option (Bool))).bind fun n7 => (( bif n7 then (ck (A.zle 0 m)).bind fun _ => (ck (A.zlt m (A.len k0))).bind fun _ => (gc A (cI .i64) k0 (A.nat m)).bind fun u7 => some (A.lset k0 (A.nat m) (.int .i64 (A.wrp .i64 (A.zadd j 1)))) else some k0:Option (List D))).bind fun c1 => (gt A (cL 4) K o0).bind fun b2 => (gt A (cG (lc (cI .i64) (lc (cI .i64) (lc (cI .i64) (l1 (cI .i64)))))) b2 g).bind fun (F,b,d,g0) => (( bif (A.zeq F 1) then (ck (A.zle 0 d)).bind fun _ => (ck (A.zlt d (Int.ofNat 3))).bind fun _ => (gc A (cI .i64) [(.int .i64 w),(.int .i64 y),(.int .i64 z)] (A.nat d)).bind fun i0 => (ck (A.zle 0 b)).bind fun _ => (ck (A.zlt b (Int.ofNat 4))).bind fun _ => some (k,(A.wrp .i64 (A.zadd g 1)),(bif A.zeq b (Int.ofNat 0) then i0 else r),(bif A.zeq b (Int.ofNat 1) then i0 else s),(bif A.zeq b (Int.ofNat 2) then i0 else u),(bif A.zeq b (Int.ofNat 3) then i0 else C),w,y,z,v) else (( bif (A.zeq F 2) then (ck (A.zle 0 d)).bind fun _ => (ck (A.zlt d (Int.ofNat 4))).bind fun _ => (gc A (cI .i64) [(.int .i64 r),(.int .i64 s),(.int .i64 u),(.int .i64 C)] (A.nat d)).bind fun l0 => (ck (A.zle 0 b)).bind fun _ => (ck (A.zlt b (Int.ofNat 3))).bind fun _ => some (k,(A.wrp .i64 (A.zadd g 1)),r,s,u,C,(bif A.zeq b (Int.ofNat 0) then l0 else w),(bif A.zeq b (Int.ofNat 1) then l0 else y),(bif A.zeq b (Int.ofNat 2) then l0 else z),v) else (( bif (A.zeq F 3) then (b9E A F b d g0 K L k (A.wrp .i64 (A.zadd g 1)) r s u C m i e P Q R S U w y z (A.wrp .i64 (A.zadd j 1)) v c1).bind fun (i2,j2,k2,l2) => some (k,(A.wrp .i64 (A.zadd g 1)),r,s,u,i2,j2,k2,l2,v) else (( bif (A.zeq F 4) then (ck (A.zle 0 b)).bind fun _ => (ck (A.zlt b (Int.ofNat 4))).bind fun _ => some (k,(A.wrp .i64 (A.zadd g 1)),(bif A.zeq b (Int.ofNat 0) then d else r),(bif A.zeq b (Int.ofNat 1) then d else s),(bif A.zeq b (Int.ofNat 2) then d else u),(bif A.zeq b (Int.ofNat 3) then d else C),v) else (( bif (A.zeq F 5) then (ck (A.zle 0 d)).bind fun _ => (ck (A.zlt d (Int.ofNat 4))).bind fun _ => (gc A (cI .i64) [(.int .i64 r),(.int .i64 s),(.int .i64 u),(.int .i64 C)] (A.nat d)).bind fun Y => (ck (A.zle 0 g0)).bind fun _ => (ck (A.zlt g0 (Int.ofNat 4))).bind fun _ => (gc A (cI .i64) [(.int .i64 r),(.int .i64 s),(.int .i64 u),(.int .i64 C)] (A.nat g0)).bind fun a0 => (nk (A.zeq 10 0)).bind fun _ => (ck (A.zle 0 b)).bind fun _ => (ck (A.zlt b (Int.ofNat 4))).bind fun _ => some (k,(A.wrp .i64 (A.zadd g 1)),(bif A.zeq b (Int.ofNat 0) then (A.rem (A.wrp .i64 (A.zadd Y a0)) 10) else r),(bif A.zeq b (Int.ofNat 1) then (A.rem (A.wrp .i64 (A.zadd Y a0)) 10) else s),(bif A.zeq b (Int.ofNat 2) then (A.rem (A.wrp .i64 (A.zadd Y a0)) 10) else u),(bif A.zeq b (Int.ofNat 3) then (A.rem (A.wrp .i64 (A.zadd Y a0)) 10) else C),v) else (( bif (A.zeq F 6) then (ck (A.zle 0 b)).bind fun _ => (ck (A.zlt b (Int.ofNat 4))).bind fun _ => (gc A (cI .i64) [(.int .i64 r),(.int .i64 s),(.int .i64 u),(.int .i64 C)] (A.nat b)).bind fun d1 => (( bif (A.zeq d1 0) then some d else some (A.wrp .i64 (A.zadd g 1)):Option (Int))).bind fun s2 => some (k,s2,v) else (( bif (A.zeq F 7) then (ck (A.zle 0 m)).bind fun _ => (ck (A.zlt m (A.len v))).bind fun _ => (ck (A.zle 0 b)).bind fun _ => (ck (A.zlt b (Int.ofNat 4))).bind fun _ => (gc A (cI .i64) [(.int .i64 r),(.int .i64 s),(.int .i64 u),(.int .i64 C)] (A.nat b)).bind fun e1 => (gc A (cG (lc (cI .i64) (lc (cI .i64) (lc (cI .i64) (lc (cI .i64) (lc (cI .i64) (l1 (cI .i64)))))))) v (A.nat m)).bind fun (p0,q0,r0,s0,u0,o7) => (gc A (cG (lc (cI .i64) (lc (cI .i64) (lc (cI .i64) (lc (cI .i64) (lc (cI .i64) (l1 (cI .i64)))))))) (A.lset v (A.nat m) (.agg [(.int .i64 p0),(.int .i64 q0),(.int .i64 r0),(.int .i64 s0),(.int .i64 u0),(.int .i64 (A.wrp .i64 (A.zmul 2 (A.wrp .i64 (A.zadd j 1)))))])) (A.nat m)).bind fun (g1,i1,j1,p7,k1,m1) => some ((A.wrp .i64 (A.zadd k 1)),0,(A.lset (A.lset v (A.nat m) (.agg [(.int .i64 p0),(.int .i64 q0),(.int .i64 r0),(.int .i64 s0),(.int .i64 u0),(.int .i64 (A.wrp .i64 (A.zmul 2 (A.wrp .i64 (A.zadd j 1)))))])) (A.nat m) (.agg [(.int .i64 g1),(.int .i64 i1),(.int .i64 j1),(.int .i64 e1),(.int .i64 k1),(.int .i64 m1)]))) else some (k,(A.wrp .i64 (A.zadd g 1)),v):Option (Int×Int×List D))).bind fun (u2,v2,w2) => some (u2,v2,w2):Option (Int×Int×List D))).bind fun (y2,z2,a3) => some (y2,z2,r,s,u,C,a3):Option (Int×Int×Int×Int×Int×Int×List D))).bind fun (b3,c3,d3,e3,g3,i3,j3) => some (b3,c3,d3,e3,g3,i3,j3):Option (Int×Int×Int×Int×Int×Int×List D))).bind fun (k3,l3,m3,n3,o3,p3,q3) => some (k3,l3,m3,n3,o3,p3,w,y,z,q3):Option (Int×Int×Int×Int×Int×Int×Int×Int×Int×List D))).bind fun (r3,s3,u3,v3,w3,y3,z3,a4,b4,c4) => some (r3,s3,u3,v3,w3,y3,z3,a4,b4,c4):Option (Int×Int×Int×Int×Int×Int×Int×Int×Int×List D))).bind fun (d4,e4,g4,i4,j4,k4,l4,m4,n4,o4) => some (d4,e4,g4,i4,j4,k4,l4,m4,n4,o4):Option (Int×Int×Int×Int×Int×Int×Int×Int×Int×List D))).bind fun (p4,q4,r4,s4,u4,v4,w4,y4,z4,a5) => some (K,L,p4,q4,r4,s4,u4,v4,m,i,e,P,Q,R,S,U,w4,y4,z4,(A.wrp .i64 (A.zadd j 1)),a5,c1) else bif (A.zeq G 1) then (gt A (cL 1) L G).bind fun n1 => (gt A (cI .i64) n1 i).bind fun m0 => (( bif (A.zeq e 0) then (b9o A G K L k g V W X N O i e P Q R S U w y z j J M).bind fun m2 => some (!m2) else some false:Option (Bool))).bind fun b5 => (( bif b5 then (b9D A).bind fun () => (ap A J [(.agg [(.int .i64 G),(.int .i64 0),(.int .i64 m0),(.int .i64 0),(.int .i64 (A.wrp .i64 (A.zadd (A.wrp .i64 (A.zmul 2 j)) 1))),(.int .i64 0)])]).bind fun c2 => (ap A M [(.int .i64 0)]).bind fun d2 => some (0,1,0,0,(A.len J),c2,d2) else some (P,Q,R,S,U,J,M):Option (Int×Int×Int×Int×Int×List D×List D))).bind fun (n,o,p,B,l,q,j0) => (( bif (A.zlt 0 (A.len x2)) then (gt A (cI .i64) x2 m0).bind fun o1 => some (A.zeq o1 e) else some false:Option (Bool))).bind fun c5 => (( bif c5 then (ck (A.zle 0 l)).bind fun _ => (ck (A.zlt l (A.len j0))).bind fun _ => (gc A (cI .i64) j0 (A.nat l)).bind fun q7 => some (A.lset j0 (A.nat l) (.int .i64 (A.wrp .i64 (A.zadd j 1)))) else some j0:Option (List D))).bind fun b1 => (gt A (cL 4) K m0).bind fun p1 => (gt A (cG (lc (cI .i64) (lc (cI .i64) (lc (cI .i64) (l1 (cI .i64)))))) p1 e).bind fun (E,a,c,b0) => (( bif (A.zeq E 1) then (ck (A.zle 0 c)).bind fun _ => (ck (A.zlt c (Int.ofNat 3))).bind fun _ => (gc A (cI .i64) [(.int .i64 w),(.int .i64 y),(.int .i64 z)] (A.nat c)).bind fun c0 => (ck (A.zle 0 a)).bind fun _ => (ck (A.zlt a (Int.ofNat 4))).bind fun _ => some (i,(A.wrp .i64 (A.zadd e 1)),(bif A.zeq a (Int.ofNat 0) then c0 else n),(bif A.zeq a (Int.ofNat 1) then c0 else o),(bif A.zeq a (Int.ofNat 2) then c0 else p),(bif A.zeq a (Int.ofNat 3) then c0 else B),w,y,z,q) else (( bif (A.zeq E 2) then (ck (A.zle 0 c)).bind fun _ => (ck (A.zlt c (Int.ofNat 4))).bind fun _ => (gc A (cI .i64) [(.int .i64 n),(.int .i64 o),(.int .i64 p),(.int .i64 B)] (A.nat c)).bind fun n0 => (ck (A.zle 0 a)).bind fun _ => (ck (A.zlt a (Int.ofNat 3))).bind fun _ => some (i,(A.wrp .i64 (A.zadd e 1)),n,o,p,B,(bif A.zeq a (Int.ofNat 0) then n0 else w),(bif A.zeq a (Int.ofNat 1) then n0 else y),(bif A.zeq a (Int.ofNat 2) then n0 else z),q) else (( bif (A.zeq E 3) then (b2O A E a c b0 K L k g V W X N O i (A.wrp .i64 (A.zadd e 1)) n o p B l w y z (A.wrp .i64 (A.zadd j 1)) q b1).bind fun (n2,o2,p2,q2) => some (i,(A.wrp .i64 (A.zadd e 1)),n,o,p,n2,o2,p2,q2,q) else (( bif (A.zeq E 4) then (ck (A.zle 0 a)).bind fun _ => (ck (A.zlt a (Int.ofNat 4))).bind fun _ => some (i,(A.wrp .i64 (A.zadd e 1)),(bif A.zeq a (Int.ofNat 0) then c else n),(bif A.zeq a (Int.ofNat 1) then c else o),(bif A.zeq a (Int.ofNat 2) then c else p),(bif A.zeq a (Int.ofNat 3) then c else B),q) else (( bif (A.zeq E 5) then (ck (A.zle 0 c)).bind fun _ => (ck (A.zlt c (Int.ofNat 4))).bind fun _ => (gc A (cI .i64) [(.int .i64 n),(.int .i64 o),(.int .i64 p),(.int .i64 B)] (A.nat c)).bind fun d0 => (ck (A.zle 0 b0)).bind fun _ => (ck (A.zlt b0 (Int.ofNat 4))).bind fun _ => (gc A (cI .i64) [(.int .i64 n),(.int .i64 o),(.int .i64 p),(.int .i64 B)] (A.nat b0)).bind fun e0 => (nk (A.zeq 10 0)).bind fun _ => (ck (A.zle 0 a)).bind fun _ => (ck (A.zlt a (Int.ofNat 4))).bind fun _ => some (i,(A.wrp .i64 (A.zadd e 1)),(bif A.zeq a (Int.ofNat 0) then (A.rem (A.wrp .i64 (A.zadd d0 e0)) 10) else n),(bif A.zeq a (Int.ofNat 1) then (A.rem (A.wrp .i64 (A.zadd d0 e0)) 10) else o),(bif A.zeq a (Int.ofNat 2) then (A.rem (A.wrp .i64 (A.zadd d0 e0)) 10) else p),(bif A.zeq a (Int.ofNat 3) then (A.rem (A.wrp .i64 (A.zadd d0 e0)) 10) else B),q) else (( bif (A.zeq E 6) then (ck (A.zle 0 a)).bind fun _ => (ck (A.zlt a (Int.ofNat 4))).bind fun _ => (gc A (cI .i64) [(.int .i64 n),(.int .i64 o),(.int .i64 p),(.int .i64 B)] (A.nat a)).bind fun r1 => (( bif (A.zeq r1 0) then some c else some (A.wrp .i64 (A.zadd e 1)):Option (Int))).bind fun d5 => some (i,d5,q) else (( bif (A.zeq E 7) then (ck (A.zle 0 l)).bind fun _ => (ck (A.zlt l (A.len q))).bind fun _ => (ck (A.zle 0 a)).bind fun _ => (ck (A.zlt a (Int.ofNat 4))).bind fun _ => (gc A (cI .i64) [(.int .i64 n),(.int .i64 o),(.int .i64 p),(.int .i64 B)] (A.nat a)).bind fun s1 => (gc A (cG (lc (cI .i64) (lc (cI .i64) (lc (cI .i64) (lc (cI .i64) (lc (cI .i64) (l1 (cI .i64)))))))) q (A.nat l)).bind fun (v0,w0,y0,z0,a1,r7) => (gc A (cG (lc (cI .i64) (lc (cI .i64) (lc (cI .i64) (lc (cI .i64) (lc (cI .i64) (l1 (cI .i64)))))))) (A.lset q (A.nat l) (.agg [(.int .i64 v0),(.int .i64 w0),(.int .i64 y0),(.int .i64 z0),(.int .i64 a1),(.int .i64 (A.wrp .i64 (A.zmul 2 (A.wrp .i64 (A.zadd j 1)))))])) (A.nat l)).bind fun (u1,v1,w1,s7,y1,z1) => some ((A.wrp .i64 (A.zadd i 1)),0,(A.lset (A.lset q (A.nat l) (.agg [(.int .i64 v0),(.int .i64 w0),(.int .i64 y0),(.int .i64 z0),(.int .i64 a1),(.int .i64 (A.wrp .i64 (A.zmul 2 (A.wrp .i64 (A.zadd j 1)))))])) (A.nat l) (.agg [(.int .i64 u1),(.int .i64 v1),(.int .i64 w1),(.int .i64 s1),(.int .i64 y1),(.int .i64 z1)]))) else some (i,(A.wrp .i64 (A.zadd e 1)),q):Option (Int×Int×List D))).bind fun (e5,g5,i5) => some (e5,g5,i5):Option (Int×Int×List D))).bind fun (j5,k5,m5) => some (j5,k5,n,o,p,B,m5):Option (Int×Int×Int×Int×Int×Int×List D))).bind fun (n5,o5,p5,q5,r5,s5,u5) => some (n5,o5,p5,q5,r5,s5,u5):Option (Int×Int×Int×Int×Int×Int×List D))).bind fun (v5,w5,y5,z5,a6,b6,c6) => some (v5,w5,y5,z5,a6,b6,w,y,z,c6):Option (Int×Int×Int×Int×Int×Int×Int×Int×Int×List D))).bind fun (d6,e6,g6,i6,j6,k6,l6,m6,n6,o6) => some (d6,e6,g6,i6,j6,k6,l6,m6,n6,o6):Option (Int×Int×Int×Int×Int×Int×Int×Int×Int×List D))).bind fun (p6,q6,r6,s6,u6,v6,w6,y6,z6,a7) => some (p6,q6,r6,s6,u6,v6,w6,y6,z6,a7):Option (Int×Int×Int×Int×Int×Int×Int×Int×Int×List D))).bind fun (b7,c7,d7,e7,g7,i7,j7,k7,l7,m7) => some (K,L,k,g,V,W,X,N,O,b7,c7,d7,e7,g7,i7,l,j7,k7,l7,(A.wrp .i64 (A.zadd j 1)),m7,b1) else none

def b0e (A:Ar) (E x4:List D):(Int×List D×List D×Int×Int×Int×Int×Int×Int×Int×Int×Int×Int×Int×Int×Int×Int×Int×Int×Int×Int×List D×List D)->Option ((Int×List D×List D×Int×Int×Int×Int×Int×Int×Int×Int×Int×Int×Int×Int×Int×Int×Int×Int×Int×Int×List D×List D)⊕((List D×List D×Int×Int×Int×Int×Int×Int×Int×Int×Int×Int×Int×Int×Int×Int×Int×Int×Int×Int×List D×List D)⊕(List D×List D×Int×Int×Int×Int×Int×Int×Int×Int×Int×Int×Int×Int×Int×Int×Int×Int×Int×Int×List D×List D×List D×List D×Int×Int×Int×Int×Int×Int×Int×Int×Int×Int×Int×Int×Int×Int×Int×Int×Int×Int×List D×List D))):=fun (B,a,b,c,d,e,g,i,j,k,l,m,n,o,p,q,r,s,u,v,w,y,z) => bif (A.zlt B (A.len E)) then (gt A (cI .i64) E B).bind fun C => (Z94 A C a b c d e g i j k l m n o p q r s u v w y z).bind fun F => bif F then (Z84 A C x4 a b c d e g i j k l m n o p q r s u v w y z).bind fun (G,J,K,L,M,N,O,P,Q,R,S,U,V,W,X,Y,a0,b0,c0,d0,e0,g0) => some (.inl ((A.wrp .i64 (A.zadd B 1)),G,J,K,L,M,N,O,P,Q,R,S,U,V,W,X,Y,a0,b0,c0,d0,e0,g0)) else some (.inr (.inr (a,b,c,d,e,g,i,j,k,l,m,n,o,p,q,r,s,u,v,w,y,z,a,b,c,d,e,g,i,j,k,l,m,n,o,p,q,r,s,u,v,w,y,z))) else some (.inr (.inl (a,b,c,d,e,g,i,j,k,l,m,n,o,p,q,r,s,u,v,w,y,z)))

/-- lineal code.done -/
def Z69 (A:Ar) (x1 x2 c x4:List D):Option (List D×List D×Int×Int×Int×Int×Int×Int×Int×Int×Int×Int×Int×Int×Int×Int×Int×Int×Int×Int×List D×List D×Bool) := (Z35 A x1 x2).bind fun (a,b) => bif (A.zlt 12 (A.len c)) then some (a,b,0,0,0,0,0,0,0,0,0,0,0,0,0,0,0,0,0,0,[],[],false) else (iter (b0e A c x4) (0,a,b,0,0,0,0,0,0,0,0,0,0,0,0,0,0,0,0,0,0,[],[])).bind (Sum.elim (fun (Y,a0,b0,c0,d0,e0,d,e,g,i,j,k,l,m,n,o,p,q,r,s,u,v) => some (Y,a0,b0,c0,d0,e0,d,e,g,i,j,k,l,m,n,o,p,q,r,s,u,v,true)) (fun (w,y,z,B,C,E,F,G,J,K,L,M,N,O,P,Q,R,S,U,V,W,X,g0,i0,j0,k0,l0,m0,n0,o0,p0,q0,r0,s0,u0,v0,w0,y0,z0,a1,b1,c1,d1,e1) => some (w,y,z,B,C,E,F,G,J,K,L,M,N,O,P,Q,R,S,U,V,W,X,false)))

/-- lineal code.Run$1 -/
def Z52 (A:Ar) (b o:List D) (s u v w y z B c d e g i j k l m n p:Int) (a q r:List D):Option (List D) := some a

/-- lineal code.behind -/
def Z51 (A:Ar) (b c J K:List D):Option ((List D)⊕(Int)) := (Z40 A b c).bind fun a => bif (A.zeq a 0) then (Z69 A b c J []).bind fun (G,d,e,g,i,j,k,l,m,n,o,p,q,r,s,u,v,w,y,z,B,C,E) => bif E then (Z52 A G d e g i j k l m n o p q r s u v w y z B C K).bind fun F => some (.inl F) else some (.inr 2) else some (.inr a)

/-- lineal code.Run -/
def Z15 (A:Ar) (e g i:List D):Option (List D×Int) := (( (Z51 A e g i []).bind (Sum.elim (fun a => some (0,a)) (fun b => some (b,[]))):Option (Int×List D))).bind fun (c,d) => some (d,c)

/-- lineal lineallaw08.Sane -/
def Z9 (A:Ar):Option (Bool) := (Z15 A [(.list 4 [(.agg [(.int .i64 1),(.int .i64 0),(.int .i64 0),(.int .i64 0)]),(.agg [(.int .i64 5),(.int .i64 2),(.int .i64 0),(.int .i64 1)]),(.agg [(.int .i64 2),(.int .i64 0),(.int .i64 2),(.int .i64 0)]),(.agg [(.int .i64 7),(.int .i64 0),(.int .i64 0),(.int .i64 0)])])] [(.list 1 [(.int .i64 0)]),(.list 1 [(.int .i64 0)])] [(.int .i64 0),(.int .i64 0),(.int .i64 1),(.int .i64 1),(.int .i64 0),(.int .i64 0),(.int .i64 1),(.int .i64 1)]).bind fun (a,p) => (( bif (A.zeq p 0) then bif (A.zeq (A.len a) 2) then (gc A (cG (lc (cI .i64) (lc (cI .i64) (lc (cI .i64) (lc (cI .i64) (lc (cI .i64) (l1 (cI .i64)))))))) a 0).bind fun (l,m,n,o,b,c) => bif (A.deq [(.int .i64 l),(.int .i64 m),(.int .i64 n),(.int .i64 o),(.int .i64 b),(.int .i64 c)] [(.int .i64 0),(.int .i64 0),(.int .i64 0),(.int .i64 0),(.int .i64 1),(.int .i64 12)]) then (gc A (cG (lc (cI .i64) (lc (cI .i64) (lc (cI .i64) (lc (cI .i64) (lc (cI .i64) (l1 (cI .i64)))))))) a 1).bind fun (d,e,g,i,j,k) => some (A.deq [(.int .i64 d),(.int .i64 e),(.int .i64 g),(.int .i64 i),(.int .i64 j),(.int .i64 k)] [(.int .i64 1),(.int .i64 0),(.int .i64 0),(.int .i64 0),(.int .i64 5),(.int .i64 16)]) else some false else some false else some false:Option (Bool))).bind fun q => some q

/-- lineal spec.between -/
def b5n (A:Ar) (c a d:Int):Option (Bool) := (( bif (A.zle c a) then some (A.zle a d) else some false:Option (Bool))).bind fun b => some b

/-- lineal spec.table$1$1 -/
def c2x (A:Ar) (b c:Int):Option (Bool) := (b5n A 0 b c).bind fun a => some (!a)

def a6l (A:Ar) (b:List D) (e:Int):Int->Option ((Int)⊕((Unit)⊕(Int))):=fun a => bif (A.zlt a (A.len b)) then (gt A (cI .i64) b a).bind fun c => (c2x A c e).bind fun d => bif d then some (.inr (.inr a)) else some (.inl (A.wrp .i64 (A.zadd a 1))) else some (.inr (.inl ()))

/-- slices.IndexFunc   int int  -/
def b5o (A:Ar) (b:List D) (c:Int):Option (Int) := (iter (a6l A b c) 0).bind (Sum.elim (fun _ => some (-1)) (fun a => some a))

/-- slices.ContainsFunc   int int  -/
def b2P (A:Ar) (b:List D) (c:Int):Option (Bool) := (b5o A b c).bind fun a => some (A.zle 0 a)

/-- lineal spec.table$1 -/
def b9F (A:Ar) (a:List D) (g d:Int) (i j:List D) (e:Int):Option (Bool) := (( bif (A.zeq (A.len a) d) then (b2P A a e).bind fun b => some b else some true:Option (Bool))).bind fun c => some c

def a6m (A:Ar) (b:List D) (e g:Int) (i j:List D) (k:Int):Int->Option ((Int)⊕((Unit)⊕(Int))):=fun a => bif (A.zlt a (A.len b)) then (gt A (cL 1) b a).bind fun c => (b9F A c e g i j k).bind fun d => bif d then some (.inr (.inr a)) else some (.inl (A.wrp .i64 (A.zadd a 1))) else some (.inr (.inl ()))

/-- slices.IndexFunc     int   int  -/
def b5p (A:Ar) (b:List D) (c d:Int) (e g:List D) (i:Int):Option (Int) := (iter (a6m A b c d e g i) 0).bind (Sum.elim (fun _ => some (-1)) (fun a => some a))

/-- slices.ContainsFunc     int   int  -/
def b2Q (A:Ar) (b:List D) (c d:Int) (e g:List D) (i:Int):Option (Bool) := (b5p A b c d e g i).bind fun a => some (A.zle 0 a)

/-- lineal spec.table -/
def b9p (A:Ar) (a e:Int) (g i b:List D) (j:Int):Option (Bool) := (( bif (A.zeq (A.len b) a) then (b2Q A b a e g i j).bind fun c => some (!c) else some false:Option (Bool))).bind fun d => some d

/-- lineal spec.Valid -/
def Z81 (A:Ar) (a b:Int) (c d:List D):Option (Bool) := (( (b5n A 1 a 8).bind fun i => bif i then (b5n A 1 b 4).bind fun j => bif j then (b9p A a b c d c (A.wrp .i64 (A.zsub a 1))).bind fun e => bif e then (b9p A a b c d d 5).bind fun g => some g else some false else some false else some false:Option (Bool))).bind fun k => some k

/-- lineal code.specified -/
def Z33 (A:Ar) (i b:Int) (j k a l:List D):Option (Int) := (Z80 A a).bind fun e => bif e then (( (Z81 A i b j k).bind fun c => bif c then some (!(A.zeq b (A.len a))) else some true:Option (Bool))).bind fun g => bif g then some 10 else (Z40 A a l).bind fun d => some d else some 80

/-- lineal history.between -/
def b2R (A:Ar) (c a d:Int):Option (Bool) := (( bif (A.zle c a) then some (A.zle a d) else some false:Option (Bool))).bind fun b => some b

/-- lineal history.areSpecs$1 -/
def c2y (A:Ar) (b c:Int) (d e:List D):Option (Bool) := (Z81 A b c d e).bind fun a => some (!a)

def a8V (A:Ar) (b:List D):Int->Option ((Int)⊕((Unit)⊕(Int))):=fun a => bif (A.zlt a (A.len b)) then (gt A (cG (lc (cI .i64) (lc (cI .i64) (lc (cL 1) (l1 (cL 1)))))) b a).bind fun (c,d,e,g) => (c2y A c d e g).bind fun i => bif i then some (.inr (.inr a)) else some (.inl (A.wrp .i64 (A.zadd a 1))) else some (.inr (.inl ()))

/-- slices.IndexFunc   lineal api.Spec lineal api.Spec  -/
def c2z (A:Ar) (b:List D):Option (Int) := (iter (a8V A b) 0).bind (Sum.elim (fun _ => some (-1)) (fun a => some a))

/-- slices.ContainsFunc   lineal api.Spec lineal api.Spec  -/
def c2A (A:Ar) (b:List D):Option (Bool) := (c2z A b).bind fun a => some (A.zle 0 a)

/-- lineal history.areSpecs -/
def b9G (A:Ar) (a:List D):Option (Bool) := (( (b2R A 1 (A.len a) 2).bind fun b => bif b then (c2A A a).bind fun c => some (!c) else some false:Option (Bool))).bind fun d => some d

/-- lineal history.isCall -/
def b9H (A:Ar) (o p q c d a:Int):Option (Bool) := (( (b2R A 0 o 3).bind fun l => bif l then (b2R A 0 p 1).bind fun e => bif e then (b2R A 0 q 3).bind fun g => bif g then (b2R A 0 c 9).bind fun i => bif i then (b2R A 1 d 100).bind fun j => some j else some false else some false else some false else some false:Option (Bool))).bind fun b => bif (A.zeq a 0) then (( bif b then some (A.zeq c 0) else some false:Option (Bool))).bind fun m => some m else (( bif b then (b2R A 2 a 100).bind fun k => bif k then some (A.zlt d a) else some false else some false:Option (Bool))).bind fun n => some n

/-- lineal history.before -/
def Z75 (A:Ar) (d i j k l a m n o e c g:Int):Option (Bool) := (( bif (A.zlt 0 a) then some (A.zlt a c) else some false:Option (Bool))).bind fun b => some b

def a8W (A:Ar) (b o d e g i:Int) (p:List D):Int->Option ((Int)⊕((Unit)⊕(Unit))):=fun c => bif (A.zlt c (A.len p)) then (gt A (cG (lc (cI .i64) (lc (cI .i64) (lc (cI .i64) (lc (cI .i64) (lc (cI .i64) (l1 (cI .i64)))))))) p c).bind fun (a,j,k,l,m,n) => (( bif (A.zeq b a) then (Z75 A b o d e g i a j k l m n).bind fun q => bif q then some false else (Z75 A a j k l m n b o d e g i).bind fun r => some (!r) else some false:Option (Bool))).bind fun s => bif s then some (.inr (.inr ())) else some (.inl (A.wrp .i64 (A.zadd c 1))) else some (.inr (.inl ()))

def a8X (A:Ar) (e:List D):(Int×List D)->Option ((Int×List D)⊕((List D)⊕(List D))):=fun (d,c) => bif (A.zlt d (A.len e)) then (gt A (cG (lc (cI .i64) (lc (cI .i64) (lc (cI .i64) (lc (cI .i64) (lc (cI .i64) (l1 (cI .i64)))))))) e d).bind fun (k,l,i,j,a,b) => (( (b9H A k l i j a b).bind fun q => bif q then (ck (A.zle 0 a)).bind fun _ => (ck (A.zlt a (Int.ofNat 101))).bind fun _ => (gc A cB c (A.nat (A.zadd 0 (A.zmul a (Int.ofNat 1))))).bind fun n => some n else some true:Option (Bool))).bind fun r => bif r then some (.inr (.inr c)) else (ck (A.zle 0 a)).bind fun _ => (ck (A.zlt a (Int.ofNat 101))).bind fun _ => (A.lget c (A.nat (A.zadd 0 (A.zmul a (Int.ofNat 1))))).bind fun s => jn (fun (m:List D) => (sl A e 0 d).bind fun p => (iter (a8W A k l i j a b p) 0).bind (Sum.elim (fun _ => some (.inl ((A.wrp .i64 (A.zadd d 1)),m))) (fun _ => some (.inr (.inr m))))) fun g => bif (A.zlt 0 b) then (ck (A.zle 0 b)).bind fun _ => (ck (A.zlt b (Int.ofNat 101))).bind fun _ => (gc A cB (A.lset c (A.nat (A.zadd 0 (A.zmul a (Int.ofNat 1)))) (.bool true)) (A.nat (A.zadd 0 (A.zmul b (Int.ofNat 1))))).bind fun o => bif o then some (.inr (.inr (A.lset c (A.nat (A.zadd 0 (A.zmul a (Int.ofNat 1)))) (.bool true)))) else (ck (A.zle 0 b)).bind fun _ => (ck (A.zlt b (Int.ofNat 101))).bind fun _ => (A.lget (A.lset c (A.nat (A.zadd 0 (A.zmul a (Int.ofNat 1)))) (.bool true)) (A.nat (A.zadd 0 (A.zmul b (Int.ofNat 1))))).bind fun u => g (A.lset (A.lset c (A.nat (A.zadd 0 (A.zmul a (Int.ofNat 1)))) (.bool true)) (A.nat (A.zadd 0 (A.zmul b (Int.ofNat 1)))) (.bool true)) else g (A.lset c (A.nat (A.zadd 0 (A.zmul a (Int.ofNat 1)))) (.bool true)) else some (.inr (.inl c))

/-- lineal history.Valid -/
def b9I (A:Ar) (a:List D):Option (Bool) := bif (A.zlt 8 (A.len a)) then some false else (iter (a8X A a) (0,(A.rep (Int.ofNat 101) (.bool false)))).bind (Sum.elim (fun b => some true) (fun c => some false))

/-- lineal history.fits$1 -/
def b9J (A:Ar) (k a e l m n:Int) (b:List D):Option (Bool) := (( bif (A.zle (A.len b) a) then some true else (gt A (cG (lc (cI .i64) (lc (cI .i64) (lc (cL 1) (l1 (cL 1)))))) b a).bind fun (j,c,g,i) => some (A.zle c e):Option (Bool))).bind fun d => some d

def a6n (A:Ar) (b l:List D):Int->Option ((Int)⊕((Unit)⊕(Int))):=fun a => bif (A.zlt a (A.len b)) then (gt A (cG (lc (cI .i64) (lc (cI .i64) (lc (cI .i64) (lc (cI .i64) (lc (cI .i64) (l1 (cI .i64)))))))) b a).bind fun (c,d,e,g,i,j) => (b9J A c d e g i j l).bind fun k => bif k then some (.inr (.inr a)) else some (.inl (A.wrp .i64 (A.zadd a 1))) else some (.inr (.inl ()))

/-- slices.IndexFunc   lineal api.Call lineal api.Call  -/
def b5q (A:Ar) (b c:List D):Option (Int) := (iter (a6n A b c) 0).bind (Sum.elim (fun _ => some (-1)) (fun a => some a))

/-- slices.ContainsFunc   lineal api.Call lineal api.Call  -/
def b5r (A:Ar) (b c:List D):Option (Bool) := (b5q A b c).bind fun a => some (A.zle 0 a)

/-- lineal history.fits -/
def b9K (A:Ar) (b c:List D):Option (Bool) := (b5r A c b).bind fun a => some (!a)

/-- lineal history.For -/
def b9L (A:Ar) (a b:List D):Option (Bool×Int) := (b9G A a).bind fun d => bif d then (( (b9I A b).bind fun e => bif e then (b9K A a b).bind fun c => some c else some false:Option (Bool))).bind fun g => some (g,0) else some (false,10)

/-- lineal history.checked -/
def Z72 (A:Ar) (e g:List D):Option (Int) := (b9L A e g).bind fun (b,a) => (( bif (A.zeq a 0) then some (!b) else some false:Option (Bool))).bind fun d => (( bif d then some 20 else some a:Option (Int))).bind fun c => some c

/-- lineal history.newSearch -/
def c2B (A:Ar) (a b:List D):Option (List D×List D) := some (a,b)

/--  lineal history.set .has -/
def b0f (A:Ar) (b a:Int):Option (Bool) := (nk (A.zlt a 0)).bind fun _ => some (A.zeq (A.bits .and .u8 (A.shr .u8 b a) 1) 1)

def a6o (A:Ar) (g:Int) (b:List D):Int->Option ((Int)⊕((Unit)⊕(Unit))):=fun a => bif (A.zlt a (A.len b)) then (gt A (cG (lc (cI .i64) (lc (cI .i64) (lc (cI .i64) (lc (cI .i64) (lc (cI .i64) (l1 (cI .i64)))))))) b a).bind fun (i,j,k,l,m,c) => (( bif (A.zlt 0 c) then (b0f A g a).bind fun d => some (!d) else some false:Option (Bool))).bind fun e => bif e then some (.inr (.inr ())) else some (.inl (A.wrp .i64 (A.zadd a 1))) else some (.inr (.inl ()))

/--  *lineal history.search .ends -/
def b2S (A:Ar) (a c d:Int) (e:List (D×D)) (g b:List D):Option (Bool) := (iter (a6o A a b) 0).bind (Sum.elim (fun _ => some true) (fun _ => some false))

/--  *lineal history.search .next -/
def b5s (A:Ar) (a b c:Int) (d:List (D×D)) (e g:List D) (i:Int):Option (Int×Int×Int) := some (a,b,c)

/--  lineal history.states .does -/
def b2T (A:Ar) (j k:Int) (v:List D) (C a l w E y:Int):Option (Int×Int×Bool) := (( (gt A (cG (lc (cI .i64) (lc (cI .i64) (lc (cL 1) (l1 (cL 1)))))) v a).bind fun (b,c,d,e) => bif (A.zeq a 0) then some (b,c,d,e,j) else bif (A.zeq a 1) then some (b,c,d,e,k) else none:Option (Int×Int×List D×List D×Int))).bind fun (z,B,p,q,i) => (( (gt A (cL 1) p i).bind fun m => (gt A (cI .i64) m l).bind fun g => bif (A.zeq a 0) then some (g,k) else bif (A.zeq a 1) then some (j,g) else none:Option (Int×Int))).bind fun (r,s) => (( bif (A.zeq y 0) then some true else (gt A (cL 1) q i).bind fun n => (gt A (cI .i64) n l).bind fun o => some (A.zeq o w):Option (Bool))).bind fun u => some (r,s,u)

def a5j (A:Ar) (v:Int) (c:List D) (l m n o p q:Int):(Bool×Int)->Option ((Bool×Int)⊕(Bool)):=fun (b,a) => bif (A.zlt a (A.len c)) then (gt A (cG (lc (cI .i64) (lc (cI .i64) (lc (cI .i64) (lc (cI .i64) (lc (cI .i64) (l1 (cI .i64)))))))) c a).bind fun (d,e,g,i,j,k) => (( bif b then (b0f A v a).bind fun r => bif r then some true else (Z75 A d e g i j k l m n o p q).bind fun s => some (!s) else some false:Option (Bool))).bind fun u => some (.inl (u,(A.wrp .i64 (A.zadd a 1)))) else some (.inr b)

def a5k (A:Ar) (e F G:Int) (n d:List D) (self72:Int->Int->Int->(List (D×D))->List D->List D->(Option (Int×List (D×D)))):(Int×List (D×D)×Int)->Option ((Int×List (D×D)×Int)⊕(List (D×D)×Int)):=fun (a,b,c) => bif (A.zlt a (A.len d)) then (( (gt A (cG (lc (cI .i64) (lc (cI .i64) (lc (cI .i64) (lc (cI .i64) (lc (cI .i64) (l1 (cI .i64)))))))) d a).bind fun (g,i,j,k,l,m) => (b0f A e a).bind fun u => (iter (a5j A e d g i j k l m) ((!u),0)).bind (fun v => bif v then (b2T A F G n g i j k l m).bind fun (o,p,q) => (( bif q then (nk (A.zlt a 0)).bind fun _ => ( (self72 (A.bits .or .u8 e (A.shl .u8 1 a)) o p b n d).bind fun (r,s) => some (s,(A.wrp .i64 (A.zadd c r)))).bind (fun (w,y) => some (w,y)) else some (b,c):Option (List (D×D)×Int))).bind fun (z,B) => some (z,B) else some (b,c)):Option (List (D×D)×Int))).bind fun (C,E) => some (.inl ((A.wrp .i64 (A.zadd a 1)),C,E)) else some (.inr (b,c))

/--  *lineal history.search .next$1 -/
def b5t (A:Ar) (self72:Int->Int->Int->(List (D×D))->List D->List D->(Option (Int×List (D×D)))) (c d e:Int) (g:List (D×D)) (i j:List D) (k:Int):Option (List (D×D)×Int) := (iter (a5k A c d e i j self72) (0,g,k)).bind (fun (a,b) => some (a,b))

/--  *lineal history.search .count -/
def b2U (A:Ar) (self72:Int->Int->Int->(List (D×D))->List D->List D->(Option (Int×List (D×D)))) (b c d:Int) (a:List (D×D)) (e g:List D):Option (Int×List (D×D)) := (( (lk A (cI .i64) a (.agg [(.int .u8 b),(.int .i64 c),(.int .i64 d)])).bind fun l=>l.elim ( some (0,false)) fun k => some (k,true):Option (Int×Bool))).bind fun (r,s) => bif s then some (r,a) else (b2S A b c d a e g).bind fun m => (( bif m then some 1 else some 0:Option (Int))).bind fun j => (b5s A b c d a e g j).bind fun (n,o,p) => (b5t A self72 n o p a e g j).bind fun (q,i) => some (i,(A.mput q (.agg [(.int .u8 b),(.int .i64 c),(.int .i64 d)]) (.int .i64 i)))

def b0g (A:Ar):Nat->Int->Int->Int->(List (D×D))->List D->List D->(Option (Int×List (D×D))) | 0=>fun _ _ _ _ _ _=>none | n+1=>fun a b c d e g=>b2U A (b0g A n) a b c d e g

def c2C (A:Ar) (a b c:Int) (d:List (D×D)) (e g:List D):Option (Int×List (D×D)):=b0g A fuel a b c d e g

/-- lineal history.Orders -/
def b9M (A:Ar) (b c:List D):Option (Int×Int) := (Z72 A b c).bind fun a => bif (A.zeq a 0) then (c2B A b c).bind fun (e,g) => (c2C A 0 0 0 [] e g).bind fun (d,i) => some (d,0) else some (0,a)

/-- lineal history.Linear -/
def Z85 (A:Ar) (c d:List D):Option (Bool×Int) := (b9M A c d).bind fun (a,b) => some ((A.zlt 0 a),b)

/-- lineal code.linear -/
def Z38 (A:Ar) (d e:Int) (g i j:List D):Option (Bool) := (Z85 A [(.agg [(.int .i64 d),(.int .i64 e),(.list 1 g),(.list 1 i)])] j).bind fun (a,b) => (( bif (A.zeq b 0) then some a else some false:Option (Bool))).bind fun c => some c

/-- lineal linealref08.within -/
def Z77 (A:Ar) (c a d:Int):Option (Bool) := (( bif (A.zle c a) then some (A.zle a d) else some false:Option (Bool))).bind fun b => some b

/-- lineal linealref08.isRegister -/
def b0Y (A:Ar) (b:Int):Option (Bool) := (Z77 A 0 b 3).bind fun a => some a

/-- lineal linealref08.isCell -/
def b7M (A:Ar) (b:Int):Option (Bool) := (Z77 A 0 b 2).bind fun a => some a

/-- lineal linealref08.isNumber -/
def b9N (A:Ar) (b:Int):Option (Bool) := (Z77 A 0 b 9).bind fun a => some a

/-- lineal linealref08.isLine -/
def Z78 (A:Ar) (a b c d G:Int):Option (Bool) := bif (A.zeq a 1) then (( (b0Y A b).bind fun v => bif v then (b7M A c).bind fun e => bif e then some (A.zeq d 0) else some false else some false:Option (Bool))).bind fun w => some w else bif (A.zeq a 2) then (( (b7M A b).bind fun g => bif g then (b0Y A c).bind fun i => bif i then some (A.zeq d 0) else some false else some false:Option (Bool))).bind fun y => some y else bif (A.zeq a 3) then (( (b7M A b).bind fun j => bif j then (b0Y A c).bind fun k => bif k then (b0Y A d).bind fun l => some l else some false else some false:Option (Bool))).bind fun z => some z else bif (A.zeq a 4) then (( (b0Y A b).bind fun m => bif m then (b9N A c).bind fun n => bif n then some (A.zeq d 0) else some false else some false:Option (Bool))).bind fun B => some B else bif (A.zeq a 5) then (( (b0Y A b).bind fun o => bif o then (b0Y A c).bind fun p => bif p then (b0Y A d).bind fun q => some q else some false else some false:Option (Bool))).bind fun C => some C else bif (A.zeq a 6) then (( (b0Y A b).bind fun r => bif r then (Z77 A 0 c (A.wrp .i64 (A.zsub G 1))).bind fun s => bif s then some (A.zeq d 0) else some false else some false:Option (Bool))).bind fun E => some E else bif (A.zeq a 7) then (( (b0Y A b).bind fun u => bif u then bif (A.zeq c 0) then some (A.zeq d 0) else some false else some false:Option (Bool))).bind fun F => some F else some false

def b2V (A:Ar) (a:List D):Int->Option ((Int)⊕((Unit)⊕(Unit))):=fun b => bif (A.zlt b (A.len a)) then (gt A (cG (lc (cI .i64) (lc (cI .i64) (lc (cI .i64) (l1 (cI .i64)))))) a b).bind fun (c,d,e,g) => (Z78 A c d e g (A.len a)).bind fun i => bif i then some (.inl (A.wrp .i64 (A.zadd b 1))) else some (.inr (.inr ())) else some (.inr (.inl ()))

def b2W (A:Ar) (c:List D):Int->Option ((Int)⊕((Unit)⊕(Unit))):=fun b => bif (A.zlt b (A.len c)) then (gt A (cL 4) c b).bind fun a => (Z77 A 1 (A.len a) 8).bind fun e => bif e then (iter (b2V A a) 0).bind (Sum.elim (fun _ => (gt A (cG (lc (cI .i64) (lc (cI .i64) (lc (cI .i64) (l1 (cI .i64)))))) a (A.wrp .i64 (A.zsub (A.len a) 1))).bind fun (d,g,i,j) => bif (A.zeq d 7) then some (.inl (A.wrp .i64 (A.zadd b 1))) else some (.inr (.inr ()))) (fun _ => some (.inr (.inr ())))) else some (.inr (.inr ())) else some (.inr (.inl ()))

/-- lineal linealref08.Valid -/
def Z30 (A:Ar) (a:List D):Option (Bool) := (Z77 A 1 (A.len a) 4).bind fun b => bif b then (iter (b2W A a) 0).bind (Sum.elim (fun _ => some true) (fun _ => some false)) else some false

def b2X (A:Ar) (e:Int) (b:List D):Int->Option ((Int)⊕((Unit)⊕(Unit))):=fun a => bif (A.zlt a (A.len b)) then (gt A (cI .i64) b a).bind fun c => (( bif (A.zlt c 0) then some true else some (A.zle e c):Option (Bool))).bind fun d => bif d then some (.inr (.inr ())) else some (.inl (A.wrp .i64 (A.zadd a 1))) else some (.inr (.inl ()))

def b2Y (A:Ar) (d:Int) (c:List D) (e:Int):Int->Option ((Int)⊕((Unit)⊕(Unit))):=fun a => bif (A.zlt a (A.len c)) then (gt A (cL 1) c a).bind fun b => bif (A.zeq (A.len b) d) then (iter (b2X A e b) 0).bind (Sum.elim (fun _ => some (.inl (A.wrp .i64 (A.zadd a 1)))) (fun _ => some (.inr (.inr ())))) else some (.inr (.inr ())) else some (.inr (.inl ()))

/-- lineal linealref01.isTable -/
def Z79 (A:Ar) (b c:Int) (e g a:List D) (d:Int):Option (Bool) := bif (A.zeq (A.len a) b) then (iter (b2Y A c a d) 0).bind (Sum.elim (fun _ => some true) (fun _ => some false)) else some false

/-- lineal linealref01.Valid -/
def Z31 (A:Ar) (a b:Int) (c d:List D):Option (Bool) := (( bif (A.zle 1 a) then bif (A.zle a 8) then bif (A.zle 1 b) then bif (A.zle b 4) then (Z79 A a b c d c a).bind fun e => bif e then (Z79 A a b c d d 6).bind fun g => some g else some false else some false else some false else some false else some false:Option (Bool))).bind fun i => some i

def b2Z (A:Ar) (e b:List D):Int->Option ((Int)⊕((Unit)⊕(Unit))):=fun a => bif (A.zlt a (A.len b)) then (gt A (cI .i64) b a).bind fun c => (Z77 A 0 c (A.wrp .i64 (A.zsub (A.len e) 1))).bind fun d => bif d then some (.inl (A.wrp .i64 (A.zadd a 1))) else some (.inr (.inr ())) else some (.inr (.inl ()))

def b3a (A:Ar) (d c:List D):Int->Option ((Int)⊕((Unit)⊕(Unit))):=fun a => bif (A.zlt a (A.len c)) then (gt A (cL 1) c a).bind fun b => bif (A.zlt 3 (A.len b)) then some (.inr (.inr ())) else (iter (b2Z A d b) 0).bind (Sum.elim (fun _ => some (.inl (A.wrp .i64 (A.zadd a 1)))) (fun _ => some (.inr (.inr ())))) else some (.inr (.inl ()))

/-- lineal linealref08.IsUse -/
def Z32 (A:Ar) (c a:List D):Option (Bool) := (Z77 A 1 (A.len a) 2).bind fun b => bif b then (iter (b3a A c a) 0).bind (Sum.elim (fun _ => some true) (fun _ => some false)) else some false

/-- lineal linealref02.within -/
def Z90 (A:Ar) (c a d:Int):Option (Bool) := (( bif (A.zle c a) then some (A.zle a d) else some false:Option (Bool))).bind fun b => some b

def b3b (A:Ar) (b:List D):Int->Option ((Int)⊕((Unit)⊕(Unit))):=fun a => bif (A.zlt a (A.len b)) then (gt A (cG (lc (cI .i64) (lc (cI .i64) (lc (cL 1) (l1 (cL 1)))))) b a).bind fun (c,d,e,g) => (Z31 A c d e g).bind fun i => bif i then some (.inl (A.wrp .i64 (A.zadd a 1))) else some (.inr (.inr ())) else some (.inr (.inl ()))

/-- lineal linealref02.areSpecs -/
def Z48 (A:Ar) (a:List D):Option (Bool) := (iter (b3b A a) 0).bind (Sum.elim (fun _ => (Z90 A 1 (A.len a) 2).bind fun b => some b) (fun _ => some false))

/-- lineal linealref02.before -/
def b7N (A:Ar) (d i j k l a m n o e c g:Int):Option (Bool) := (( bif (A.zeq a 0) then some false else some (A.zlt a c):Option (Bool))).bind fun b => some b

/-- lineal linealref02.meets -/
def b9O (A:Ar) (e j k l d a g m n i b c:Int):Option (Bool) := (( bif (A.zeq d b) then some true else bif (A.zeq d c) then some true else bif (A.zeq a b) then some true else bif (A.zeq a 0) then some false else some (A.zeq a c):Option (Bool))).bind fun q => bif q then some true else (( bif (A.zeq e g) then (b7N A e j k l d a g m n i b c).bind fun o => bif o then some false else (b7N A g m n i b c e j k l d a).bind fun p => some (!p) else some false:Option (Bool))).bind fun r => some r

def b1T (A:Ar) (r:List D) (q b c d e g i:Int):Int->Option ((Int)⊕((Unit)⊕(Unit))):=fun a => bif (A.zlt a q) then (gt A (cG (lc (cI .i64) (lc (cI .i64) (lc (cI .i64) (lc (cI .i64) (lc (cI .i64) (l1 (cI .i64)))))))) r a).bind fun (j,k,l,m,n,o) => (b9O A b c d e g i j k l m n o).bind fun p => bif p then some (.inr (.inr ())) else some (.inl (A.wrp .i64 (A.zadd a 1))) else some (.inr (.inl ()))

def b3c (A:Ar) (e:List D):Int->Option ((Int)⊕((Unit)⊕(Unit))):=fun a => bif (A.zlt a (A.len e)) then (gt A (cG (lc (cI .i64) (lc (cI .i64) (lc (cI .i64) (lc (cI .i64) (lc (cI .i64) (l1 (cI .i64)))))))) e a).bind fun (g,i,j,b,c,d) => (( (Z90 A 0 g 3).bind fun k => bif k then (Z90 A 0 i 1).bind fun l => bif l then (Z90 A 0 j 3).bind fun m => bif m then (Z90 A 0 b 9).bind fun n => bif n then (Z90 A 1 c 100).bind fun o => some (!o) else some true else some true else some true else some true:Option (Bool))).bind fun q => bif q then some (.inr (.inr ())) else (( bif (A.zeq d 0) then bif (A.zeq b 0) then some false else some true else (Z90 A (A.wrp .i64 (A.zadd c 1)) d 100).bind fun p => some (!p):Option (Bool))).bind fun r => bif r then some (.inr (.inr ())) else (iter (b1T A e a g i j b c d) 0).bind (Sum.elim (fun _ => some (.inl (A.wrp .i64 (A.zadd a 1)))) (fun _ => some (.inr (.inr ())))) else some (.inr (.inl ()))

/-- lineal linealref02.Valid -/
def Z91 (A:Ar) (a:List D):Option (Bool) := bif (A.zlt 8 (A.len a)) then some false else (iter (b3c A a) 0).bind (Sum.elim (fun _ => some true) (fun _ => some false))

def b3d (A:Ar) (c d:List D):Int->Option ((Int)⊕((Unit)⊕(Unit))):=fun a => bif (A.zlt a (A.len d)) then (( (gt A (cG (lc (cI .i64) (lc (cI .i64) (lc (cI .i64) (lc (cI .i64) (lc (cI .i64) (l1 (cI .i64)))))))) d a).bind fun (j,b,e,k,l,m) => bif (A.zle (A.len c) b) then some true else (gt A (cG (lc (cI .i64) (lc (cI .i64) (lc (cL 1) (l1 (cL 1)))))) c b).bind fun (n,g,o,p) => some (A.zle g e):Option (Bool))).bind fun i => bif i then some (.inr (.inr ())) else some (.inl (A.wrp .i64 (A.zadd a 1))) else some (.inr (.inl ()))

/-- lineal linealref02.isFor -/
def Z49 (A:Ar) (a b:List D):Option (Bool) := (( (Z48 A a).bind fun c => bif c then (Z91 A b).bind fun d => some (!d) else some true:Option (Bool))).bind fun e => bif e then some false else (iter (b3d A a b) 0).bind (Sum.elim (fun _ => some true) (fun _ => some false))

/-- lineal linealref02.asked -/
def Z92 (A:Ar) (a d:List D):Option (Int) := (Z48 A a).bind fun b => bif b then (Z49 A a d).bind fun c => bif c then some 0 else some 20 else some 10

def a6p (A:Ar) (e g:List D):(Int×List D)->Option ((Int×List D)⊕((List D)⊕(List D))):=fun (d,a) => bif (A.zlt d (A.len g)) then (( (gt A (cI .i64) g d).bind fun b => (Z90 A 0 b (A.wrp .i64 (A.zsub (A.len e) 1))).bind fun j => bif j then (ck (A.zle 0 b)).bind fun _ => (ck (A.zlt b (A.len e))).bind fun _ => (gc A cB a (A.nat (A.zadd 0 b))).bind fun i => some i else some true:Option (Bool))).bind fun k => bif k then some (.inr (.inr a)) else (gt A (cI .i64) g d).bind fun c => (ck (A.zle 0 c)).bind fun _ => (ck (A.zlt c (A.len e))).bind fun _ => (A.lget a (A.nat (A.zadd 0 c))).bind fun l => some (.inl ((A.wrp .i64 (A.zadd d 1)),(A.lset a (A.nat (A.zadd 0 c)) (.bool true)))) else some (.inr (.inl a))

def a6q (A:Ar) (b g:List D):Int->Option ((Int)⊕((Unit)⊕(Unit))):=fun a => bif (A.zlt a (A.len b)) then (( (gt A (cG (lc (cI .i64) (lc (cI .i64) (lc (cI .i64) (lc (cI .i64) (lc (cI .i64) (l1 (cI .i64)))))))) b a).bind fun (i,j,k,l,m,d) => bif (A.zeq d 0) then some false else (ck (A.zle 0 a)).bind fun _ => (ck (A.zlt a (A.len b))).bind fun _ => (gc A cB g (A.nat (A.zadd 0 a))).bind fun c => some (!c):Option (Bool))).bind fun e => bif e then some (.inr (.inr ())) else some (.inl (A.wrp .i64 (A.zadd a 1))) else some (.inr (.inl ()))

/-- lineal linealref02.isList -/
def b1U (A:Ar) (a b:List D):Option (Bool) := bif (A.zlt (A.len a) (A.len b)) then some false else (ck (A.zeq (A.len a) (A.len a))).bind fun _ => (ck (A.zle 0 (A.len a))).bind fun _ => (ck (A.fits (A.len a))).bind fun _ => (iter (a6p A a b) (0,(A.rep (A.len a) (.bool false)))).bind (Sum.elim (fun c => (iter (a6q A a c) 0).bind (Sum.elim (fun _ => some true) (fun _ => some false))) (fun d => some false))

def a6r (A:Ar) (b:List D) (d:Int):Int->Option ((Int)⊕((Unit)⊕(Unit))):=fun a => bif (A.zlt a (A.len b)) then (gt A (cI .i64) b a).bind fun c => bif (A.zeq c d) then some (.inr (.inr ())) else some (.inl (A.wrp .i64 (A.zadd a 1))) else some (.inr (.inl ()))

/-- lineal linealref02.has -/
def b0h (A:Ar) (a:List D) (b:Int):Option (Bool) := (iter (a6r A a b) 0).bind (Sum.elim (fun _ => some false) (fun _ => some true))

def a5l (A:Ar) (c v g:List D):(Int×List D)->Option ((Int×List D)⊕((List D)⊕(List D))):=fun (d,b) => bif (A.zlt d (A.len g)) then (gt A (cI .i64) g d).bind fun n => (gt A (cG (lc (cI .i64) (lc (cI .i64) (lc (cI .i64) (lc (cI .i64) (lc (cI .i64) (l1 (cI .i64)))))))) v n).bind fun (w,a,e,o,y,p) => (gt A (cG (lc (cI .i64) (lc (cI .i64) (lc (cL 1) (l1 (cL 1)))))) c a).bind fun (z,B,q,r) => (( bif (A.zeq p 0) then some false else (ck (A.zle 0 a)).bind fun _ => (ck (A.zlt a (A.len c))).bind fun _ => (gc A (cI .i64) b (A.nat (A.zadd 0 a))).bind fun s => (gt A (cL 1) r s).bind fun i => (gt A (cI .i64) i e).bind fun j => some (!(A.zeq j o)):Option (Bool))).bind fun u => bif u then some (.inr (.inr b)) else (ck (A.zle 0 a)).bind fun _ => (ck (A.zlt a (A.len c))).bind fun _ => (gc A (cI .i64) b (A.nat (A.zadd 0 a))).bind fun k => (gt A (cL 1) q k).bind fun l => (gt A (cI .i64) l e).bind fun m => (ck (A.zle 0 a)).bind fun _ => (ck (A.zlt a (A.len c))).bind fun _ => (A.lget b (A.nat (A.zadd 0 a))).bind fun C => some (.inl ((A.wrp .i64 (A.zadd d 1)),(A.lset b (A.nat (A.zadd 0 a)) (.int .i64 m)))) else some (.inr (.inl b))

/-- lineal linealref02.allows -/
def b0i (A:Ar) (a b c:List D):Option (Bool) := (ck (A.zeq (A.len a) (A.len a))).bind fun _ => (ck (A.zle 0 (A.len a))).bind fun _ => (ck (A.fits (A.len a))).bind fun _ => (iter (a5l A a b c) (0,(A.rep (A.len a) (.int .i64 0)))).bind (Sum.elim (fun d => some true) (fun e => some false))

def b3e (A:Ar) (c d:List D) (b:Int):Int->Option ((Int)⊕((Unit)⊕(Unit))):=fun a => bif (A.zlt a b) then (( (gt A (cI .i64) d b).bind fun e => (gt A (cG (lc (cI .i64) (lc (cI .i64) (lc (cI .i64) (lc (cI .i64) (lc (cI .i64) (l1 (cI .i64)))))))) c e).bind fun (g,n,o,p,i,q) => (gt A (cI .i64) d a).bind fun j => (gt A (cG (lc (cI .i64) (lc (cI .i64) (lc (cI .i64) (lc (cI .i64) (lc (cI .i64) (l1 (cI .i64)))))))) c j).bind fun (k,r,s,u,l,v) => bif (A.zeq g k) then some (A.zlt i l) else some false:Option (Bool))).bind fun m => bif m then some (.inr (.inr ())) else some (.inl (A.wrp .i64 (A.zadd a 1))) else some (.inr (.inl ()))

def b3f (A:Ar) (c b:List D):Int->Option ((Int)⊕((Unit)⊕(Unit))):=fun a => bif (A.zlt a (A.len b)) then (iter (b3e A c b a) 0).bind (Sum.elim (fun _ => some (.inl (A.wrp .i64 (A.zadd a 1)))) (fun _ => some (.inr (.inr ())))) else some (.inr (.inl ()))

/-- lineal linealref02.keepsThreads -/
def b1V (A:Ar) (a b:List D):Option (Bool) := (iter (b3f A a b) 0).bind (Sum.elim (fun _ => some true) (fun _ => some false))

def a6s (A:Ar) (c d:List D) (b:Int):Int->Option ((Int)⊕((Unit)⊕(Unit))):=fun a => bif (A.zlt a b) then (gt A (cI .i64) d b).bind fun e => (gt A (cG (lc (cI .i64) (lc (cI .i64) (lc (cI .i64) (lc (cI .i64) (lc (cI .i64) (l1 (cI .i64)))))))) c e).bind fun (g,i,j,k,l,m) => (gt A (cI .i64) d a).bind fun n => (gt A (cG (lc (cI .i64) (lc (cI .i64) (lc (cI .i64) (lc (cI .i64) (lc (cI .i64) (l1 (cI .i64)))))))) c n).bind fun (o,p,q,r,s,u) => (b7N A g i j k l m o p q r s u).bind fun v => bif v then some (.inr (.inr ())) else some (.inl (A.wrp .i64 (A.zadd a 1))) else some (.inr (.inl ()))

def a6t (A:Ar) (c b:List D):Int->Option ((Int)⊕((Unit)⊕(Unit))):=fun a => bif (A.zlt a (A.len b)) then (iter (a6s A c b a) 0).bind (Sum.elim (fun _ => some (.inl (A.wrp .i64 (A.zadd a 1)))) (fun _ => some (.inr (.inr ())))) else some (.inr (.inl ()))

/-- lineal linealref02.keepsTime -/
def a8Y (A:Ar) (a b:List D):Option (Bool) := (iter (a6t A a b) 0).bind (Sum.elim (fun _ => some true) (fun _ => some false))

def b1W (A:Ar) (l m a:List D) (self113:List D->Bool->List D->List D->Bool->Int->List D->(Option (Bool×Int×List D))):(Bool×Int×Bool×Int×List D)->Option ((Bool×Int×Bool×Int×List D)⊕(Bool×Int×List D)):=fun (i,c,d,e,g) => (( bif (A.zlt c (A.len a)) then bif i then some (true,(!(A.zlt 0 e))) else some (false,true) else some (i,false):Option (Bool×Bool))).bind fun (j,y) => bif y then (ap A [] l).bind fun n => (ap A n [(.int .i64 c)]).bind fun b => (( (b0h A l c).bind fun o => bif o then some (false,d) else (b0i A m a b).bind fun p => bif p then bif d then (b1V A a b).bind fun q => bif q then some (true,true) else some (false,true) else (a8Y A a b).bind fun r => some (r,false) else some (false,d):Option (Bool×Bool))).bind fun (z,k) => (( bif z then (self113 b j m a k e g).bind fun (s,u,v) => some (s,u,v) else some (k,e,g):Option (Bool×Int×List D))).bind fun (B,C,w) => some (.inl (j,(A.wrp .i64 (A.zadd c 1)),B,C,w)) else some (.inr (d,e,g))

/--  *lineal linealref02.search .from -/
def b9P (A:Ar) (self113:List D->Bool->List D->List D->Bool->Int->List D->(Option (Bool×Int×List D))) (a:List D) (o:Bool) (p c:List D) (q:Bool) (b:Int) (d:List D):Option (Bool×Int×List D) := (b1U A c a).bind fun g => (( bif g then (( bif (A.zeq b 0) then (ap A [] a).bind fun e => some e else some d:Option (List D))).bind fun l => some ((A.wrp .i64 (A.zadd b 1)),l) else some (b,d):Option (Int×List D))).bind fun (m,n) => (iter (b1W A a p c self113) (o,0,q,m,n)).bind (fun (i,j,k) => some (i,j,k))

def b5i (A:Ar):Nat->List D->Bool->List D->List D->Bool->Int->List D->(Option (Bool×Int×List D)) | 0=>fun _ _ _ _ _ _ _=>none | n+1=>fun a b c d e g i=>b9P A (b5i A n) a b c d e g i

def Z93 (A:Ar) (a:List D) (b:Bool) (c d:List D) (e:Bool) (g:Int) (i:List D):Option (Bool×Int×List D):=b5i A fuel a b c d e g i

/-- lineal linealref02.Order -/
def Z50 (A:Ar) (b c:List D):Option (List D×Int) := (Z92 A b c).bind fun a => bif (A.zeq a 0) then (Z93 A [] true b c false 0 []).bind fun (g,d,e) => bif (A.zeq d 0) then some ([],5) else some (e,0) else some ([],a)

/-- lineal linealref02.Linear -/
def Z14 (A:Ar) (b c:List D):Option (Bool×Int) := (Z50 A b c).bind fun (d,a) => bif (A.zeq a 5) then some (false,0) else some ((A.zeq a 0),a)

def b3g (A:Ar) (b c:List D):Int->Option ((Int)⊕((Unit)⊕(Unit))):=fun a => bif (A.zlt a (A.len c)) then (gt A (cI .i64) c a).bind fun d => (( bif (A.zle (A.len b) a) then some true else (gt A (cL 4) b a).bind fun e => (Z82 A 0 d (A.wrp .i64 (A.zsub (A.len e) 1))).bind fun g => some (!g):Option (Bool))).bind fun i => bif i then some (.inr (.inr ())) else some (.inl (A.wrp .i64 (A.zadd a 1))) else some (.inr (.inl ()))

/-- lineal code.isMarks -/
def Z53 (A:Ar) (a b:List D):Option (Bool) := (iter (b3g A a b) 0).bind (Sum.elim (fun _ => some (A.zeq (A.len b) (A.len a))) (fun _ => some false))

/--  *lineal code.run .has -/
def c3a (A:Ar) (k b:List D) (j z B C E F G i l m n o p q r s u v:Int) (w y:List D) (a:Int):Option (Bool) := (( (Z82 A 0 a (A.wrp .i64 (A.zsub (A.len b) 1))).bind fun e => bif e then bif (A.zeq a 0) then (gt A (cL 1) b a).bind fun c => some (A.zlt j (A.len c)) else bif (A.zeq a 1) then (gt A (cL 1) b a).bind fun d => some (A.zlt i (A.len d)) else none else some false:Option (Bool))).bind fun g => some g

def b5u (A:Ar) (i c:List D) (y z B C E F G j k l m n o p q r s u:Int) (v w:List D):(List D×Int)->Option ((List D×Int)⊕(List D)):=fun (b,a) => bif (A.zlt a (A.len c)) then (c3a A i c y z B C E F G j k l m n o p q r s u v w a).bind fun e => (( bif e then (ap A b [(.int .i64 a)]).bind fun d => some d else some b:Option (List D))).bind fun g => some (.inl (g,(A.wrp .i64 (A.zadd a 1)))) else some (.inr b)

/--  *lineal code.run .left -/
def Z55 (A:Ar) (b o:List D) (s u v w y z B c d e g i j k l m n p:Int) (q r:List D):Option (List D) := (iter (b5u A b o s u v w y z B c d e g i j k l m n p q r) ([],0)).bind (fun a => some a)

def a8Z (A:Ar) (b:List D) (d:Int):Int->Option ((Int)⊕((Unit)⊕(Int))):=fun a => bif (A.zlt a (A.len b)) then (gt A (cI .i64) b a).bind fun c => bif (A.zeq d c) then some (.inr (.inr a)) else some (.inl (A.wrp .i64 (A.zadd a 1))) else some (.inr (.inl ()))

/-- slices.Index   int int  -/
def c2D (A:Ar) (b:List D) (c:Int):Option (Int) := (iter (a8Z A b c) 0).bind (Sum.elim (fun _ => some (-1)) (fun a => some a))

/-- slices.Contains   int int  -/
def Z95 (A:Ar) (b:List D) (c:Int):Option (Bool) := (c2D A b c).bind fun a => some (A.zle 0 a)

/--  *lineal code.run .order$1 -/
def Z97 (A:Ar) (d e:Int) (w y:List D) (z B C E F g i j k l m n o p q r s u:Int) (v a:List D):Option (Int) := (gt A (cI .i64) a d).bind fun b => (gt A (cI .i64) a e).bind fun c => some (A.wrp .i64 (A.zsub b c))

def Z96 (A:Ar) (c p:Int) (y z:List D) (B C E F G d e g i j k l m n o q r s:Int) (u v w:List D):Option (List D):=srt (cI .i64) (fun a b=>Z97 A a b y z B C E F G d e g i j k l m n o q r s u v) c p w

def c4S (A:Ar) (a n s:List D) (u v w y z B b c d e g i j k l m o p:Int) (q r:List D):Option Unit:=ck (A.zeq (A.len a) 0)

def b3h (A:Ar) (d:List D):(Int×List D)->Option ((Int×List D)⊕(List D)):=fun (a,b) => bif (A.zlt a (A.len d)) then (ap A b [(.int .i64 a)]).bind fun c => some (.inl ((A.wrp .i64 (A.zadd a 1)),c)) else some (.inr b)
end
end Go.Am
