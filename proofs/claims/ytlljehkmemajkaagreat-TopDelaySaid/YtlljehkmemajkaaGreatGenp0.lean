import Derived.Test.YtlljehkmemajkaaGreatAmLaw
import Derived.Test.YtlljehkmemajkaaGreatAmLaw
import Derived.Test.YtlljehkmemajkaaGreatAmLaw
import Derived.Test.YtlljehkmemajkaaGreatAmLaw
set_option maxRecDepth 100000
set_option maxHeartbeats 2000000
set_option linter.unusedVariables false
set_option linter.unusedSimpArgs false
namespace Go.Am
noncomputable section
open Go
def b2o (A:Ar) (b:List D):Int->Option ((Int)⊕((Unit)⊕(Unit))):=fun a => bif (A.zlt a (A.len b)) then (gt A (cL 2) b a).bind fun c => bif (A.zlt 20 (A.len c)) then some (.inr (.inr ())) else some (.inl (A.wrp .i64 (A.zadd a 1))) else some (.inr (.inl ()))

/-- lineal lineallaw09.Long -/
def N21 (A:Ar) (a:List D):Option (Bool) := (iter (b2o A a) 0).bind (Sum.elim (fun _ => some (A.zlt 20 (A.len a))) (fun _ => some true))

def b2p (A:Ar) (b:List D):Int->Option ((Int)⊕((Unit)⊕(Unit))):=fun a => bif (A.zlt a (A.len b)) then (gt A (cG (lc (cI .i64) (l1 cB))) b a).bind fun (c,e) => (( bif (A.zlt c 0) then some true else some (A.zle 3 c):Option (Bool))).bind fun d => bif d then some (.inr (.inr ())) else some (.inl (A.wrp .i64 (A.zadd a 1))) else some (.inr (.inl ()))

def b2q (A:Ar) (c:List D):Int->Option ((Int)⊕((Unit)⊕(Unit))):=fun a => bif (A.zlt a (A.len c)) then (gt A (cL 2) c a).bind fun b => bif (A.zlt 4 (A.len b)) then some (.inr (.inr ())) else (iter (b2p A b) 0).bind (Sum.elim (fun _ => some (.inl (A.wrp .i64 (A.zadd a 1)))) (fun _ => some (.inr (.inr ())))) else some (.inr (.inl ()))

/-- lineal linealref09.Valid -/
def N22 (A:Ar) (a:List D):Option (Bool) := (iter (b2q A a) 0).bind (Sum.elim (fun _ => (( bif (A.zle 1 (A.len a)) then some (A.zle (A.len a) 3) else some false:Option (Bool))).bind fun b => some b) (fun _ => some false))

def b9p (A:Ar) (c:List D):(Int×Int)->Option ((Int×Int)⊕(Int)):=fun (b,a) => bif (A.zlt a (A.len c)) then (gt A (cL 2) c a).bind fun d => some (.inl ((A.wrp .i64 (A.zadd b (A.len d))),(A.wrp .i64 (A.zadd a 1)))) else some (.inr b)

/-- lineal lineallaw09.Few -/
def N5 (A:Ar) (a:List D) (g:Int):Option (Bool) := (( (N21 A a).bind fun b => bif b then some true else (N22 A a).bind fun c => some (!c):Option (Bool))).bind fun e => bif e then some false else (iter (b9p A a) (0,0)).bind (fun d => some (A.zle d g))

def b1k (A:Ar) (b:List D):Int->Option ((Int)⊕((Unit)⊕(Unit))):=fun a => bif (A.zlt a (A.len b)) then (gt A (cI .i64) b a).bind fun c => (( bif (A.zlt c 1) then some true else some (A.zlt 9 c):Option (Bool))).bind fun d => bif d then some (.inr (.inr ())) else some (.inl (A.wrp .i64 (A.zadd a 1))) else some (.inr (.inl ()))

def a9f (A:Ar) (e c:List D):Int->Option ((Int)⊕((Unit)⊕(Unit))):=fun a => bif (A.zlt a (A.len c)) then (gt A (cL 1) c a).bind fun b => (gt A (cL 2) e a).bind fun d => bif (A.zeq (A.len b) (A.zmax (A.wrp .i64 (A.zsub (A.len d) 1)) 0)) then (iter (b1k A b) 0).bind (Sum.elim (fun _ => some (.inl (A.wrp .i64 (A.zadd a 1)))) (fun _ => some (.inr (.inr ())))) else some (.inr (.inr ())) else some (.inr (.inl ()))

/-- lineal linealref09.AreCosts -/
def N11 (A:Ar) (a b:List D):Option (Bool) := bif (A.zeq (A.len b) (A.len a)) then (iter (a9f A a b) 0).bind (Sum.elim (fun _ => some true) (fun _ => some false)) else some false

/-- lineal delay.between -/
def N72 (A:Ar) (c a d:Int):Option (Bool) := (( bif (A.zle c a) then some (A.zle a d) else some false:Option (Bool))).bind fun b => some b

/-- lineal delay.Valid$1$1 -/
def N76 (A:Ar) (b:Int) (c:Bool):Option (Bool) := (N72 A 0 b 2).bind fun a => some (!a)

def a7M (A:Ar) (b:List D):Int->Option ((Int)⊕((Unit)⊕(Int))):=fun a => bif (A.zlt a (A.len b)) then (gt A (cG (lc (cI .i64) (l1 cB))) b a).bind fun (c,d) => (N76 A c d).bind fun e => bif e then some (.inr (.inr a)) else some (.inl (A.wrp .i64 (A.zadd a 1))) else some (.inr (.inl ()))

/-- slices.IndexFunc   lineal api.Access lineal api.Access  -/
def c1Q (A:Ar) (b:List D):Option (Int) := (iter (a7M A b) 0).bind (Sum.elim (fun _ => some (-1)) (fun a => some a))

/-- slices.ContainsFunc   lineal api.Access lineal api.Access  -/
def N75 (A:Ar) (b:List D):Option (Bool) := (c1Q A b).bind fun a => some (A.zle 0 a)

/-- lineal delay.Valid$1 -/
def N74 (A:Ar) (a:List D):Option (Bool) := (( bif (A.zlt 4 (A.len a)) then some true else (N75 A a).bind fun b => some b:Option (Bool))).bind fun c => some c

def a7N (A:Ar) (b:List D):Int->Option ((Int)⊕((Unit)⊕(Int))):=fun a => bif (A.zlt a (A.len b)) then (gt A (cL 2) b a).bind fun c => (N74 A c).bind fun d => bif d then some (.inr (.inr a)) else some (.inl (A.wrp .i64 (A.zadd a 1))) else some (.inr (.inl ()))

/-- slices.IndexFunc     lineal api.Access   lineal api.Access  -/
def c1R (A:Ar) (b:List D):Option (Int) := (iter (a7N A b) 0).bind (Sum.elim (fun _ => some (-1)) (fun a => some a))

/-- slices.ContainsFunc     lineal api.Access   lineal api.Access  -/
def N73 (A:Ar) (b:List D):Option (Bool) := (c1R A b).bind fun a => some (A.zle 0 a)

/-- lineal delay.Valid -/
def N39 (A:Ar) (a:List D):Option (Bool) := (( (N72 A 1 (A.len a) 3).bind fun b => bif b then (N73 A a).bind fun c => some (!c) else some false:Option (Bool))).bind fun d => some d

/--  lineal delay.station .in -/
def N85 (A:Ar) (a b c:Int):Option (Int×Int) := some (a,b)

/--  lineal delay.threads .there -/
def b9q (A:Ar) (a:List D) (b i:Int):Option (Bool) := (( (N72 A 0 b (A.wrp .i64 (A.zsub (A.len a) 1))).bind fun e => bif e then (gt A (cL 2) a b).bind fun c => (N72 A 0 i (A.wrp .i64 (A.zsub (A.len c) 1))).bind fun d => some d else some false:Option (Bool))).bind fun g => some g

/--  lineal delay.station .out -/
def N84 (A:Ar) (a c b:Int):Option (Int×Int) := some (a,b)

/--  lineal delay.threads .at -/
def b6D (A:Ar) (d:List D) (e g:Int):Option (Int×Bool) := (gt A (cL 2) d e).bind fun a => (gt A (cG (lc (cI .i64) (l1 cB))) a g).bind fun (b,c) => some (b,c)

/--  lineal delay.threads .isPair -/
def N91 (A:Ar) (c:List D) (d a b:Int):Option (Bool) := (( bif (A.zlt a b) then (N85 A d a b).bind fun (q,r) => (b9q A c q r).bind fun e => bif e then (N84 A d a b).bind fun (g,i) => (b9q A c g i).bind fun j => bif j then (N85 A d a b).bind fun (k,l) => (b6D A c k l).bind fun (m,u) => (N84 A d a b).bind fun (n,o) => (b6D A c n o).bind fun (p,v) => some (!(A.zeq m p)) else some false else some false else some false:Option (Bool))).bind fun s => some s

def b1l (A:Ar) (l:List D) (d:Int) (e:List D) (c:Int):(List D×Int)->Option ((List D×Int)⊕(List D)):=fun (b,a) => bif (A.zlt a (A.len e)) then (( bif (A.zeq c a) then some true else (N91 A l d c a).bind fun i => some i:Option (Bool))).bind fun j => (( bif j then (ap A b [(.agg [(.int .i64 d),(.int .i64 c),(.int .i64 a)])]).bind fun g => some g else some b:Option (List D))).bind fun k => some (.inl (k,(A.wrp .i64 (A.zadd a 1)))) else some (.inr b)

def b1m (A:Ar) (g:List D) (e:Int) (b:List D):(List D×Int)->Option ((List D×Int)⊕(List D)):=fun (c,a) => bif (A.zlt a (A.len b)) then (iter (b1l A g e b a) (c,a)).bind (fun d => some (.inl (d,(A.wrp .i64 (A.zadd a 1))))) else some (.inr c)

def b1n (A:Ar) (b:List D):(List D×Int)->Option ((List D×Int)⊕(List D)):=fun (c,a) => bif (A.zlt a (A.len b)) then (gt A (cL 2) b a).bind fun d => (iter (b1m A b a d) (c,0)).bind (fun e => some (.inl (e,(A.wrp .i64 (A.zadd a 1))))) else some (.inr c)

/--  lineal delay.threads .stations -/
def N80 (A:Ar) (b:List D):Option (List D) := (iter (b1n A b) ([],0)).bind (fun a => some a)

/--  lineal delay.threads .conflict -/
def b4S (A:Ar) (a:List D) (b k c l:Int):Option (Bool) := (b6D A a b k).bind fun (g,i) => (b6D A a c l).bind fun (d,e) => (( bif (A.zeq b c) then some false else bif (A.zeq g d) then bif i then some true else some e else some false:Option (Bool))).bind fun j => some j

/--  lineal delay.threads .isCircle$1 -/
def b7H (A:Ar) (a c d b e g:Int):Option (Bool) := some (A.zeq a b)

def a7O (A:Ar) (b:List D) (i j k:Int):Int->Option ((Int)⊕((Unit)⊕(Int))):=fun a => bif (A.zlt a (A.len b)) then (gt A (cG (lc (cI .i64) (lc (cI .i64) (l1 (cI .i64))))) b a).bind fun (c,d,e) => (b7H A c d e i j k).bind fun g => bif g then some (.inr (.inr a)) else some (.inl (A.wrp .i64 (A.zadd a 1))) else some (.inr (.inl ()))

/-- slices.IndexFunc   lineal delay.station lineal delay.station  -/
def c1S (A:Ar) (b:List D) (c d e:Int):Option (Int) := (iter (a7O A b c d e) 0).bind (Sum.elim (fun _ => some (-1)) (fun a => some a))

/-- slices.ContainsFunc   lineal delay.station lineal delay.station  -/
def b9r (A:Ar) (b:List D) (c d e:Int):Option (Bool) := (c1S A b c d e).bind fun a => some (A.zle 0 a)

def a5r (A:Ar) (i a:List D):(Bool×Int)->Option ((Bool×Int)⊕((Bool)⊕(Int×Int×Int))):=fun (g,b) => bif (A.zlt b (A.len a)) then (gt A (cG (lc (cI .i64) (lc (cI .i64) (l1 (cI .i64))))) a b).bind fun (c,d,e) => (nk (A.zeq (A.len a) 0)).bind fun _ => (gt A (cG (lc (cI .i64) (lc (cI .i64) (l1 (cI .i64))))) a (A.rem (A.wrp .i64 (A.zadd b 1)) (A.len a))).bind fun (j,k,l) => (( (N84 A c d e).bind fun (n,o) => (N85 A j k l).bind fun (p,q) => (b4S A i n o p q).bind fun r => bif r then (sl A a 0 b).bind fun m => (b9r A m c d e).bind fun s => some s else some true:Option (Bool))).bind fun v => bif v then some (.inr (.inr (c,d,e))) else (( bif g then some true else (N91 A i c d e).bind fun u => some u:Option (Bool))).bind fun w => some (.inl (w,(A.wrp .i64 (A.zadd b 1)))) else some (.inr (.inl g))

/--  lineal delay.threads .isCircle -/
def b6E (A:Ar) (b c:List D):Option (Bool) := (iter (a5r A b c) (false,0)).bind (Sum.elim (fun a => some a) (fun (d,e,g) => some false))

def b1o (A:Ar) (a l d:List D) (self23:List D->Int->List D->List D->(Option (Bool×Int))):(Int×Int)->Option ((Int×Int)⊕((Int)⊕(Int))):=fun (b,c) => bif (A.zlt b (A.len d)) then jn (fun (z:Int) => some (.inl ((A.wrp .i64 (A.zadd b 1)),z))) fun e => (gt A (cG (lc (cI .i64) (lc (cI .i64) (l1 (cI .i64))))) d b).bind fun (g,i,j) => (( bif (A.zlt 0 (A.len a)) then (gt A (cG (lc (cI .i64) (lc (cI .i64) (l1 (cI .i64))))) a (A.wrp .i64 (A.zsub (A.len a) 1))).bind fun (m,n,o) => (N84 A m n o).bind fun (s,u) => (N85 A g i j).bind fun (v,w) => (b4S A l s u v w).bind fun y => some (!y) else some false:Option (Bool))).bind fun B => bif B then e c else (sl A a 0 (A.len a)).bind fun p => (ck (A.zeq (A.len a) (A.len a))).bind fun _ => (ap A p [(.agg [(.int .i64 g),(.int .i64 i),(.int .i64 j)])]).bind fun q => (self23 q c l d).bind fun (r,k) => bif r then e k else some (.inr (.inr k)) else some (.inr (.inl c))

/--  lineal delay.threads .circles$1 -/
def b7I (A:Ar) (self23:List D->Int->List D->List D->(Option (Bool×Int))) (a:List D) (b:Int) (d k:List D):Option (Bool×Int) := (( bif (A.zle 2 (A.len a)) then (b6E A d a).bind fun e => bif e then ( some (A.wrp .i64 (A.zadd b 1))).bind (fun j => some j) else some b else some b:Option (Int))).bind fun c => bif (A.zeq (A.len a) 3) then some (true,c) else (iter (b1o A a d k self23) (0,c)).bind (Sum.elim (fun g => some (true,g)) (fun i => some (false,i)))

def b6F (A:Ar):Nat->List D->Int->List D->List D->(Option (Bool×Int)) | 0=>fun _ _ _ _=>none | n+1=>fun a b c d=>b7I A (b6F A n) a b c d

def N81 (A:Ar) (a:List D) (b:Int) (c d:List D):Option (Bool×Int):=b6F A fuel a b c d

/--  lineal delay.threads .circles -/
def N47 (A:Ar) (a:List D) (d:Int):Option (Int) := (N80 A a).bind fun b => (N81 A [] d a b).bind fun (e,c) => some c

/-- lineal delay.Circles -/
def N23 (A:Ar) (a:List D):Option (Int×Int) := (N39 A a).bind fun b => bif b then (N47 A a 0).bind fun c => some (c,0) else some (0,90)

/-- lineal lineallaw09.Awake -/
def N6 (A:Ar):Option (Bool) := (N23 A [(.list 2 [(.agg [(.int .i64 0),(.bool true)]),(.agg [(.int .i64 1),(.bool false)])]),(.list 2 [(.agg [(.int .i64 1),(.bool true)]),(.agg [(.int .i64 0),(.bool false)])])]).bind fun (a,b) => (( bif (A.zeq b 0) then some (A.zeq a 2) else some false:Option (Bool))).bind fun c => some c

/--  lineal delay.threads .priced$1 -/
def c1T (A:Ar) (b:Int):Option (Bool) := (N72 A 1 b 9).bind fun a => some (!a)

def a7P (A:Ar) (b:List D):Int->Option ((Int)⊕((Unit)⊕(Int))):=fun a => bif (A.zlt a (A.len b)) then (gt A (cI .i64) b a).bind fun c => (c1T A c).bind fun d => bif d then some (.inr (.inr a)) else some (.inl (A.wrp .i64 (A.zadd a 1))) else some (.inr (.inl ()))

/-- slices.IndexFunc   int int  -/
def c1U (A:Ar) (b:List D):Option (Int) := (iter (a7P A b) 0).bind (Sum.elim (fun _ => some (-1)) (fun a => some a))

/-- slices.ContainsFunc   int int  -/
def b9C (A:Ar) (b:List D):Option (Bool) := (c1U A b).bind fun a => some (A.zle 0 a)

def b2r (A:Ar) (c d:List D):Int->Option ((Int)⊕((Unit)⊕(Unit))):=fun a => bif (A.zlt a (A.len d)) then (gt A (cL 1) d a).bind fun b => (( bif (A.zle (A.len c) a) then some true else (gt A (cL 2) c a).bind fun e => bif (A.zeq (A.len b) (A.zmax 0 (A.wrp .i64 (A.zsub (A.len e) 1)))) then (b9C A b).bind fun g => some g else some true:Option (Bool))).bind fun i => bif i then some (.inr (.inr ())) else some (.inl (A.wrp .i64 (A.zadd a 1))) else some (.inr (.inl ()))

/--  lineal delay.threads .priced -/
def N68 (A:Ar) (a b:List D):Option (Bool) := (iter (b2r A a b) 0).bind (Sum.elim (fun _ => some (A.zeq (A.len b) (A.len a))) (fun _ => some false))

/-- lineal delay.asked -/
def N32 (A:Ar) (a d:List D):Option (Int) := (N39 A a).bind fun b => bif b then (N68 A a d).bind fun c => bif c then some 0 else some 2 else some 90

def a2X (A:Ar) (c:List D):(Int×List (D×D))->Option ((Int×List (D×D))⊕(List (D×D))):=fun (a,b) => bif (A.zlt a (A.len c)) then (gt A (cG (lc (cI .i64) (lc (cI .i64) (l1 (cI .i64))))) c a).bind fun (d,e,g) => some (.inl ((A.wrp .i64 (A.zadd a 1)),(A.mput b (.agg [(.int .i64 d),(.int .i64 e),(.int .i64 g)]) (.bool true)))) else some (.inr b)

def a5s (A:Ar) (a l d:List D) (self42:List D->(List (D×D))->List D->List D->(Option (Bool×List (D×D)))):(Int×List (D×D))->Option ((Int×List (D×D))⊕((List (D×D))⊕(List (D×D)))):=fun (b,c) => bif (A.zlt b (A.len d)) then jn (fun (B:List (D×D)) => some (.inl ((A.wrp .i64 (A.zadd b 1)),B))) fun e => (gt A (cG (lc (cI .i64) (lc (cI .i64) (l1 (cI .i64))))) d b).bind fun (g,i,j) => (( bif (A.zlt 0 (A.len a)) then (gt A (cG (lc (cI .i64) (lc (cI .i64) (l1 (cI .i64))))) a (A.wrp .i64 (A.zsub (A.len a) 1))).bind fun (m,n,o) => (N84 A m n o).bind fun (u,v) => (N85 A g i j).bind fun (w,y) => (b4S A l u v w y).bind fun r => some (!r) else some false:Option (Bool))).bind fun z => bif z then e c else (sl A a 0 (A.len a)).bind fun p => (ck (A.zeq (A.len a) (A.len a))).bind fun _ => (ap A p [(.agg [(.int .i64 g),(.int .i64 i),(.int .i64 j)])]).bind fun q => (self42 q c l d).bind fun (s,k) => bif s then e k else some (.inr (.inr k)) else some (.inr (.inl c))

/--  lineal delay.threads .circles$1 -/
def a7Q (A:Ar) (self42:List D->(List (D×D))->List D->List D->(Option (Bool×List (D×D)))) (a:List D) (b:List (D×D)) (d l:List D):Option (Bool×List (D×D)) := (( bif (A.zle 2 (A.len a)) then (b6E A d a).bind fun e => bif e then ( (iter (a2X A a) (0,b)).bind (fun j => some j)).bind (fun k => some k) else some b else some b:Option (List (D×D)))).bind fun c => bif (A.zeq (A.len a) 3) then some (true,c) else (iter (a5s A a d l self42) (0,c)).bind (Sum.elim (fun g => some (true,g)) (fun i => some (false,i)))

def a6n (A:Ar):Nat->List D->(List (D×D))->List D->List D->(Option (Bool×List (D×D))) | 0=>fun _ _ _ _=>none | n+1=>fun a b c d=>a7Q A (a6n A n) a b c d

def c2y (A:Ar) (a:List D) (b:List (D×D)) (c d:List D):Option (Bool×List (D×D)):=a6n A fuel a b c d

/--  lineal delay.threads .circles -/
def b9D (A:Ar) (a:List D) (d:List (D×D)):Option (List (D×D)) := (N80 A a).bind fun b => (c2y A [] d a b).bind fun (e,c) => some c

/--  lineal delay.threads .pairs$1 -/
def b4V (A:Ar) (b c d:Int) (g:List (D×D)) (e:List D):Option (Bool) := (N91 A e b c d).bind fun a => some (!a)

def b6G (A:Ar) (i b:Int) (j:List (D×D)) (k l:List D):Int->Option ((Int)⊕((Unit)⊕(Int))):=fun a => bif (A.zlt a b) then (ck (A.zle 0 a)).bind fun _ => (ck (A.zlt a b)).bind fun _ => (gc A (cG (lc (cI .i64) (lc (cI .i64) (l1 (cI .i64))))) l (A.nat (A.zadd i a))).bind fun (c,d,e) => (b4V A c d e j k).bind fun g => bif g then some (.inr (.inr a)) else some (.inl (A.wrp .i64 (A.zadd a 1))) else some (.inr (.inl ()))

/-- slices.IndexFunc   lineal delay.station lineal delay.station  -/
def c2z (A:Ar) (b c:Int) (d:List (D×D)) (e g:List D):Option (Int) := (iter (b6G A b c d e g) 0).bind (Sum.elim (fun _ => some (-1)) (fun a => some a))

def b6H (A:Ar) (d e:Int) (n:List (D×D)) (o:List D):(Int×Int×List D)->Option ((Int×Int×List D)⊕(Int×List D)):=fun (a,b,c) => bif (A.zlt b e) then (ck (A.zle 0 b)).bind fun _ => (ck (A.zlt b e)).bind fun _ => (gc A (cG (lc (cI .i64) (lc (cI .i64) (l1 (cI .i64))))) c (A.nat (A.zadd d b))).bind fun (g,i,j) => (b4V A g i j n o).bind fun k => (( bif k then some (a,c) else (ck (A.zle 0 a)).bind fun _ => (ck (A.zlt a e)).bind fun _ => (gc A (cG (lc (cI .i64) (lc (cI .i64) (l1 (cI .i64))))) c (A.nat (A.zadd d a))).bind fun (p,q,r) => some ((A.wrp .i64 (A.zadd a 1)),(A.lset c (A.nat (A.zadd d a)) (.agg [(.int .i64 g),(.int .i64 i),(.int .i64 j)]))):Option (Int×List D))).bind fun (l,m) => some (.inl (l,(A.wrp .i64 (A.zadd b 1)),m)) else some (.inr (a,c))

/-- slices.DeleteFunc   lineal delay.station lineal delay.station  -/
def c1V (A:Ar) (c b:Int) (i:List (D×D)) (j e:List D):Option (Int×Int×List D) := (c2z A c b i j e).bind fun d => bif (A.zeq d (-1)) then some (c,b,e) else (iter (b6H A c b i j) (d,(A.wrp .i64 (A.zadd d 1)),e)).bind (fun (a,g) => (ck (A.zle 0 a)).bind fun _ => (ck (A.zle a b)).bind fun _ => (ck (A.zle b b)).bind fun _ => (ck (A.zle (A.zadd (A.zadd c a) (A.zsub b a)) (A.len g))).bind fun _ => (ck (A.zle 0 0)).bind fun _ => (ck (A.zle 0 a)).bind fun _ => (ck (A.zle a b)).bind fun _ => some ((A.zadd c 0),(A.zsub a 0),(A.fill g (A.zadd c a) (A.zsub b a) (.agg [(.int .i64 0),(.int .i64 0),(.int .i64 0)]))))

def b2s (A:Ar) (b:List D) (i:List (D×D)) (j:List D):Int->Option ((Int)⊕((Unit)⊕(Int))):=fun a => bif (A.zlt a (A.len b)) then (gt A (cG (lc (cI .i64) (lc (cI .i64) (l1 (cI .i64))))) b a).bind fun (c,d,e) => (b4V A c d e i j).bind fun g => bif g then some (.inr (.inr a)) else some (.inl (A.wrp .i64 (A.zadd a 1))) else some (.inr (.inl ()))

/-- slices.IndexFunc   lineal delay.station lineal delay.station  -/
def c1W (A:Ar) (b:List D) (c:List (D×D)) (d:List D):Option (Int) := (iter (b2s A b c d) 0).bind (Sum.elim (fun _ => some (-1)) (fun a => some a))

def b6I (A:Ar) (b:List D) (j:List (D×D)) (k:List D) (i:Int):Int->Option ((Int)⊕(Unit)):=fun a => bif (A.zlt a (A.len b)) then (gt A (cG (lc (cI .i64) (lc (cI .i64) (l1 (cI .i64))))) b a).bind fun (c,d,e) => (b4V A c d e j k).bind fun g => bif g then some (.inl (A.wrp .i64 (A.zadd a 1))) else (gt A (cG (lc (cI .i64) (lc (cI .i64) (l1 (cI .i64))))) b i).bind fun (l,m,n) => none else some (.inr ())

/-- slices.DeleteFunc   lineal delay.station lineal delay.station  -/
def c1X (A:Ar) (a:List D) (c:List (D×D)) (d:List D):Option (List D) := (c1W A a c d).bind fun b => bif (A.zeq b (-1)) then some a else (iter (b6I A a c d b) (A.wrp .i64 (A.zadd b 1))).bind (fun _ => (sl A a b (A.len a)).bind fun e => none)

/--  lineal delay.threads .pairs -/
def b4W (A:Ar) (b:List D) (c:List (D×D)):Option ((Int×Int×List D)⊕(List D)) := (N80 A b).bind fun a => bif (A.zlt 0 (A.len a)) then (ck (scalars a)).bind fun _ => (c1V A 0 (A.len a) c b a).bind fun (g,i,d) => some (.inl (g,i,d)) else (c1X A a c b).bind fun e => some (.inr e)

/--  lineal delay.threads .needed$1 -/
def N54 (A:Ar) (d e g:Int) (i:List (D×D)):Option (Bool) := (( (lk A cB i (.agg [(.int .i64 d),(.int .i64 e),(.int .i64 g)])).bind fun b=>b.elim ( some true) fun a => some (!a):Option (Bool))).bind fun c => some c

def b6J (A:Ar) (i b:Int) (j:List (D×D)) (k:List D):Int->Option ((Int)⊕((Unit)⊕(Int))):=fun a => bif (A.zlt a b) then (ck (A.zle 0 a)).bind fun _ => (ck (A.zlt a b)).bind fun _ => (gc A (cG (lc (cI .i64) (lc (cI .i64) (l1 (cI .i64))))) k (A.nat (A.zadd i a))).bind fun (c,d,e) => (N54 A c d e j).bind fun g => bif g then some (.inr (.inr a)) else some (.inl (A.wrp .i64 (A.zadd a 1))) else some (.inr (.inl ()))

/-- slices.IndexFunc   lineal delay.station lineal delay.station  -/
def c2A (A:Ar) (b c:Int) (d:List (D×D)) (e:List D):Option (Int) := (iter (b6J A b c d e) 0).bind (Sum.elim (fun _ => some (-1)) (fun a => some a))

def b6K (A:Ar) (d e:Int) (n:List (D×D)):(Int×Int×List D)->Option ((Int×Int×List D)⊕(Int×List D)):=fun (a,b,c) => bif (A.zlt b e) then (ck (A.zle 0 b)).bind fun _ => (ck (A.zlt b e)).bind fun _ => (gc A (cG (lc (cI .i64) (lc (cI .i64) (l1 (cI .i64))))) c (A.nat (A.zadd d b))).bind fun (g,i,j) => (N54 A g i j n).bind fun k => (( bif k then some (a,c) else (ck (A.zle 0 a)).bind fun _ => (ck (A.zlt a e)).bind fun _ => (gc A (cG (lc (cI .i64) (lc (cI .i64) (l1 (cI .i64))))) c (A.nat (A.zadd d a))).bind fun (o,p,q) => some ((A.wrp .i64 (A.zadd a 1)),(A.lset c (A.nat (A.zadd d a)) (.agg [(.int .i64 g),(.int .i64 i),(.int .i64 j)]))):Option (Int×List D))).bind fun (l,m) => some (.inl (l,(A.wrp .i64 (A.zadd b 1)),m)) else some (.inr (a,c))

/-- slices.DeleteFunc   lineal delay.station lineal delay.station  -/
def c1Y (A:Ar) (c b:Int) (i:List (D×D)) (e:List D):Option (Int×Int×List D) := (c2A A c b i e).bind fun d => bif (A.zeq d (-1)) then some (c,b,e) else (iter (b6K A c b i) (d,(A.wrp .i64 (A.zadd d 1)),e)).bind (fun (a,g) => (ck (A.zle 0 a)).bind fun _ => (ck (A.zle a b)).bind fun _ => (ck (A.zle b b)).bind fun _ => (ck (A.zle (A.zadd (A.zadd c a) (A.zsub b a)) (A.len g))).bind fun _ => (ck (A.zle 0 0)).bind fun _ => (ck (A.zle 0 a)).bind fun _ => (ck (A.zle a b)).bind fun _ => some ((A.zadd c 0),(A.zsub a 0),(A.fill g (A.zadd c a) (A.zsub b a) (.agg [(.int .i64 0),(.int .i64 0),(.int .i64 0)]))))

def b2t (A:Ar) (b:List D) (i:List (D×D)):Int->Option ((Int)⊕((Unit)⊕(Int))):=fun a => bif (A.zlt a (A.len b)) then (gt A (cG (lc (cI .i64) (lc (cI .i64) (l1 (cI .i64))))) b a).bind fun (c,d,e) => (N54 A c d e i).bind fun g => bif g then some (.inr (.inr a)) else some (.inl (A.wrp .i64 (A.zadd a 1))) else some (.inr (.inl ()))

/-- slices.IndexFunc   lineal delay.station lineal delay.station  -/
def c1Z (A:Ar) (b:List D) (c:List (D×D)):Option (Int) := (iter (b2t A b c) 0).bind (Sum.elim (fun _ => some (-1)) (fun a => some a))

def b6L (A:Ar) (b:List D) (j:List (D×D)) (i:Int):Int->Option ((Int)⊕(Unit)):=fun a => bif (A.zlt a (A.len b)) then (gt A (cG (lc (cI .i64) (lc (cI .i64) (l1 (cI .i64))))) b a).bind fun (c,d,e) => (N54 A c d e j).bind fun g => bif g then some (.inl (A.wrp .i64 (A.zadd a 1))) else (gt A (cG (lc (cI .i64) (lc (cI .i64) (l1 (cI .i64))))) b i).bind fun (k,l,m) => none else some (.inr ())

/-- slices.DeleteFunc   lineal delay.station lineal delay.station  -/
def c2a (A:Ar) (a:List D) (c:List (D×D)):Option (List D) := (c1Z A a c).bind fun b => bif (A.zeq b (-1)) then some a else (iter (b6L A a c b) (A.wrp .i64 (A.zadd b 1))).bind (fun _ => (sl A a b (A.len a)).bind fun d => none)

/--  lineal delay.threads .needed -/
def N26 (A:Ar) (b:List D):Option (List D) := (b9D A b []).bind fun a => (b4W A b a).bind (Sum.elim (fun (j,k,l) => (c1Y A j k a l).bind fun (m,d,e) => (fz A e m d).bind fun c => some c) (fun g => (c2a A g a).bind fun i => some i))

def a7R (A:Ar) (e:Int) (c:List D):(List D×Int)->Option ((List D×Int)⊕(List D)):=fun (b,a) => bif (A.zlt a (A.zmax 0 (A.wrp .i64 (A.zsub (A.len c) 1)))) then (ap A b [(.agg [(.int .i64 e),(.int .i64 a)])]).bind fun d => some (.inl (d,(A.wrp .i64 (A.zadd a 1)))) else some (.inr b)

def a7S (A:Ar) (c:List D):(List D×Int)->Option ((List D×Int)⊕(List D)):=fun (b,a) => bif (A.zlt a (A.len c)) then (gt A (cL 2) c a).bind fun d => (iter (a7R A a d) (b,0)).bind (fun e => some (.inl (e,(A.wrp .i64 (A.zadd a 1))))) else some (.inr b)

/--  lineal delay.threads .all -/
def N35 (A:Ar) (b:List D):Option (List D) := (iter (a7S A b) ([],0)).bind (fun a => some a)

/--  lineal delay.fence .holds -/
def N89 (A:Ar) (c a d e g:Int):Option (Bool) := (( bif (A.zeq c d) then bif (A.zle e a) then some (A.zlt a g) else some false else some false:Option (Bool))).bind fun b => some b

/-- lineal delay.held$1 -/
def N88 (A:Ar) (b c d e g:Int):Option (Bool) := (N89 A b c d e g).bind fun a => some a

def a7T (A:Ar) (b:List D) (g i j:Int):Int->Option ((Int)⊕((Unit)⊕(Int))):=fun a => bif (A.zlt a (A.len b)) then (gt A (cG (lc (cI .i64) (l1 (cI .i64)))) b a).bind fun (c,d) => (N88 A c d g i j).bind fun e => bif e then some (.inr (.inr a)) else some (.inl (A.wrp .i64 (A.zadd a 1))) else some (.inr (.inl ()))

/-- slices.IndexFunc   lineal delay.fence lineal delay.fence  -/
def c2b (A:Ar) (b:List D) (c d e:Int):Option (Int) := (iter (a7T A b c d e) 0).bind (Sum.elim (fun _ => some (-1)) (fun a => some a))

/-- slices.ContainsFunc   lineal delay.fence lineal delay.fence  -/
def N87 (A:Ar) (b:List D) (c d e:Int):Option (Bool) := (c2b A b c d e).bind fun a => some (A.zle 0 a)

/-- lineal delay.held -/
def N51 (A:Ar) (b:List D) (c d e:Int):Option (Bool) := (N87 A b c d e).bind fun a => some a

/-- lineal delay.enough$1 -/
def N50 (A:Ar) (b c d:Int) (e:List D):Option (Bool) := (N51 A e b c d).bind fun a => some (!a)

def a7U (A:Ar) (b i:List D):Int->Option ((Int)⊕((Unit)⊕(Int))):=fun a => bif (A.zlt a (A.len b)) then (gt A (cG (lc (cI .i64) (lc (cI .i64) (l1 (cI .i64))))) b a).bind fun (c,d,e) => (N50 A c d e i).bind fun g => bif g then some (.inr (.inr a)) else some (.inl (A.wrp .i64 (A.zadd a 1))) else some (.inr (.inl ()))

/-- slices.IndexFunc   lineal delay.station lineal delay.station  -/
def c2c (A:Ar) (b c:List D):Option (Int) := (iter (a7U A b c) 0).bind (Sum.elim (fun _ => some (-1)) (fun a => some a))

/-- slices.ContainsFunc   lineal delay.station lineal delay.station  -/
def c2d (A:Ar) (b c:List D):Option (Bool) := (c2c A b c).bind fun a => some (A.zle 0 a)

/-- lineal delay.enough -/
def N25 (A:Ar) (b c:List D):Option (Bool) := (c2d A c b).bind fun a => some (!a)

def b1p (A:Ar) (j c:List D):(Int×Int)->Option ((Int×Int)⊕(Int)):=fun (b,a) => bif (A.zlt a (A.len c)) then (gt A (cG (lc (cI .i64) (l1 (cI .i64)))) c a).bind fun (d,e) => (gt A (cL 1) j d).bind fun g => (gt A (cI .i64) g e).bind fun i => some (.inl ((A.wrp .i64 (A.zadd b i)),(A.wrp .i64 (A.zadd a 1)))) else some (.inr b)

/-- lineal delay.cost -/
def N34 (A:Ar) (b c:List D):Option (Int) := (iter (b1p A b c) (0,0)).bind (fun a => some a)

/-- cmp.isNaN int  -/
def N71 (A:Ar) (a:Int):Option (Bool) := some (!(A.zeq a a))

/-- cmp.Compare int  -/
def N38 (A:Ar) (a b:Int):Option (Int) := (N71 A a).bind fun d => (N71 A b).bind fun c => bif d then bif c then some 0 else some (-1) else bif c then some 1 else bif (A.zlt a b) then some (-1) else bif (A.zlt b a) then some 1 else some 0

def b0e (A:Ar) (c:List D):Int->Option ((Int)⊕((Unit)⊕(Int))):=fun a => bif (A.zlt a (A.len c)) then (gt A (cI .i64) c a).bind fun b => bif (A.zeq b 0) then some (.inl (A.wrp .i64 (A.zadd a 1))) else some (.inr (.inr b)) else some (.inr (.inl ()))

/-- cmp.Or int  -/
def b7J (A:Ar) (b:List D):Option (Int) := (iter (b0e A b) 0).bind (Sum.elim (fun _ => some 0) (fun a => some a))

/-- lineal delay.compare$1 -/
def b9E (A:Ar) (d e g i:Int):Option (Int) := (N38 A d g).bind fun b => (N38 A e i).bind fun c => (b7J A [(.int .i64 b),(.int .i64 c)]).bind fun a => some a

def a4P (A:Ar) (c d:List D):Int->Option ((Int)⊕((Unit)⊕(Int))):=fun a => bif (A.zlt a (A.len c)) then (gt A (cG (lc (cI .i64) (l1 (cI .i64)))) c a).bind fun (e,g) => bif (A.zle (A.len d) a) then some (.inr (.inr 1)) else (gt A (cG (lc (cI .i64) (l1 (cI .i64)))) d a).bind fun (i,j) => (b9E A e g i j).bind fun b => bif (A.zeq b 0) then some (.inl (A.wrp .i64 (A.zadd a 1))) else some (.inr (.inr b)) else some (.inr (.inl ()))

/-- slices.CompareFunc   lineal delay.fence   lineal delay.fence lineal delay.fence lineal delay.fence  -/
def c2e (A:Ar) (a b:List D):Option (Int) := (iter (a4P A a b) 0).bind (Sum.elim (fun _ => bif (A.zlt (A.len a) (A.len b)) then some (-1) else some 0) (fun c => some c))

/-- lineal delay.compare -/
def N69 (A:Ar) (b c:List D):Option (Int) := (c2e A b c).bind fun a => some a

def b1q (A:Ar) (c:List D) (i:Int):(List D×Int)->Option ((List D×Int)⊕(List D)):=fun (b,a) => bif (A.zlt a (A.len c)) then (gt A (cG (lc (cI .i64) (l1 (cI .i64)))) c a).bind fun (d,e) => (nk (A.zlt a 0)).bind fun _ => (( bif (A.zeq (A.bits .and .i64 (A.shr .i64 i a) 1) 1) then (ap A b [(.agg [(.int .i64 d),(.int .i64 e)])]).bind fun g => some g else some b:Option (List D))).bind fun j => some (.inl (j,(A.wrp .i64 (A.zadd a 1)))) else some (.inr b)

def a9g (A:Ar) (u v g:List D):(List D×Int×Bool×Int)->Option ((List D×Int×Bool×Int)⊕(List D)):=fun (a,b,i,e) => bif (A.zlt e (A.shl .i64 1 (A.len g))) then (( (iter (b1q A g e) ([],0)).bind (fun c => (N25 A c v).bind fun k => bif k then (N34 A u c).bind fun d => (( bif i then bif (A.zlt d b) then some (true,true) else bif (A.zeq d b) then (N69 A c a).bind fun j => some (true,(A.zlt j 0)) else some (true,false) else some (false,true):Option (Bool×Bool))).bind fun (l,m) => (( bif m then some (c,d,true) else some (a,b,l):Option (List D×Int×Bool))).bind fun (n,o,p) => some (n,o,p) else some (a,b,i)):Option (List D×Int×Bool))).bind fun (q,r,s) => some (.inl (q,r,s,(A.wrp .i64 (A.zadd e 1)))) else some (.inr a)

/--  lineal delay.threads .cheapest -/
def N33 (A:Ar) (c d e:List D):Option (List D) := (N35 A c).bind fun a => (nk (A.zlt (A.len a) 0)).bind fun _ => (iter (a9g A d e a) ([],0,false,0)).bind (fun b => some b)

def b1r (A:Ar) (b:List D):(List D×Int)->Option ((List D×Int)⊕(List D)):=fun (c,a) => bif (A.zlt a (A.len b)) then (gt A (cG (lc (cI .i64) (l1 (cI .i64)))) b a).bind fun (d,e) => (ap A c [(.agg [(.int .i64 d),(.int .i64 e)])]).bind fun g => some (.inl (g,(A.wrp .i64 (A.zadd a 1)))) else some (.inr c)

/-- lineal delay.Cheapest -/
def N12 (A:Ar) (a c:List D):Option (List D×Int) := (N32 A a c).bind fun b => bif (A.zeq b 0) then (N26 A a).bind fun d => (N33 A a c d).bind fun e => (iter (b1r A e) ([],0)).bind (fun g => some (g,0)) else some ([],b)

/-- lineal delay.Least -/
def N13 (A:Ar) (a b:List D):Option (Int×Int) := (N32 A a b).bind fun c => bif (A.zeq c 0) then (N26 A a).bind fun e => (N33 A a b e).bind fun g => (N34 A b g).bind fun d => some (d,0) else some (0,c)

/-- lineal delay.Prices$1 -/
def N37 (A:Ar) (e g:Int) (a:List D):Option (Int) := (gt A (cG (lc (cI .i64) (lc (cI .i64) (l1 (cI .i64))))) a e).bind fun (k,l,c) => (gt A (cG (lc (cI .i64) (lc (cI .i64) (l1 (cI .i64))))) a g).bind fun (i,j,b) => (N38 A c b).bind fun d => some d

def a5t (A:Ar) (k:Int) (l:List D):(Int×List D)->Option ((Int×List D)⊕(List D)):=fun (a,b) => (( bif (A.zlt k a) then (ck (A.zle 0 a)).bind fun _ => (ck (A.zlt a (A.len b))).bind fun _ => (gc A (cI .i64) b (A.nat a)).bind fun d => (ck (A.zle 0 (A.wrp .i64 (A.zsub a 1)))).bind fun _ => (ck (A.zlt (A.wrp .i64 (A.zsub a 1)) (A.len b))).bind fun _ => (gc A (cI .i64) b (A.nat (A.wrp .i64 (A.zsub a 1)))).bind fun e => (N37 A d e l).bind fun i => some (A.zlt i 0) else some false:Option (Bool))).bind fun j => bif j then (ck (A.zle 0 (A.wrp .i64 (A.zsub a 1)))).bind fun _ => (ck (A.zlt (A.wrp .i64 (A.zsub a 1)) (A.len b))).bind fun _ => (gc A (cI .i64) b (A.nat (A.wrp .i64 (A.zsub a 1)))).bind fun c => (ck (A.zle 0 a)).bind fun _ => (ck (A.zlt a (A.len b))).bind fun _ => (gc A (cI .i64) b (A.nat a)).bind fun g => (ck (A.zle 0 a)).bind fun _ => (ck (A.zlt a (A.len b))).bind fun _ => (ck (A.zle 0 (A.wrp .i64 (A.zsub a 1)))).bind fun _ => (ck (A.zlt (A.wrp .i64 (A.zsub a 1)) (A.len (A.lset b (A.nat a) (.int .i64 c))))).bind fun _ => (gc A (cI .i64) (A.lset b (A.nat a) (.int .i64 c)) (A.nat (A.wrp .i64 (A.zsub a 1)))).bind fun m => some (.inl ((A.wrp .i64 (A.zsub a 1)),(A.lset (A.lset b (A.nat a) (.int .i64 c)) (A.nat (A.wrp .i64 (A.zsub a 1))) (.int .i64 g)))) else some (.inr b)

def a4Q (A:Ar) (d e:Int) (g:List D):(Int×List D)->Option ((Int×List D)⊕(List D)):=fun (a,b) => bif (A.zlt a e) then (iter (a5t A d g) (a,b)).bind (fun c => some (.inl ((A.wrp .i64 (A.zadd a 1)),c))) else some (.inr b)

/-- slices.insertionSortCmpFunc int  -/
def b9s (A:Ar) (a c:Int) (d:List D) (g:List (D×D)) (e:List D):Option (List D) := (iter (a4Q A a c d) ((A.wrp .i64 (A.zadd a 1)),e)).bind (fun b => some b)

def b4X (A:Ar) (e:Int) (g:List D) (i:List (D×D)):(Int×Int×List D)->Option ((Int×Int×List D)⊕(Int×List D)):=fun (c,a,b) => bif (A.zle a e) then (b9s A c a g i b).bind fun d => some (.inl (a,(A.wrp .i64 (A.zadd a 20)),d)) else some (.inr (c,b))

def b9F (A:Ar) (b a:Int):Unit->Option ((Unit)⊕(Unit)):=fun () => bif (A.zle (A.wrp .i64 (A.zmul 2 a)) b) then none else some (.inr ())

def b4Y (A:Ar) (b:Int):Int->Option ((Int)⊕(Unit)):=fun a => bif (A.zlt a b) then (iter (b9F A b a) ()).bind (fun _ => bif (A.zlt (A.wrp .i64 (A.zadd 0 a)) b) then none else some (.inl (A.wrp .i64 (A.zmul a 2)))) else some (.inr ())

/-- slices.stableCmpFunc int  -/
def N70 (A:Ar) (a:Int) (b:List D) (c:List (D×D)) (i:List D):Option (List D) := (iter (b4X A a b c) (0,20,i)).bind (fun (e,g) => (b9s A e a b c g).bind fun d => (iter (b4Y A a) 20).bind (fun _ => some d))

/-- slices.SortStableFunc   int int  -/
def N36 (A:Ar) (c:List D) (d:List (D×D)) (a:List D):Option (List D) := (N70 A (A.len a) c d a).bind fun b => some b

def b1s (A:Ar) (j d:List D):(Int×List (D×D))->Option ((Int×List (D×D))⊕(List (D×D))):=fun (a,e) => bif (A.zlt a (A.len d)) then (gt A (cG (lc (cI .i64) (l1 (cI .i64)))) d a).bind fun (b,c) => (gt A (cL 1) j b).bind fun g => (gt A (cI .i64) g c).bind fun i => some (.inl ((A.wrp .i64 (A.zadd a 1)),(A.mput e (.agg [(.int .i64 b),(.int .i64 c)]) (.int .i64 i)))) else some (.inr e)

def b1t (A:Ar) (d:List D):(Int×List D)->Option ((Int×List D)⊕(List D)):=fun (a,b) => bif (A.zlt a (A.len d)) then (ap A b [(.int .i64 a)]).bind fun c => some (.inl ((A.wrp .i64 (A.zadd a 1)),c)) else some (.inr b)

def b1u (A:Ar) (i:List (D×D)) (c d:Int):(Int×Int)->Option ((Int×Int)⊕(Int)):=fun (a,b) => bif (A.zlt b d) then (( (lk A (cI .i64) i (.agg [(.int .i64 c),(.int .i64 b)])).bind fun g=>g.elim ( some (A.zmin a 0)) fun e => some (A.zmin a e):Option (Int))).bind fun j => some (.inl (j,(A.wrp .i64 (A.zadd b 1)))) else some (.inr a)

def b1v (A:Ar) (c d i:Int):(Int×List (D×D))->Option ((Int×List (D×D))⊕(List (D×D))):=fun (b,a) => bif (A.zlt b d) then (lk A (cI .i64) a (.agg [(.int .i64 c),(.int .i64 b)])).bind fun g=>g.elim ( none) fun e => (ck (A.mhas a (A.midx a (.agg [(.int .i64 c),(.int .i64 b)])))).bind fun _ => some (.inl ((A.wrp .i64 (A.zadd b 1)),(A.mset a (A.midx a (.agg [(.int .i64 c),(.int .i64 b)])) (.int .i64 (A.wrp .i64 (A.zsub e i)))))) else some (.inr a)

def b1w (A:Ar) (l d:List D):(Int×List (D×D)×List D)->Option ((Int×List (D×D)×List D)⊕(List D)):=fun (b,j,c) => bif (A.zlt b (A.len d)) then (ck (A.zle 0 b)).bind fun _ => (ck (A.zlt b (A.len d))).bind fun _ => (gc A (cI .i64) d (A.nat b)).bind fun a => (gt A (cG (lc (cI .i64) (lc (cI .i64) (l1 (cI .i64))))) l a).bind fun (e,g,i) => (iter (b1u A j e i) (9,g)).bind (fun k => (iter (b1v A e i k) (g,j)).bind (fun m => (ck (A.zle 0 a)).bind fun _ => (ck (A.zlt a (A.len c))).bind fun _ => (gc A (cI .i64) c (A.nat a)).bind fun n => some (.inl ((A.wrp .i64 (A.zadd b 1)),m,(A.lset c (A.nat a) (.int .i64 k)))))) else some (.inr c)

/-- lineal delay.Prices -/
def N14 (A:Ar) (b e:List D):Option (List D×Int) := (N32 A b e).bind fun c => bif (A.zeq c 0) then (N26 A b).bind fun a => (N35 A b).bind fun i => (iter (b1s A e i) (0,[])).bind (fun d => (iter (b1t A a) (0,[])).bind (fun k => (N36 A a d k).bind fun g => (ck (A.zeq (A.len a) (A.len a))).bind fun _ => (ck (A.zle 0 (A.len a))).bind fun _ => (ck (A.fits (A.len a))).bind fun _ => (iter (b1w A a g) (0,d,(A.rep (A.len a) (.int .i64 0)))).bind (fun j => some (j,0)))) else some ([],c)

def b1x (A:Ar) (c:List D):(List D×Int)->Option ((List D×Int)⊕(List D)):=fun (b,a) => bif (A.zlt a (A.len c)) then (gt A (cG (lc (cI .i64) (lc (cI .i64) (l1 (cI .i64))))) c a).bind fun (d,e,g) => (ap A b [(.agg [(.int .i64 d),(.int .i64 e),(.int .i64 g)])]).bind fun i => some (.inl (i,(A.wrp .i64 (A.zadd a 1)))) else some (.inr b)

/-- lineal delay.plain -/
def N40 (A:Ar) (b:List D):Option (List D) := (iter (b1x A b) ([],0)).bind (fun a => some a)

/-- lineal delay.Needed -/
def N15 (A:Ar) (a:List D):Option (List D×Int) := (N39 A a).bind fun b => bif b then (N26 A a).bind fun c => (N40 A c).bind fun d => some (d,0) else some ([],90)

/-- lineal linealref09.priced -/
def N41 (A:Ar) (a d:List D):Option (Int) := (N22 A a).bind fun b => bif b then (N11 A a d).bind fun c => bif c then some 0 else some 2 else some 90

/-- lineal linealref09.IsAccess -/
def b4Z (A:Ar) (b:List D) (a c:Int):Option (Bool) := (( bif (A.zle 0 a) then bif (A.zlt a (A.len b)) then bif (A.zle 0 c) then (gt A (cL 2) b a).bind fun d => some (A.zlt c (A.len d)) else some false else some false else some false:Option (Bool))).bind fun e => some e

/-- lineal linealref09.IsPair -/
def b6M (A:Ar) (a:List D) (b c d:Int):Option (Bool) := (( (b4Z A a b c).bind fun j => bif j then (b4Z A a b d).bind fun k => bif k then bif (A.zlt c d) then (gt A (cL 2) a b).bind fun e => (gt A (cG (lc (cI .i64) (l1 cB))) e c).bind fun (g,m) => (gt A (cG (lc (cI .i64) (l1 cB))) e d).bind fun (i,n) => some (!(A.zeq g i)) else some false else some false else some false:Option (Bool))).bind fun l => some l

def b1y (A:Ar) (l:List D) (d:Int) (e:List D) (c:Int):(List D×Int)->Option ((List D×Int)⊕(List D)):=fun (b,a) => bif (A.zlt a (A.len e)) then (( bif (A.zeq c a) then some true else (b6M A l d c a).bind fun i => some i:Option (Bool))).bind fun j => (( bif j then (ap A b [(.agg [(.int .i64 d),(.int .i64 c),(.int .i64 a)])]).bind fun g => some g else some b:Option (List D))).bind fun k => some (.inl (k,(A.wrp .i64 (A.zadd a 1)))) else some (.inr b)

def b1z (A:Ar) (g:List D) (e:Int) (b:List D):(List D×Int)->Option ((List D×Int)⊕(List D)):=fun (c,a) => bif (A.zlt a (A.len b)) then (iter (b1y A g e b a) (c,0)).bind (fun d => some (.inl (d,(A.wrp .i64 (A.zadd a 1))))) else some (.inr c)

def b1A (A:Ar) (b:List D):(List D×Int)->Option ((List D×Int)⊕(List D)):=fun (c,a) => bif (A.zlt a (A.len b)) then (gt A (cL 2) b a).bind fun d => (iter (b1z A b a d) (c,0)).bind (fun e => some (.inl (e,(A.wrp .i64 (A.zadd a 1))))) else some (.inr c)

/-- lineal linealref09.stations -/
def N78 (A:Ar) (b:List D):Option (List D) := (iter (b1A A b) ([],0)).bind (fun a => some a)

/-- lineal linealref09.conflict -/
def b7K (A:Ar) (a:List D) (b m c n:Int):Option (Bool) := (( bif (A.zeq b c) then some false else (gt A (cL 2) a b).bind fun k => (gt A (cG (lc (cI .i64) (l1 cB))) k m).bind fun (d,e) => (gt A (cL 2) a c).bind fun g => (gt A (cG (lc (cI .i64) (l1 cB))) g n).bind fun (i,j) => bif (A.zeq d i) then bif e then some true else some j else some false:Option (Bool))).bind fun l => some l

def a6y (A:Ar) (c:Int) (b:List D):Int->Option ((Int)⊕((Unit)⊕(Unit))):=fun a => bif (A.zlt a (A.len b)) then (gt A (cG (lc (cI .i64) (lc (cI .i64) (l1 (cI .i64))))) b a).bind fun (d,e,g) => bif (A.zeq d c) then some (.inr (.inr ())) else some (.inl (A.wrp .i64 (A.zadd a 1))) else some (.inr (.inl ()))

def a5u (A:Ar) (i e:List D):(Bool×Int)->Option ((Bool×Int)⊕((Bool)⊕(Unit))):=fun (g,b) => bif (A.zlt b (A.len e)) then (gt A (cG (lc (cI .i64) (lc (cI .i64) (l1 (cI .i64))))) e b).bind fun (c,a,d) => (( (b4Z A i c a).bind fun k => bif k then bif (A.zeq a d) then some false else (b6M A i c a d).bind fun l => some (!l) else some true:Option (Bool))).bind fun m => bif m then some (.inr (.inr ())) else (( bif g then some true else some (!(A.zeq a d)):Option (Bool))).bind fun n => (sl A e 0 b).bind fun j => (iter (a6y A c j) 0).bind (Sum.elim (fun _ => some (.inl (n,(A.wrp .i64 (A.zadd b 1))))) (fun _ => some (.inr (.inr ())))) else some (.inr (.inl g))

def a5v (A:Ar) (j a:List D):Int->Option ((Int)⊕((Unit)⊕(Unit))):=fun b => bif (A.zlt b (A.len a)) then (gt A (cG (lc (cI .i64) (lc (cI .i64) (l1 (cI .i64))))) a b).bind fun (c,k,d) => (nk (A.zeq (A.len a) 0)).bind fun _ => (gt A (cG (lc (cI .i64) (lc (cI .i64) (l1 (cI .i64))))) a (A.rem (A.wrp .i64 (A.zadd b 1)) (A.len a))).bind fun (e,g,l) => (b7K A j c d e g).bind fun i => bif i then some (.inl (A.wrp .i64 (A.zadd b 1))) else some (.inr (.inr ())) else some (.inr (.inl ()))

/-- lineal linealref09.isCircle -/
def b9t (A:Ar) (b a:List D):Option (Bool) := (( bif (A.zlt (A.len a) 2) then some true else some (A.zlt 3 (A.len a)):Option (Bool))).bind fun c => bif c then some false else (iter (a5u A b a) (false,0)).bind (Sum.elim (fun d => (iter (a5v A b a) 0).bind (Sum.elim (fun _ => some d) (fun _ => some false))) (fun _ => some false))

def b2u (A:Ar) (r n:List D) (c d e g i j:Int):(List D×Int)->Option ((List D×Int)⊕(List D)):=fun (a,b) => bif (A.zlt b (A.len n)) then (gt A (cG (lc (cI .i64) (lc (cI .i64) (l1 (cI .i64))))) n b).bind fun (k,l,m) => (b9t A r [(.agg [(.int .i64 c),(.int .i64 d),(.int .i64 e)]),(.agg [(.int .i64 g),(.int .i64 i),(.int .i64 j)]),(.agg [(.int .i64 k),(.int .i64 l),(.int .i64 m)])]).bind fun p => (( bif p then (ap A a [(.list 3 [(.agg [(.int .i64 c),(.int .i64 d),(.int .i64 e)]),(.agg [(.int .i64 g),(.int .i64 i),(.int .i64 j)]),(.agg [(.int .i64 k),(.int .i64 l),(.int .i64 m)])])]).bind fun o => some o else some a:Option (List D))).bind fun q => some (.inl (q,(A.wrp .i64 (A.zadd b 1)))) else some (.inr a)

def b2v (A:Ar) (l j:List D) (a g c:Int):(List D×Int)->Option ((List D×Int)⊕(List D)):=fun (e,k) => bif (A.zlt k (A.len j)) then (( (gt A (cG (lc (cI .i64) (lc (cI .i64) (l1 (cI .i64))))) j k).bind fun (b,d,i) => (( bif (A.zeq a b) then some true else (b7K A l a c b d).bind fun n => some (!n):Option (Bool))).bind fun p => bif p then some e else (b9t A l [(.agg [(.int .i64 a),(.int .i64 g),(.int .i64 c)]),(.agg [(.int .i64 b),(.int .i64 d),(.int .i64 i)])]).bind fun o => (( bif o then (ap A e [(.list 3 [(.agg [(.int .i64 a),(.int .i64 g),(.int .i64 c)]),(.agg [(.int .i64 b),(.int .i64 d),(.int .i64 i)])])]).bind fun m => some m else some e:Option (List D))).bind fun q => (iter (b2u A l j a g c b d i) (q,0)).bind (fun r => some r):Option (List D))).bind fun s => some (.inl (s,(A.wrp .i64 (A.zadd k 1)))) else some (.inr e)

def b2w (A:Ar) (j a:List D):(List D×Int)->Option ((List D×Int)⊕(List D)):=fun (c,b) => bif (A.zlt b (A.len a)) then (gt A (cG (lc (cI .i64) (lc (cI .i64) (l1 (cI .i64))))) a b).bind fun (d,e,g) => (iter (b2v A j a d e g) (c,0)).bind (fun i => some (.inl (i,(A.wrp .i64 (A.zadd b 1))))) else some (.inr c)

/-- lineal linealref09.circles -/
def N77 (A:Ar) (a:List D):Option (List D) := (N78 A a).bind fun b => (iter (b2w A a b) ([],0)).bind (fun c => some c)

def b1B (A:Ar) (k c d:Int) (b:List D):(Bool×Int)->Option ((Bool×Int)⊕(Bool)):=fun (e,a) => bif (A.zlt a (A.len b)) then (gt A (cG (lc (cI .i64) (lc (cI .i64) (l1 (cI .i64))))) b a).bind fun (g,i,j) => (( bif e then some true else bif (A.deq [(.int .i64 g),(.int .i64 i),(.int .i64 j)] [(.int .i64 k),(.int .i64 c),(.int .i64 d)]) then some (A.zlt c d) else some false:Option (Bool))).bind fun l => some (.inl (l,(A.wrp .i64 (A.zadd a 1)))) else some (.inr e)

def b1C (A:Ar) (b:List D) (e g i:Int):(Bool×Int)->Option ((Bool×Int)⊕(Bool)):=fun (c,a) => bif (A.zlt a (A.len b)) then (gt A (cL 3) b a).bind fun d => (iter (b1B A e g i d) (c,0)).bind (fun j => some (.inl (j,(A.wrp .i64 (A.zadd a 1))))) else some (.inr c)

def b2x (A:Ar) (j g:List D):(List D×Int)->Option ((List D×Int)⊕(List D)):=fun (a,b) => bif (A.zlt b (A.len g)) then (gt A (cG (lc (cI .i64) (lc (cI .i64) (l1 (cI .i64))))) g b).bind fun (c,d,e) => (iter (b1C A j c d e) (false,0)).bind (fun k => (( bif k then (ap A a [(.agg [(.int .i64 c),(.int .i64 d),(.int .i64 e)])]).bind fun i => some i else some a:Option (List D))).bind fun l => some (.inl (l,(A.wrp .i64 (A.zadd b 1))))) else some (.inr a)

/-- lineal linealref09.needed -/
def N42 (A:Ar) (a:List D):Option (List D) := (N77 A a).bind fun b => (N78 A a).bind fun c => (iter (b2x A b c) ([],0)).bind (fun d => some d)

def b5a (A:Ar) (e:Int) (c:List D):(List D×Int)->Option ((List D×Int)⊕(List D)):=fun (b,a) => bif (A.zlt a (A.zmax (A.wrp .i64 (A.zsub (A.len c) 1)) 0)) then (ap A b [(.agg [(.int .i64 e),(.int .i64 a)])]).bind fun d => some (.inl (d,(A.wrp .i64 (A.zadd a 1)))) else some (.inr b)

def b5b (A:Ar) (c:List D):(List D×Int)->Option ((List D×Int)⊕(List D)):=fun (b,a) => bif (A.zlt a (A.len c)) then (gt A (cL 2) c a).bind fun d => (iter (b5a A a d) (b,0)).bind (fun e => some (.inl (e,(A.wrp .i64 (A.zadd a 1))))) else some (.inr b)

/-- lineal linealref09.AllFences -/
def N19 (A:Ar) (b:List D):Option (List D) := (iter (b5b A b) ([],0)).bind (fun a => some a)

/-- lineal linealref09.holds -/
def N43 (A:Ar) (c a d e g:Int):Option (Bool) := (( bif (A.zeq c d) then bif (A.zle e a) then some (A.zlt a g) else some false else some false:Option (Bool))).bind fun b => some b

def b1D (A:Ar) (d:List D):(Int×Int)->Option ((Int×Int)⊕((Int)⊕(Unit))):=fun (c,b) => bif (A.zlt b (A.len d)) then (gt A (cI .i64) d b).bind fun a => (( bif (A.zlt a 0) then some true else some (A.zlt 100 a):Option (Bool))).bind fun e => bif e then some (.inr (.inr ())) else some (.inl ((A.wrp .i64 (A.zadd c a)),(A.wrp .i64 (A.zadd b 1)))) else some (.inr (.inl c))

def b1E (A:Ar) (n c:List D) (j k:Int):(Int×Int)->Option ((Int×Int)⊕(Int)):=fun (b,a) => bif (A.zlt a (A.len c)) then (gt A (cG (lc (cI .i64) (lc (cI .i64) (l1 (cI .i64))))) c a).bind fun (d,e,g) => (N43 A j k d e g).bind fun l => (( bif l then (gt A (cI .i64) n a).bind fun i => some (A.wrp .i64 (A.zadd b i)) else some b:Option (Int))).bind fun m => some (.inl (m,(A.wrp .i64 (A.zadd a 1)))) else some (.inr b)

def b2y (A:Ar) (k l i d:List D):Int->Option ((Int)⊕((Unit)⊕(Unit))):=fun a => bif (A.zlt a (A.len d)) then (gt A (cG (lc (cI .i64) (l1 (cI .i64)))) d a).bind fun (b,c) => (iter (b1E A l i b c) (0,0)).bind (fun j => (gt A (cL 1) k b).bind fun e => (gt A (cI .i64) e c).bind fun g => bif (A.zlt g j) then some (.inr (.inr ())) else some (.inl (A.wrp .i64 (A.zadd a 1)))) else some (.inr (.inl ()))

/-- lineal linealref09.Prove -/
def N16 (A:Ar) (a g b:List D) (c:Int):Option (Bool×Int) := (N41 A a g).bind fun d => bif (A.zeq d 0) then (N42 A a).bind fun e => (( bif (A.zeq (A.len b) (A.len e)) then bif (A.zlt c 0) then some true else some (A.zlt 1000 c) else some true:Option (Bool))).bind fun j => bif j then some (false,2) else (iter (b1D A b) (0,0)).bind (Sum.elim (fun k => (N19 A a).bind fun i => (iter (b2y A g b e i) 0).bind (Sum.elim (fun _ => some ((A.zle c k),0)) (fun _ => some (false,0)))) (fun _ => some (false,2))) else some (false,d)

def b2z (A:Ar) (g d:List D):Int->Option ((Int)⊕((Unit)⊕(Unit))):=fun a => bif (A.zlt a (A.len d)) then (gt A (cG (lc (cI .i64) (l1 (cI .i64)))) d a).bind fun (b,c) => (( (b4Z A g b c).bind fun k => bif k then (gt A (cL 2) g b).bind fun i => some (A.zeq c (A.wrp .i64 (A.zsub (A.len i) 1))) else some true:Option (Bool))).bind fun l => bif l then some (.inr (.inr ())) else (( bif (A.zlt 0 a) then (gt A (cG (lc (cI .i64) (l1 (cI .i64)))) d (A.wrp .i64 (A.zsub a 1))).bind fun (e,j) => bif (A.zlt b e) then some true else bif (A.zeq b e) then some (A.zle c j) else some false else some false:Option (Bool))).bind fun m => bif m then some (.inr (.inr ())) else some (.inl (A.wrp .i64 (A.zadd a 1))) else some (.inr (.inl ()))

/-- lineal linealref09.areFences -/
def N79 (A:Ar) (a b:List D):Option (Bool) := (iter (b2z A a b) 0).bind (Sum.elim (fun _ => some true) (fun _ => some false))

/-- lineal linealref09.fenced -/
def N44 (A:Ar) (a d:List D):Option (Int) := (N22 A a).bind fun b => bif b then (N79 A a d).bind fun c => bif c then some 0 else some 2 else some 90

def b9G (A:Ar) (j c:List D):(Int×Int)->Option ((Int×Int)⊕(Int)):=fun (b,a) => bif (A.zlt a (A.len c)) then (gt A (cG (lc (cI .i64) (l1 (cI .i64)))) c a).bind fun (d,e) => (gt A (cL 1) j d).bind fun g => (gt A (cI .i64) g e).bind fun i => some (.inl ((A.wrp .i64 (A.zadd b i)),(A.wrp .i64 (A.zadd a 1)))) else some (.inr b)

/-- lineal linealref09.cost -/
def N45 (A:Ar) (b c:List D):Option (Int) := (iter (b9G A b c) (0,0)).bind (fun a => some a)

/-- lineal linealref09.Cost -/
def N17 (A:Ar) (b c d:List D):Option (Int×Int) := (N44 A b d).bind fun a => bif (A.zeq a 0) then (N11 A b c).bind fun g => bif g then (N45 A c d).bind fun e => some (e,0) else some (0,2) else some (0,a)

def b2A (A:Ar) (b:List D) (e g:Int):Int->Option ((Int)⊕((Unit)⊕(Int))):=fun a => bif (A.zlt a (A.len b)) then (gt A (cG (lc (cI .i64) (l1 (cI .i64)))) b a).bind fun (c,d) => bif (A.deq [(.int .i64 e),(.int .i64 g)] [(.int .i64 c),(.int .i64 d)]) then some (.inr (.inr a)) else some (.inl (A.wrp .i64 (A.zadd a 1))) else some (.inr (.inl ()))

/-- slices.Index   lineal delay.fence lineal delay.fence  -/
def N55 (A:Ar) (b:List D) (c d:Int):Option (Int) := (iter (b2A A b c d) 0).bind (Sum.elim (fun _ => some (-1)) (fun a => some a))

/-- slices.Contains   lineal delay.fence lineal delay.fence  -/
def N28 (A:Ar) (b:List D) (c d:Int):Option (Bool) := (N55 A b c d).bind fun a => some (A.zle 0 a)

def a9h (A:Ar) (c d:List D):Int->Option ((Int)⊕((Unit)⊕(Int))):=fun a => bif (A.zlt a (A.len c)) then (gt A (cI .i64) c a).bind fun e => bif (A.zle (A.len d) a) then some (.inr (.inr 1)) else (gt A (cI .i64) d a).bind fun g => (N38 A e g).bind fun b => bif (A.zeq b 0) then some (.inl (A.wrp .i64 (A.zadd a 1))) else some (.inr (.inr b)) else some (.inr (.inl ()))

/-- slices.Compare   int int  -/
def N62 (A:Ar) (a b:List D):Option (Int) := (iter (a9h A a b) 0).bind (Sum.elim (fun _ => bif (A.zlt (A.len a) (A.len b)) then some (-1) else some 0) (fun c => some c))

def b1F (A:Ar) (d l:List D):(List D×Int)->Option ((List D×Int)⊕((List D)⊕(Unit))):=fun (e,a) => bif (A.zlt a (A.len d)) then (gt A (cG (lc (cI .i64) (l1 (cI .i64)))) d a).bind fun (b,c) => (( (N28 A l b c).bind fun k => bif k then bif (A.zlt 0 a) then (gt A (cG (lc (cI .i64) (l1 (cI .i64)))) d (A.wrp .i64 (A.zsub a 1))).bind fun (g,i) => (N62 A [(.int .i64 g),(.int .i64 i)] [(.int .i64 b),(.int .i64 c)]).bind fun m => some (A.zle 0 m) else some false else some true:Option (Bool))).bind fun n => bif n then some (.inr (.inr ())) else (ap A e [(.agg [(.int .i64 b),(.int .i64 c)])]).bind fun j => some (.inl (j,(A.wrp .i64 (A.zadd a 1)))) else some (.inr (.inl e))

/--  lineal delay.threads .fences -/
def N48 (A:Ar) (c d:List D):Option (List D×Bool) := (N35 A c).bind fun a => (iter (b1F A d a) ([],0)).bind (Sum.elim (fun b => some (b,true)) (fun _ => some ([],false)))

/-- lineal delay.fenced -/
def N24 (A:Ar) (a e:List D):Option (List D×Int) := (N39 A a).bind fun b => bif b then (N48 A a e).bind fun (c,d) => bif d then some (c,0) else some ([],2) else some ([],90)

def b1G (A:Ar) (e:Int) (c:List D):(List D×Int)->Option ((List D×Int)⊕(List D)):=fun (b,a) => bif (A.zlt a (A.len c)) then (ap A b [(.agg [(.int .i64 e),(.int .i64 a)])]).bind fun d => some (.inl (d,(A.wrp .i64 (A.zadd a 1)))) else some (.inr b)

def b1H (A:Ar) (c:List D):(List D×Int)->Option ((List D×Int)⊕(List D)):=fun (b,a) => bif (A.zlt a (A.len c)) then (gt A (cL 2) c a).bind fun d => (iter (b1G A a d) (b,0)).bind (fun e => some (.inl (e,(A.wrp .i64 (A.zadd a 1))))) else some (.inr b)

/--  lineal delay.threads .spots -/
def N27 (A:Ar) (b:List D):Option (List D) := (iter (b1H A b) ([],0)).bind (fun a => some a)

def b7L (A:Ar) (l:List D) (q:Int) (c:List D):(Int×List D×Int)->Option ((Int×List D×Int)⊕(Int×List D)):=fun (a,e,b) => bif (A.zlt b (A.len c)) then (gt A (cG (lc (cI .i64) (l1 cB))) c b).bind fun (g,i) => (( bif i then (nk (A.zeq 3 0)).bind fun _ => some ((A.wrp .i64 (A.zadd a 1)),2,(A.wrp .i64 (A.zadd (A.rem a 3) 1))) else some (a,1,0):Option (Int×Int×Int))).bind fun (m,n,o) => (ap A e [(.agg [(.int .i64 n),(.int .i64 g),(.int .i64 o)])]).bind fun d => (N28 A l q b).bind fun k => (( bif k then (ap A d [(.agg [(.int .i64 3),(.int .i64 0),(.int .i64 0)])]).bind fun j => some j else some d:Option (List D))).bind fun p => some (.inl (m,p,(A.wrp .i64 (A.zadd b 1)))) else some (.inr (a,e))

def b9u (A:Ar) (c g:List D):(Int×List D×Int)->Option ((Int×List D×Int)⊕(List D)):=fun (k,b,a) => bif (A.zlt a (A.len c)) then (gt A (cL 2) c a).bind fun d => (iter (b7L A g a d) (k,[],0)).bind (fun (i,j) => (ap A b [(.list 3 j)]).bind fun e => some (.inl (i,e,(A.wrp .i64 (A.zadd a 1))))) else some (.inr b)

/-- lineal delay.Program -/
def N8 (A:Ar) (a j:List D):Option (List D×Int) := (N24 A a j).bind fun (d,b) => (( bif (A.zeq b 0) then (N27 A a).bind fun e => some (A.zlt 8 (A.len e)) else some false:Option (Bool))).bind fun i => (( bif i then some 2 else some b:Option (Int))).bind fun c => bif (A.zeq c 0) then (iter (b9u A a d) (0,[],0)).bind (fun g => some (g,0)) else some ([],c)

/-- lineal memory.between -/
def N97 (A:Ar) (c a d:Int):Option (Bool) := (( bif (A.zle c a) then some (A.zle a d) else some false:Option (Bool))).bind fun b => some b

/-- lineal memory.isAct -/
def N94 (A:Ar) (a b c:Int):Option (Bool) := bif (A.zeq a 1) then (( (N97 A 0 b 2).bind fun g => bif g then some (A.zeq c 0) else some false:Option (Bool))).bind fun j => some j else bif (A.zeq a 2) then (( (N97 A 0 b 2).bind fun d => bif d then (N97 A 0 c 3).bind fun e => some e else some false:Option (Bool))).bind fun i => some i else some (A.deq [(.int .i64 a),(.int .i64 b),(.int .i64 c)] [(.int .i64 3),(.int .i64 0),(.int .i64 0)])

/-- lineal memory.Valid$1 -/
def N93 (A:Ar) (b c d:Int):Option (Bool) := (N94 A b c d).bind fun a => some (!a)

def b0f (A:Ar) (b:List D):Int->Option ((Int)⊕((Unit)⊕(Int))):=fun a => bif (A.zlt a (A.len b)) then (gt A (cG (lc (cI .i64) (lc (cI .i64) (l1 (cI .i64))))) b a).bind fun (c,d,e) => (N93 A c d e).bind fun g => bif g then some (.inr (.inr a)) else some (.inl (A.wrp .i64 (A.zadd a 1))) else some (.inr (.inl ()))

/-- slices.IndexFunc   lineal api.Act lineal api.Act  -/
def b9H (A:Ar) (b:List D):Option (Int) := (iter (b0f A b) 0).bind (Sum.elim (fun _ => some (-1)) (fun a => some a))

/-- slices.ContainsFunc   lineal api.Act lineal api.Act  -/
def N92 (A:Ar) (b:List D):Option (Bool) := (b9H A b).bind fun a => some (A.zle 0 a)

/-- lineal memory.works -/
def N96 (A:Ar) (a b c:Int):Option (Bool) := some (!(A.zeq a 3))

def b2B (A:Ar) (c:List D):(Int×Int)->Option ((Int×Int)⊕(Int)):=fun (a,b) => bif (A.zlt b (A.len c)) then (gt A (cG (lc (cI .i64) (lc (cI .i64) (l1 (cI .i64))))) c b).bind fun (d,e,g) => (N96 A d e g).bind fun i => (( bif i then some (A.wrp .i64 (A.zadd a 1)) else some a:Option (Int))).bind fun j => some (.inl (j,(A.wrp .i64 (A.zadd b 1)))) else some (.inr a)

/-- lineal memory.count -/
def N95 (A:Ar) (b:List D):Option (Int) := (iter (b2B A b) (0,0)).bind (fun a => some a)

def b1I (A:Ar) (d:List D):(Int×Int)->Option ((Int×Int)⊕((Int)⊕(Unit))):=fun (c,b) => bif (A.zlt b (A.len d)) then (gt A (cL 3) d b).bind fun a => (( bif (A.zlt 7 (A.len a)) then some true else (N92 A a).bind fun e => bif e then some true else (N95 A a).bind fun g => some (A.zlt 4 g):Option (Bool))).bind fun j => bif j then some (.inr (.inr ())) else (N95 A a).bind fun i => some (.inl ((A.wrp .i64 (A.zadd c i)),(A.wrp .i64 (A.zadd b 1)))) else some (.inr (.inl c))

/-- lineal memory.Valid -/
def N56 (A:Ar) (a:List D):Option (Bool) := (iter (b1I A a) (0,0)).bind (Sum.elim (fun c => (( (N97 A 1 (A.len a) 3).bind fun b => bif b then some (A.zle c 8) else some false:Option (Bool))).bind fun d => some d) (fun _ => some false))

/-- lineal memory.kindOf -/
def N57 (A:Ar) (a:Int):Option (Int) := bif (A.zeq a 1) then some (Int.ofNat 151) else bif (A.zeq a 2) then some (Int.ofNat 152) else bif (A.zeq a 3) then some (Int.ofNat 153) else some (-1)

def b9I (A:Ar) (d:List D):(List D×Int)->Option ((List D×Int)⊕((List D)⊕(Unit))):=fun (c,a) => bif (A.zlt a (A.len d)) then (gt A (cI .i64) d a).bind fun e => (N57 A e).bind fun b => bif (A.zlt b 0) then some (.inr (.inr ())) else (ap A c [(.iface b)]).bind fun g => some (.inl (g,(A.wrp .i64 (A.zadd a 1)))) else some (.inr (.inl c))

/-- lineal memory.checked -/
def N29 (A:Ar) (c d:List D):Option (List D×Int) := (N56 A c).bind fun a => bif a then (iter (b9I A d) ([],0)).bind (Sum.elim (fun b => some (b,0)) (fun _ => some ([],2))) else some ([],40)

def b2C (A:Ar) (c d:List D):Int->Option ((Int)⊕((Unit)⊕(Unit))):=fun a => bif (A.zlt a (A.len d)) then (( (ck (A.zle 0 a)).bind fun _ => (ck (A.zlt a (Int.ofNat 3))).bind fun _ => (gc A (cI .u8) c (A.nat (A.zadd 0 (A.zmul a (Int.ofNat 1))))).bind fun e => (gt A (cL 3) d a).bind fun b => (nk (A.zlt (A.len b) 0)).bind fun _ => bif (A.zeq e (A.wrp .u8 (A.zsub (A.shl .u8 1 (A.len b)) 1))) then (ck (A.zle 0 a)).bind fun _ => (ck (A.zlt a (Int.ofNat 3))).bind fun _ => (gc A (cI .i64) c (A.nat (A.zadd (A.zadd 0 (A.zmul a (Int.ofNat 1))) (Int.ofNat 38)))).bind fun g => some (A.zlt 0 g) else some true:Option (Bool))).bind fun i => bif i then some (.inr (.inr ())) else some (.inl (A.wrp .i64 (A.zadd a 1))) else some (.inr (.inl ()))

/--  lineal memory.state .over -/
def N58 (A:Ar) (a b:List D):Option (Bool) := (ck (A.zeq (A.len a) (Int.ofNat 41))).bind fun _ => (iter (b2C A a b) 0).bind (Sum.elim (fun _ => some true) (fun _ => some false))

/-- lineal memory.loads -/
def N98 (A:Ar) (a b c:Int):Option (Bool) := some (A.zeq a 1)

def a7V (A:Ar) (c:List D):(Int×Int)->Option ((Int×Int)⊕(Int)):=fun (a,b) => bif (A.zlt b (A.len c)) then (gt A (cG (lc (cI .i64) (lc (cI .i64) (l1 (cI .i64))))) c b).bind fun (d,e,g) => (N98 A d e g).bind fun i => (( bif i then some (A.wrp .i64 (A.zadd a 1)) else some a:Option (Int))).bind fun j => some (.inl (j,(A.wrp .i64 (A.zadd b 1)))) else some (.inr a)

/-- lineal memory.count -/
def b7M (A:Ar) (b:List D):Option (Int) := (iter (a7V A b) (0,0)).bind (fun a => some a)

/-- slices.Clone   int8 int8  -/
def N99 (A:Ar) (a b:Int) (c:List D):Option (List D) := (ck (A.zle (A.zadd a b) (A.len c))).bind fun _ => (ap A [] (A.sub c a (A.zadd a b))).bind fun d => some d

def b2D (A:Ar) (c:List D):(Int×Int)->Option ((Int×Int)⊕(Int)):=fun (b,a) => bif (A.zlt a (A.len c)) then (gt A (cL 3) c a).bind fun d => (b7M A d).bind fun e => some (.inl ((A.wrp .i64 (A.zadd b e)),(A.wrp .i64 (A.zadd a 1)))) else some (.inr b)

def b2E (A:Ar) (b:List D):(List D×Int)->Option ((List D×Int)⊕(List D)):=fun (c,a) => bif (A.zlt a (A.len b)) then (gt A (cI .i8) b a).bind fun d => (ap A c [(.int .i64 (A.wrp .i64 d))]).bind fun e => some (.inl (e,(A.wrp .i64 (A.zadd a 1)))) else some (.inr c)

/--  lineal memory.state .outcome -/
def N59 (A:Ar) (a g:List D):Option (List D) := (ck (A.zeq (A.len a) (Int.ofNat 41))).bind fun _ => (iter (b2D A g) (0,0)).bind (fun b => (ck (A.zle 0 0)).bind fun _ => (ck (A.zle 0 b)).bind fun _ => (ck (A.zle b (Int.ofNat 8))).bind fun _ => (ck (A.zle 0 (A.zadd 0 (Int.ofNat 3)))).bind fun _ => (N99 A (A.zadd (A.zadd 0 (Int.ofNat 3)) 0) (A.zsub b 0) a).bind fun d => (ck (A.zle 0 0)).bind fun _ => (ck (A.zle 0 (Int.ofNat 3))).bind fun _ => (ck (A.zle (Int.ofNat 3) (Int.ofNat 3))).bind fun _ => (ck (A.zle 0 (A.zadd 0 (Int.ofNat 11)))).bind fun _ => (ck (A.zle (A.zadd (A.zadd (A.zadd 0 (Int.ofNat 11)) 0) (A.zsub (Int.ofNat 3) 0)) (A.len a))).bind fun _ => (ap A d (A.sub a (A.zadd (A.zadd 0 (Int.ofNat 11)) 0) (A.zadd (A.zadd (A.zadd 0 (Int.ofNat 11)) 0) (A.zsub (Int.ofNat 3) 0)))).bind fun c => (iter (b2E A c) ([],0)).bind (fun e => some e))

def b0g (A:Ar) (d:List D) (b:Int):Int->Option ((Int)⊕(Int)):=fun a => (ck (A.zle 0 b)).bind fun _ => (ck (A.zlt b (Int.ofNat 3))).bind fun _ => (gc A (cI .u8) d (A.nat (A.zadd 0 (A.zmul b (Int.ofNat 1))))).bind fun c => (nk (A.zlt a 0)).bind fun _ => bif (A.zeq (A.bits .and .u8 (A.shr .u8 c a) 1) 1) then some (.inl (A.wrp .i64 (A.zadd a 1))) else some (.inr a)

/--  lineal memory.state .next -/
def b9J (A:Ar) (a:List D) (c:Int):Option (Int) := (ck (A.zeq (A.len a) (Int.ofNat 41))).bind fun _ => (iter (b0g A a c) 0).bind (fun b => some b)

def a7W (A:Ar) (b:List D):(Int×Int)->Option ((Int×Int)⊕(Int)):=fun (c,a) => bif (A.zlt a (A.len b)) then (gt A (cL 3) b a).bind fun d => (b7M A d).bind fun e => some (.inl ((A.wrp .i64 (A.zadd c e)),(A.wrp .i64 (A.zadd a 1)))) else some (.inr c)

/-- lineal memory.number -/
def b9K (A:Ar) (a:List D) (b j:Int):Option (Int) := (gt A (cL 3) a b).bind fun c => (sl A c 0 j).bind fun e => (b7M A e).bind fun g => (sl A a 0 b).bind fun d => (iter (a7W A d) (g,0)).bind (fun i => some i)

/--  lineal memory.state .does -/
def b9v (A:Ar) (b k:List D) (a c:Int):Option (List D) := (ck (A.zeq (A.len b) (Int.ofNat 41))).bind fun _ => (ck (A.zle 0 a)).bind fun _ => (ck (A.zlt a (Int.ofNat 3))).bind fun _ => (gc A (cI .u8) b (A.nat (A.zadd 0 (A.zmul a (Int.ofNat 1))))).bind fun e => (nk (A.zlt c 0)).bind fun _ => (ck (A.zle 0 a)).bind fun _ => (ck (A.zlt a (Int.ofNat 3))).bind fun _ => (A.lget b (A.nat (A.zadd 0 (A.zmul a (Int.ofNat 1))))).bind fun q => (gt A (cL 3) k a).bind fun l => (gt A (cG (lc (cI .i64) (lc (cI .i64) (l1 (cI .i64))))) l c).bind fun (j,d,m) => (( bif (A.zeq j 1) then (b9K A k a c).bind fun i => (ck (A.zle 0 d)).bind fun _ => (ck (A.zlt d (Int.ofNat 3))).bind fun _ => (gc A (cI .i8) (A.lset b (A.nat (A.zadd 0 (A.zmul a (Int.ofNat 1)))) (.int .u8 (A.bits .or .u8 e (A.shl .u8 1 c)))) (A.nat (A.zadd (A.zadd 0 (A.zmul d (Int.ofNat 1))) (Int.ofNat 11)))).bind fun n => (ck (A.zle 0 i)).bind fun _ => (ck (A.zlt i (Int.ofNat 8))).bind fun _ => (A.lget (A.lset b (A.nat (A.zadd 0 (A.zmul a (Int.ofNat 1)))) (.int .u8 (A.bits .or .u8 e (A.shl .u8 1 c)))) (A.nat (A.zadd (A.zadd 0 (A.zmul i (Int.ofNat 1))) (Int.ofNat 3)))).bind fun r => some (A.lset (A.lset b (A.nat (A.zadd 0 (A.zmul a (Int.ofNat 1)))) (.int .u8 (A.bits .or .u8 e (A.shl .u8 1 c)))) (A.nat (A.zadd (A.zadd 0 (A.zmul i (Int.ofNat 1))) (Int.ofNat 3))) (.int .i8 n)) else (( bif (A.zeq j 2) then (ck (A.zle 0 d)).bind fun _ => (ck (A.zlt d (Int.ofNat 3))).bind fun _ => (A.lget (A.lset b (A.nat (A.zadd 0 (A.zmul a (Int.ofNat 1)))) (.int .u8 (A.bits .or .u8 e (A.shl .u8 1 c)))) (A.nat (A.zadd (A.zadd 0 (A.zmul d (Int.ofNat 1))) (Int.ofNat 11)))).bind fun s => some (A.lset (A.lset b (A.nat (A.zadd 0 (A.zmul a (Int.ofNat 1)))) (.int .u8 (A.bits .or .u8 e (A.shl .u8 1 c)))) (A.nat (A.zadd (A.zadd 0 (A.zmul d (Int.ofNat 1))) (Int.ofNat 11))) (.int .i8 (A.wrp .i8 m))) else some (A.lset b (A.nat (A.zadd 0 (A.zmul a (Int.ofNat 1)))) (.int .u8 (A.bits .or .u8 e (A.shl .u8 1 c)))):Option (List D))).bind fun o => some o:Option (List D))).bind fun p => (ga A p (A.zadd 0 (Int.ofNat 0)) (Int.ofNat 41)).bind fun g => (ck (A.zeq (A.len g) (Int.ofNat 41))).bind fun _ => (ck (A.zle (A.zadd (A.zadd 0 (Int.ofNat 0)) (Int.ofNat 41)) (A.len (zz0)))).bind fun _ => (ck (A.zeq (A.len (A.spl (zz0) (A.zadd 0 (Int.ofNat 0)) g)) (Int.ofNat 41))).bind fun _ => (ck (A.ones (A.spl (zz0) (A.zadd 0 (Int.ofNat 0)) g))).bind fun _ => some (A.spl (zz0) (A.zadd 0 (Int.ofNat 0)) g)

/-- lineal memory.outcomes$1 -/
def N60 (A:Ar) (b:List D) (c:List (D×D)) (m e:List D):Option (List (D×D)×List D) := (ck (A.zeq (A.len b) (Int.ofNat 41))).bind fun _ => (( (ga A b (A.zadd 0 (Int.ofNat 0)) (Int.ofNat 41)).bind fun d => (ck (A.conf (zz1) d)).bind fun _ => (lk A cU c (.agg d)).bind fun i=>i.elim ( some false) fun () => some true:Option (Bool))).bind fun j => (( bif j then some (c,e) else (ga A b (A.zadd 0 (Int.ofNat 0)) (Int.ofNat 41)).bind fun a => (ck (A.conf (zz1) a)).bind fun _ => (ck (A.zeq (A.len a) (Int.ofNat 41))).bind fun _ => (ap A e [(.agg a)]).bind fun g => some ((A.mput c (.agg a) (.agg [])),g):Option (List (D×D)×List D))).bind fun (k,l) => some (k,l)

def a7X (A:Ar) (d i:List D):(Int×List (D×D)×List D)->Option ((Int×List (D×D)×List D)⊕(List (D×D)×List D)):=fun (a,b,c) => bif (A.zlt a (A.len d)) then (ga A i (A.zadd 0 (Int.ofNat 0)) (Int.ofNat 41)).bind fun e => (b9J A e a).bind fun g => (gt A (cL 3) d a).bind fun j => (( bif (A.zlt g (A.len j)) then (b9v A e d a g).bind fun k => (N60 A k b i c).bind fun (l,m) => some (l,m) else some (b,c):Option (List (D×D)×List D))).bind fun (n,o) => some (.inl ((A.wrp .i64 (A.zadd a 1)),n,o)) else some (.inr (b,c))

/--  lineal memory.strict .steps -/
def b9L (A:Ar) (d a:List D) (e:List (D×D)) (g:List D):Option (List (D×D)×List D) := (ck (A.zeq (A.len a) (Int.ofNat 41))).bind fun _ => (iter (a7X A d a) (0,e,g)).bind (fun (b,c) => some (b,c))

def a6z (A:Ar) (n:List D) (b e g:Int) (c:List D):(Bool×Int)->Option ((Bool×Int)⊕(Bool)):=fun (d,a) => bif (A.zlt a (A.len c)) then (gt A (cG (lc (cI .i64) (lc (cI .i64) (l1 (cI .i64))))) c a).bind fun (i,j,o) => (( bif (A.zeq e 3) then some true else bif (A.zeq i 3) then some true else some (A.zeq g j):Option (Bool))).bind fun l => (( bif d then bif l then (ck (A.zle 0 b)).bind fun _ => (ck (A.zlt b (Int.ofNat 3))).bind fun _ => (gc A (cI .u8) n (A.nat (A.zadd 0 (A.zmul b (Int.ofNat 1))))).bind fun k => (nk (A.zlt a 0)).bind fun _ => some (A.zeq (A.bits .and .u8 (A.shr .u8 k a) 1) 1) else some true else some false:Option (Bool))).bind fun m => some (.inl (m,(A.wrp .i64 (A.zadd a 1)))) else some (.inr d)

def a7Y (A:Ar) (u c:List D) (b:Int) (d:List D):(Int×List (D×D)×List D)->Option ((Int×List (D×D)×List D)⊕(List (D×D)×List D)):=fun (a,e,g) => bif (A.zlt a (A.len d)) then (gt A (cG (lc (cI .i64) (lc (cI .i64) (l1 (cI .i64))))) d a).bind fun (i,j,v) => (ck (A.zle 0 b)).bind fun _ => (ck (A.zlt b (Int.ofNat 3))).bind fun _ => (gc A (cI .u8) c (A.nat (A.zadd 0 (A.zmul b (Int.ofNat 1))))).bind fun k => (nk (A.zlt a 0)).bind fun _ => (sl A d 0 a).bind fun l => (iter (a6z A c b i j l) ((A.zeq (A.bits .and .u8 (A.shr .u8 k a) 1) 0),0)).bind (fun q => (( bif q then (ga A c (A.zadd 0 (Int.ofNat 0)) (Int.ofNat 41)).bind fun m => (b9v A m u b a).bind fun n => (N60 A n e c g).bind fun (o,p) => some (o,p) else some (e,g):Option (List (D×D)×List D))).bind fun (r,s) => some (.inl ((A.wrp .i64 (A.zadd a 1)),r,s))) else some (.inr (e,g))
end
end Go.Am
