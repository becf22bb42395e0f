import Derived.Test.YtlljehkmemajkaaGreatAmSrt
import Derived.Test.YtlljehkmemajkaaGreatAmSrt
import Derived.Test.YtlljehkmemajkaaGreatAmSrt
import Derived.Test.YtlljehkmemajkaaGreatAmSrt
set_option maxRecDepth 100000
set_option maxHeartbeats 2000000
set_option linter.unusedVariables false
set_option linter.unusedSimpArgs false
namespace Go.Am
noncomputable section
open Go
def b1h (A:Ar) (b:List D):Int->Option ((Int)⊕((Unit)⊕(Unit))):=fun a => bif (A.zlt a (A.len b)) then (gt A (cL 2) b a).bind fun c => bif (A.zlt 20 (A.len c)) then some (.inr (.inr ())) else some (.inl (A.wrp .i64 (A.zadd a 1))) else some (.inr (.inl ()))

/-- lineal lineallaw09.Long -/
def N21 (A:Ar) (a:List D):Option (Bool) := (iter (b1h A a) 0).bind (Sum.elim (fun _ => some (A.zlt 20 (A.len a))) (fun _ => some true))

def b1i (A:Ar) (b:List D):Int->Option ((Int)⊕((Unit)⊕(Unit))):=fun a => bif (A.zlt a (A.len b)) then (gt A (cG (lc (cI .i64) (l1 cB))) b a).bind fun (c,e) => (( bif (A.zlt c 0) then some true else some (A.zle 3 c):Option (Bool))).bind fun d => bif d then some (.inr (.inr ())) else some (.inl (A.wrp .i64 (A.zadd a 1))) else some (.inr (.inl ()))

def b1j (A:Ar) (c:List D):Int->Option ((Int)⊕((Unit)⊕(Unit))):=fun a => bif (A.zlt a (A.len c)) then (gt A (cL 2) c a).bind fun b => bif (A.zlt 4 (A.len b)) then some (.inr (.inr ())) else (iter (b1i A b) 0).bind (Sum.elim (fun _ => some (.inl (A.wrp .i64 (A.zadd a 1)))) (fun _ => some (.inr (.inr ())))) else some (.inr (.inl ()))

/-- lineal linealref09.Valid -/
def N22 (A:Ar) (a:List D):Option (Bool) := (iter (b1j A a) 0).bind (Sum.elim (fun _ => (( bif (A.zle 1 (A.len a)) then some (A.zle (A.len a) 3) else some false:Option (Bool))).bind fun b => some b) (fun _ => some false))

def b7c (A:Ar) (c:List D):(Int×Int)->Option ((Int×Int)⊕(Int)):=fun (b,a) => bif (A.zlt a (A.len c)) then (gt A (cL 2) c a).bind fun d => some (.inl ((A.wrp .i64 (A.zadd b (A.len d))),(A.wrp .i64 (A.zadd a 1)))) else some (.inr b)

/-- lineal lineallaw09.Few -/
def N5 (A:Ar) (a:List D) (g:Int):Option (Bool) := (( (N21 A a).bind fun b => bif b then some true else (N22 A a).bind fun c => some (!c):Option (Bool))).bind fun e => bif e then some false else (iter (b7c A a) (0,0)).bind (fun d => some (A.zle d g))

/-- lineal delay.between -/
def N72 (A:Ar) (c a d:Int):Option (Bool) := (( bif (A.zle c a) then some (A.zle a d) else some false:Option (Bool))).bind fun b => some b

/-- lineal delay.Valid$1$1 -/
def N76 (A:Ar) (b:Int) (c:Bool):Option (Bool) := (N72 A 0 b 2).bind fun a => some (!a)

def a7v (A:Ar) (b:List D):Int->Option ((Int)⊕((Unit)⊕(Int))):=fun a => bif (A.zlt a (A.len b)) then (gt A (cG (lc (cI .i64) (l1 cB))) b a).bind fun (c,d) => (N76 A c d).bind fun e => bif e then some (.inr (.inr a)) else some (.inl (A.wrp .i64 (A.zadd a 1))) else some (.inr (.inl ()))

/-- slices.IndexFunc   lineal api.Access lineal api.Access  -/
def b9k (A:Ar) (b:List D):Option (Int) := (iter (a7v A b) 0).bind (Sum.elim (fun _ => some (-1)) (fun a => some a))

/-- slices.ContainsFunc   lineal api.Access lineal api.Access  -/
def N75 (A:Ar) (b:List D):Option (Bool) := (b9k A b).bind fun a => some (A.zle 0 a)

/-- lineal delay.Valid$1 -/
def N74 (A:Ar) (a:List D):Option (Bool) := (( bif (A.zlt 4 (A.len a)) then some true else (N75 A a).bind fun b => some b:Option (Bool))).bind fun c => some c

def a7w (A:Ar) (b:List D):Int->Option ((Int)⊕((Unit)⊕(Int))):=fun a => bif (A.zlt a (A.len b)) then (gt A (cL 2) b a).bind fun c => (N74 A c).bind fun d => bif d then some (.inr (.inr a)) else some (.inl (A.wrp .i64 (A.zadd a 1))) else some (.inr (.inl ()))

/-- slices.IndexFunc     lineal api.Access   lineal api.Access  -/
def b9l (A:Ar) (b:List D):Option (Int) := (iter (a7w A b) 0).bind (Sum.elim (fun _ => some (-1)) (fun a => some a))

/-- slices.ContainsFunc     lineal api.Access   lineal api.Access  -/
def N73 (A:Ar) (b:List D):Option (Bool) := (b9l A b).bind fun a => some (A.zle 0 a)

/-- lineal delay.Valid -/
def N39 (A:Ar) (a:List D):Option (Bool) := (( (N72 A 1 (A.len a) 3).bind fun b => bif b then (N73 A a).bind fun c => some (!c) else some false:Option (Bool))).bind fun d => some d

/--  lineal delay.station .in -/
def N85 (A:Ar) (a b c:Int):Option (Int×Int) := some (a,b)

/--  lineal delay.threads .there -/
def b7d (A:Ar) (a:List D) (b i:Int):Option (Bool) := (( (N72 A 0 b (A.wrp .i64 (A.zsub (A.len a) 1))).bind fun e => bif e then (gt A (cL 2) a b).bind fun c => (N72 A 0 i (A.wrp .i64 (A.zsub (A.len c) 1))).bind fun d => some d else some false:Option (Bool))).bind fun g => some g

/--  lineal delay.station .out -/
def N84 (A:Ar) (a c b:Int):Option (Int×Int) := some (a,b)

/--  lineal delay.threads .at -/
def b4N (A:Ar) (d:List D) (e g:Int):Option (Int×Bool) := (gt A (cL 2) d e).bind fun a => (gt A (cG (lc (cI .i64) (l1 cB))) a g).bind fun (b,c) => some (b,c)

/--  lineal delay.threads .isPair -/
def N91 (A:Ar) (c:List D) (d a b:Int):Option (Bool) := (( bif (A.zlt a b) then (N85 A d a b).bind fun (q,r) => (b7d A c q r).bind fun e => bif e then (N84 A d a b).bind fun (g,i) => (b7d A c g i).bind fun j => bif j then (N85 A d a b).bind fun (k,l) => (b4N A c k l).bind fun (m,u) => (N84 A d a b).bind fun (n,o) => (b4N A c n o).bind fun (p,v) => some (!(A.zeq m p)) else some false else some false else some false:Option (Bool))).bind fun s => some s

def a5S (A:Ar) (l:List D) (d:Int) (e:List D) (c:Int):(List D×Int)->Option ((List D×Int)⊕(List D)):=fun (b,a) => bif (A.zlt a (A.len e)) then (( bif (A.zeq c a) then some true else (N91 A l d c a).bind fun i => some i:Option (Bool))).bind fun j => (( bif j then (ap A b [(.agg [(.int .i64 d),(.int .i64 c),(.int .i64 a)])]).bind fun g => some g else some b:Option (List D))).bind fun k => some (.inl (k,(A.wrp .i64 (A.zadd a 1)))) else some (.inr b)

def a5T (A:Ar) (g:List D) (e:Int) (b:List D):(List D×Int)->Option ((List D×Int)⊕(List D)):=fun (c,a) => bif (A.zlt a (A.len b)) then (iter (a5S A g e b a) (c,a)).bind (fun d => some (.inl (d,(A.wrp .i64 (A.zadd a 1))))) else some (.inr c)

def a5U (A:Ar) (b:List D):(List D×Int)->Option ((List D×Int)⊕(List D)):=fun (c,a) => bif (A.zlt a (A.len b)) then (gt A (cL 2) b a).bind fun d => (iter (a5T A b a d) (c,0)).bind (fun e => some (.inl (e,(A.wrp .i64 (A.zadd a 1))))) else some (.inr c)

/--  lineal delay.threads .stations -/
def N80 (A:Ar) (b:List D):Option (List D) := (iter (a5U A b) ([],0)).bind (fun a => some a)

/--  lineal delay.threads .conflict -/
def b3x (A:Ar) (a:List D) (b k c l:Int):Option (Bool) := (b4N A a b k).bind fun (g,i) => (b4N A a c l).bind fun (d,e) => (( bif (A.zeq b c) then some false else bif (A.zeq g d) then bif i then some true else some e else some false:Option (Bool))).bind fun j => some j

/--  lineal delay.threads .isCircle$1 -/
def b5I (A:Ar) (a c d b e g:Int):Option (Bool) := some (A.zeq a b)

def a7x (A:Ar) (b:List D) (i j k:Int):Int->Option ((Int)⊕((Unit)⊕(Int))):=fun a => bif (A.zlt a (A.len b)) then (gt A (cG (lc (cI .i64) (lc (cI .i64) (l1 (cI .i64))))) b a).bind fun (c,d,e) => (b5I A c d e i j k).bind fun g => bif g then some (.inr (.inr a)) else some (.inl (A.wrp .i64 (A.zadd a 1))) else some (.inr (.inl ()))

/-- slices.IndexFunc   lineal delay.station lineal delay.station  -/
def b9m (A:Ar) (b:List D) (c d e:Int):Option (Int) := (iter (a7x A b c d e) 0).bind (Sum.elim (fun _ => some (-1)) (fun a => some a))

/-- slices.ContainsFunc   lineal delay.station lineal delay.station  -/
def b7e (A:Ar) (b:List D) (c d e:Int):Option (Bool) := (b9m A b c d e).bind fun a => some (A.zle 0 a)

def a4V (A:Ar) (i a:List D):(Bool×Int)->Option ((Bool×Int)⊕((Bool)⊕(Int×Int×Int))):=fun (g,b) => bif (A.zlt b (A.len a)) then (gt A (cG (lc (cI .i64) (lc (cI .i64) (l1 (cI .i64))))) a b).bind fun (c,d,e) => (nk (A.zeq (A.len a) 0)).bind fun _ => (gt A (cG (lc (cI .i64) (lc (cI .i64) (l1 (cI .i64))))) a (A.rem (A.wrp .i64 (A.zadd b 1)) (A.len a))).bind fun (j,k,l) => (( (N84 A c d e).bind fun (n,o) => (N85 A j k l).bind fun (p,q) => (b3x A i n o p q).bind fun r => bif r then (sl A a 0 b).bind fun m => (b7e A m c d e).bind fun s => some s else some true:Option (Bool))).bind fun v => bif v then some (.inr (.inr (c,d,e))) else (( bif g then some true else (N91 A i c d e).bind fun u => some u:Option (Bool))).bind fun w => some (.inl (w,(A.wrp .i64 (A.zadd b 1)))) else some (.inr (.inl g))

/--  lineal delay.threads .isCircle -/
def b4O (A:Ar) (b c:List D):Option (Bool) := (iter (a4V A b c) (false,0)).bind (Sum.elim (fun a => some a) (fun (d,e,g) => some false))

def b0o (A:Ar) (a l d:List D) (self22:List D->Int->List D->List D->(Option (Bool×Int))):(Int×Int)->Option ((Int×Int)⊕((Int)⊕(Int))):=fun (b,c) => bif (A.zlt b (A.len d)) then jn (fun (z:Int) => some (.inl ((A.wrp .i64 (A.zadd b 1)),z))) fun e => (gt A (cG (lc (cI .i64) (lc (cI .i64) (l1 (cI .i64))))) d b).bind fun (g,i,j) => (( bif (A.zlt 0 (A.len a)) then (gt A (cG (lc (cI .i64) (lc (cI .i64) (l1 (cI .i64))))) a (A.wrp .i64 (A.zsub (A.len a) 1))).bind fun (m,n,o) => (N84 A m n o).bind fun (s,u) => (N85 A g i j).bind fun (v,w) => (b3x A l s u v w).bind fun y => some (!y) else some false:Option (Bool))).bind fun B => bif B then e c else (sl A a 0 (A.len a)).bind fun p => (ck (A.zeq (A.len a) (A.len a))).bind fun _ => (ap A p [(.agg [(.int .i64 g),(.int .i64 i),(.int .i64 j)])]).bind fun q => (self22 q c l d).bind fun (r,k) => bif r then e k else some (.inr (.inr k)) else some (.inr (.inl c))

/--  lineal delay.threads .circles$1 -/
def b5J (A:Ar) (self22:List D->Int->List D->List D->(Option (Bool×Int))) (a:List D) (b:Int) (d k:List D):Option (Bool×Int) := (( bif (A.zle 2 (A.len a)) then (b4O A d a).bind fun e => bif e then ( some (A.wrp .i64 (A.zadd b 1))).bind (fun j => some j) else some b else some b:Option (Int))).bind fun c => bif (A.zeq (A.len a) 3) then some (true,c) else (iter (b0o A a d k self22) (0,c)).bind (Sum.elim (fun g => some (true,g)) (fun i => some (false,i)))

def b4P (A:Ar):Nat->List D->Int->List D->List D->(Option (Bool×Int)) | 0=>fun _ _ _ _=>none | n+1=>fun a b c d=>b5J A (b4P A n) a b c d

def N81 (A:Ar) (a:List D) (b:Int) (c d:List D):Option (Bool×Int):=b4P A fuel a b c d

/--  lineal delay.threads .circles -/
def N47 (A:Ar) (a:List D) (d:Int):Option (Int) := (N80 A a).bind fun b => (N81 A [] d a b).bind fun (e,c) => some c

/-- lineal delay.Circles -/
def N23 (A:Ar) (a:List D):Option (Int×Int) := (N39 A a).bind fun b => bif b then (N47 A a 0).bind fun c => some (c,0) else some (0,90)

/-- lineal lineallaw09.Awake -/
def N6 (A:Ar):Option (Bool) := (N23 A [(.list 2 [(.agg [(.int .i64 0),(.bool true)]),(.agg [(.int .i64 1),(.bool false)])]),(.list 2 [(.agg [(.int .i64 1),(.bool true)]),(.agg [(.int .i64 0),(.bool false)])])]).bind fun (a,b) => (( bif (A.zeq b 0) then some (A.zeq a 2) else some false:Option (Bool))).bind fun c => some c

def b0p (A:Ar) (e:Int) (c:List D):(List D×Int)->Option ((List D×Int)⊕(List D)):=fun (b,a) => bif (A.zlt a (A.zmax 0 (A.wrp .i64 (A.zsub (A.len c) 1)))) then (ap A b [(.agg [(.int .i64 e),(.int .i64 a)])]).bind fun d => some (.inl (d,(A.wrp .i64 (A.zadd a 1)))) else some (.inr b)

def b0q (A:Ar) (c:List D):(List D×Int)->Option ((List D×Int)⊕(List D)):=fun (b,a) => bif (A.zlt a (A.len c)) then (gt A (cL 2) c a).bind fun d => (iter (b0p A a d) (b,0)).bind (fun e => some (.inl (e,(A.wrp .i64 (A.zadd a 1))))) else some (.inr b)

/--  lineal delay.threads .all -/
def N35 (A:Ar) (b:List D):Option (List D) := (iter (b0q A b) ([],0)).bind (fun a => some a)

def b1k (A:Ar) (b:List D) (e g:Int):Int->Option ((Int)⊕((Unit)⊕(Int))):=fun a => bif (A.zlt a (A.len b)) then (gt A (cG (lc (cI .i64) (l1 (cI .i64)))) b a).bind fun (c,d) => bif (A.deq [(.int .i64 e),(.int .i64 g)] [(.int .i64 c),(.int .i64 d)]) then some (.inr (.inr a)) else some (.inl (A.wrp .i64 (A.zadd a 1))) else some (.inr (.inl ()))

/-- slices.Index   lineal delay.fence lineal delay.fence  -/
def N55 (A:Ar) (b:List D) (c d:Int):Option (Int) := (iter (b1k A b c d) 0).bind (Sum.elim (fun _ => some (-1)) (fun a => some a))

/-- slices.Contains   lineal delay.fence lineal delay.fence  -/
def N28 (A:Ar) (b:List D) (c d:Int):Option (Bool) := (N55 A b c d).bind fun a => some (A.zle 0 a)

/-- cmp.isNaN int  -/
def N71 (A:Ar) (a:Int):Option (Bool) := some (!(A.zeq a a))

/-- cmp.Compare int  -/
def N38 (A:Ar) (a b:Int):Option (Int) := (N71 A a).bind fun d => (N71 A b).bind fun c => bif d then bif c then some 0 else some (-1) else bif c then some 1 else bif (A.zlt a b) then some (-1) else bif (A.zlt b a) then some 1 else some 0

def a8J (A:Ar) (c d:List D):Int->Option ((Int)⊕((Unit)⊕(Int))):=fun a => bif (A.zlt a (A.len c)) then (gt A (cI .i64) c a).bind fun e => bif (A.zle (A.len d) a) then some (.inr (.inr 1)) else (gt A (cI .i64) d a).bind fun g => (N38 A e g).bind fun b => bif (A.zeq b 0) then some (.inl (A.wrp .i64 (A.zadd a 1))) else some (.inr (.inr b)) else some (.inr (.inl ()))

/-- slices.Compare   int int  -/
def N62 (A:Ar) (a b:List D):Option (Int) := (iter (a8J A a b) 0).bind (Sum.elim (fun _ => bif (A.zlt (A.len a) (A.len b)) then some (-1) else some 0) (fun c => some c))

def a8K (A:Ar) (d l:List D):(List D×Int)->Option ((List D×Int)⊕((List D)⊕(Unit))):=fun (e,a) => bif (A.zlt a (A.len d)) then (gt A (cG (lc (cI .i64) (l1 (cI .i64)))) d a).bind fun (b,c) => (( (N28 A l b c).bind fun k => bif k then bif (A.zlt 0 a) then (gt A (cG (lc (cI .i64) (l1 (cI .i64)))) d (A.wrp .i64 (A.zsub a 1))).bind fun (g,i) => (N62 A [(.int .i64 g),(.int .i64 i)] [(.int .i64 b),(.int .i64 c)]).bind fun m => some (A.zle 0 m) else some false else some true:Option (Bool))).bind fun n => bif n then some (.inr (.inr ())) else (ap A e [(.agg [(.int .i64 b),(.int .i64 c)])]).bind fun j => some (.inl (j,(A.wrp .i64 (A.zadd a 1)))) else some (.inr (.inl e))

/--  lineal delay.threads .fences -/
def N48 (A:Ar) (c d:List D):Option (List D×Bool) := (N35 A c).bind fun a => (iter (a8K A d a) ([],0)).bind (Sum.elim (fun b => some (b,true)) (fun _ => some ([],false)))

/-- lineal delay.fenced -/
def N24 (A:Ar) (a e:List D):Option (List D×Int) := (N39 A a).bind fun b => bif b then (N48 A a e).bind fun (c,d) => bif d then some (c,0) else some ([],2) else some ([],90)

def a2G (A:Ar) (c:List D):(Int×List (D×D))->Option ((Int×List (D×D))⊕(List (D×D))):=fun (a,b) => bif (A.zlt a (A.len c)) then (gt A (cG (lc (cI .i64) (lc (cI .i64) (l1 (cI .i64))))) c a).bind fun (d,e,g) => some (.inl ((A.wrp .i64 (A.zadd a 1)),(A.mput b (.agg [(.int .i64 d),(.int .i64 e),(.int .i64 g)]) (.bool true)))) else some (.inr b)

def a4W (A:Ar) (a l d:List D) (self44:List D->(List (D×D))->List D->List D->(Option (Bool×List (D×D)))):(Int×List (D×D))->Option ((Int×List (D×D))⊕((List (D×D))⊕(List (D×D)))):=fun (b,c) => bif (A.zlt b (A.len d)) then jn (fun (B:List (D×D)) => some (.inl ((A.wrp .i64 (A.zadd b 1)),B))) fun e => (gt A (cG (lc (cI .i64) (lc (cI .i64) (l1 (cI .i64))))) d b).bind fun (g,i,j) => (( bif (A.zlt 0 (A.len a)) then (gt A (cG (lc (cI .i64) (lc (cI .i64) (l1 (cI .i64))))) a (A.wrp .i64 (A.zsub (A.len a) 1))).bind fun (m,n,o) => (N84 A m n o).bind fun (u,v) => (N85 A g i j).bind fun (w,y) => (b3x A l u v w y).bind fun r => some (!r) else some false:Option (Bool))).bind fun z => bif z then e c else (sl A a 0 (A.len a)).bind fun p => (ck (A.zeq (A.len a) (A.len a))).bind fun _ => (ap A p [(.agg [(.int .i64 g),(.int .i64 i),(.int .i64 j)])]).bind fun q => (self44 q c l d).bind fun (s,k) => bif s then e k else some (.inr (.inr k)) else some (.inr (.inl c))

/--  lineal delay.threads .circles$1 -/
def a7y (A:Ar) (self44:List D->(List (D×D))->List D->List D->(Option (Bool×List (D×D)))) (a:List D) (b:List (D×D)) (d l:List D):Option (Bool×List (D×D)) := (( bif (A.zle 2 (A.len a)) then (b4O A d a).bind fun e => bif e then ( (iter (a2G A a) (0,b)).bind (fun j => some j)).bind (fun k => some k) else some b else some b:Option (List (D×D)))).bind fun c => bif (A.zeq (A.len a) 3) then some (true,c) else (iter (a4W A a d l self44) (0,c)).bind (Sum.elim (fun g => some (true,g)) (fun i => some (false,i)))

def a5V (A:Ar):Nat->List D->(List (D×D))->List D->List D->(Option (Bool×List (D×D))) | 0=>fun _ _ _ _=>none | n+1=>fun a b c d=>a7y A (a5V A n) a b c d

def b9U (A:Ar) (a:List D) (b:List (D×D)) (c d:List D):Option (Bool×List (D×D)):=a5V A fuel a b c d

/--  lineal delay.threads .circles -/
def b7p (A:Ar) (a:List D) (d:List (D×D)):Option (List (D×D)) := (N80 A a).bind fun b => (b9U A [] d a b).bind fun (e,c) => some c

/--  lineal delay.threads .pairs$1 -/
def b3B (A:Ar) (b c d:Int) (g:List (D×D)) (e:List D):Option (Bool) := (N91 A e b c d).bind fun a => some (!a)

def b4Q (A:Ar) (i b:Int) (j:List (D×D)) (k l:List D):Int->Option ((Int)⊕((Unit)⊕(Int))):=fun a => bif (A.zlt a b) then (ck (A.zle 0 a)).bind fun _ => (ck (A.zlt a b)).bind fun _ => (gc A (cG (lc (cI .i64) (lc (cI .i64) (l1 (cI .i64))))) l (A.nat (A.zadd i a))).bind fun (c,d,e) => (b3B A c d e j k).bind fun g => bif g then some (.inr (.inr a)) else some (.inl (A.wrp .i64 (A.zadd a 1))) else some (.inr (.inl ()))

/-- slices.IndexFunc   lineal delay.station lineal delay.station  -/
def b9V (A:Ar) (b c:Int) (d:List (D×D)) (e g:List D):Option (Int) := (iter (b4Q A b c d e g) 0).bind (Sum.elim (fun _ => some (-1)) (fun a => some a))

def b4R (A:Ar) (d e:Int) (n:List (D×D)) (o:List D):(Int×Int×List D)->Option ((Int×Int×List D)⊕(Int×List D)):=fun (a,b,c) => bif (A.zlt b e) then (ck (A.zle 0 b)).bind fun _ => (ck (A.zlt b e)).bind fun _ => (gc A (cG (lc (cI .i64) (lc (cI .i64) (l1 (cI .i64))))) c (A.nat (A.zadd d b))).bind fun (g,i,j) => (b3B A g i j n o).bind fun k => (( bif k then some (a,c) else (ck (A.zle 0 a)).bind fun _ => (ck (A.zlt a e)).bind fun _ => (gc A (cG (lc (cI .i64) (lc (cI .i64) (l1 (cI .i64))))) c (A.nat (A.zadd d a))).bind fun (p,q,r) => some ((A.wrp .i64 (A.zadd a 1)),(A.lset c (A.nat (A.zadd d a)) (.agg [(.int .i64 g),(.int .i64 i),(.int .i64 j)]))):Option (Int×List D))).bind fun (l,m) => some (.inl (l,(A.wrp .i64 (A.zadd b 1)),m)) else some (.inr (a,c))

/-- slices.DeleteFunc   lineal delay.station lineal delay.station  -/
def b9n (A:Ar) (c b:Int) (i:List (D×D)) (j e:List D):Option (Int×Int×List D) := (b9V A c b i j e).bind fun d => bif (A.zeq d (-1)) then some (c,b,e) else (iter (b4R A c b i j) (d,(A.wrp .i64 (A.zadd d 1)),e)).bind (fun (a,g) => (ck (A.zle 0 a)).bind fun _ => (ck (A.zle a b)).bind fun _ => (ck (A.zle b b)).bind fun _ => (ck (A.zle (A.zadd (A.zadd c a) (A.zsub b a)) (A.len g))).bind fun _ => (ck (A.zle 0 0)).bind fun _ => (ck (A.zle 0 a)).bind fun _ => (ck (A.zle a b)).bind fun _ => some ((A.zadd c 0),(A.zsub a 0),(A.fill g (A.zadd c a) (A.zsub b a) (.agg [(.int .i64 0),(.int .i64 0),(.int .i64 0)]))))

def b1l (A:Ar) (b:List D) (i:List (D×D)) (j:List D):Int->Option ((Int)⊕((Unit)⊕(Int))):=fun a => bif (A.zlt a (A.len b)) then (gt A (cG (lc (cI .i64) (lc (cI .i64) (l1 (cI .i64))))) b a).bind fun (c,d,e) => (b3B A c d e i j).bind fun g => bif g then some (.inr (.inr a)) else some (.inl (A.wrp .i64 (A.zadd a 1))) else some (.inr (.inl ()))

/-- slices.IndexFunc   lineal delay.station lineal delay.station  -/
def b9o (A:Ar) (b:List D) (c:List (D×D)) (d:List D):Option (Int) := (iter (b1l A b c d) 0).bind (Sum.elim (fun _ => some (-1)) (fun a => some a))

def b4S (A:Ar) (b:List D) (j:List (D×D)) (k:List D) (i:Int):Int->Option ((Int)⊕(Unit)):=fun a => bif (A.zlt a (A.len b)) then (gt A (cG (lc (cI .i64) (lc (cI .i64) (l1 (cI .i64))))) b a).bind fun (c,d,e) => (b3B A c d e j k).bind fun g => bif g then some (.inl (A.wrp .i64 (A.zadd a 1))) else (gt A (cG (lc (cI .i64) (lc (cI .i64) (l1 (cI .i64))))) b i).bind fun (l,m,n) => none else some (.inr ())

/-- slices.DeleteFunc   lineal delay.station lineal delay.station  -/
def b9p (A:Ar) (a:List D) (c:List (D×D)) (d:List D):Option (List D) := (b9o A a c d).bind fun b => bif (A.zeq b (-1)) then some a else (iter (b4S A a c d b) (A.wrp .i64 (A.zadd b 1))).bind (fun _ => (sl A a b (A.len a)).bind fun e => none)

/--  lineal delay.threads .pairs -/
def b3C (A:Ar) (b:List D) (c:List (D×D)):Option ((Int×Int×List D)⊕(List D)) := (N80 A b).bind fun a => bif (A.zlt 0 (A.len a)) then (ck (scalars a)).bind fun _ => (b9n A 0 (A.len a) c b a).bind fun (g,i,d) => some (.inl (g,i,d)) else (b9p A a c b).bind fun e => some (.inr e)

/--  lineal delay.threads .needed$1 -/
def N54 (A:Ar) (d e g:Int) (i:List (D×D)):Option (Bool) := (( (lk A cB i (.agg [(.int .i64 d),(.int .i64 e),(.int .i64 g)])).bind fun b=>b.elim ( some true) fun a => some (!a):Option (Bool))).bind fun c => some c

def b4T (A:Ar) (i b:Int) (j:List (D×D)) (k:List D):Int->Option ((Int)⊕((Unit)⊕(Int))):=fun a => bif (A.zlt a b) then (ck (A.zle 0 a)).bind fun _ => (ck (A.zlt a b)).bind fun _ => (gc A (cG (lc (cI .i64) (lc (cI .i64) (l1 (cI .i64))))) k (A.nat (A.zadd i a))).bind fun (c,d,e) => (N54 A c d e j).bind fun g => bif g then some (.inr (.inr a)) else some (.inl (A.wrp .i64 (A.zadd a 1))) else some (.inr (.inl ()))

/-- slices.IndexFunc   lineal delay.station lineal delay.station  -/
def b9W (A:Ar) (b c:Int) (d:List (D×D)) (e:List D):Option (Int) := (iter (b4T A b c d e) 0).bind (Sum.elim (fun _ => some (-1)) (fun a => some a))

def b4U (A:Ar) (d e:Int) (n:List (D×D)):(Int×Int×List D)->Option ((Int×Int×List D)⊕(Int×List D)):=fun (a,b,c) => bif (A.zlt b e) then (ck (A.zle 0 b)).bind fun _ => (ck (A.zlt b e)).bind fun _ => (gc A (cG (lc (cI .i64) (lc (cI .i64) (l1 (cI .i64))))) c (A.nat (A.zadd d b))).bind fun (g,i,j) => (N54 A g i j n).bind fun k => (( bif k then some (a,c) else (ck (A.zle 0 a)).bind fun _ => (ck (A.zlt a e)).bind fun _ => (gc A (cG (lc (cI .i64) (lc (cI .i64) (l1 (cI .i64))))) c (A.nat (A.zadd d a))).bind fun (o,p,q) => some ((A.wrp .i64 (A.zadd a 1)),(A.lset c (A.nat (A.zadd d a)) (.agg [(.int .i64 g),(.int .i64 i),(.int .i64 j)]))):Option (Int×List D))).bind fun (l,m) => some (.inl (l,(A.wrp .i64 (A.zadd b 1)),m)) else some (.inr (a,c))

/-- slices.DeleteFunc   lineal delay.station lineal delay.station  -/
def b9q (A:Ar) (c b:Int) (i:List (D×D)) (e:List D):Option (Int×Int×List D) := (b9W A c b i e).bind fun d => bif (A.zeq d (-1)) then some (c,b,e) else (iter (b4U A c b i) (d,(A.wrp .i64 (A.zadd d 1)),e)).bind (fun (a,g) => (ck (A.zle 0 a)).bind fun _ => (ck (A.zle a b)).bind fun _ => (ck (A.zle b b)).bind fun _ => (ck (A.zle (A.zadd (A.zadd c a) (A.zsub b a)) (A.len g))).bind fun _ => (ck (A.zle 0 0)).bind fun _ => (ck (A.zle 0 a)).bind fun _ => (ck (A.zle a b)).bind fun _ => some ((A.zadd c 0),(A.zsub a 0),(A.fill g (A.zadd c a) (A.zsub b a) (.agg [(.int .i64 0),(.int .i64 0),(.int .i64 0)]))))

def b1m (A:Ar) (b:List D) (i:List (D×D)):Int->Option ((Int)⊕((Unit)⊕(Int))):=fun a => bif (A.zlt a (A.len b)) then (gt A (cG (lc (cI .i64) (lc (cI .i64) (l1 (cI .i64))))) b a).bind fun (c,d,e) => (N54 A c d e i).bind fun g => bif g then some (.inr (.inr a)) else some (.inl (A.wrp .i64 (A.zadd a 1))) else some (.inr (.inl ()))

/-- slices.IndexFunc   lineal delay.station lineal delay.station  -/
def b9r (A:Ar) (b:List D) (c:List (D×D)):Option (Int) := (iter (b1m A b c) 0).bind (Sum.elim (fun _ => some (-1)) (fun a => some a))

def b4V (A:Ar) (b:List D) (j:List (D×D)) (i:Int):Int->Option ((Int)⊕(Unit)):=fun a => bif (A.zlt a (A.len b)) then (gt A (cG (lc (cI .i64) (lc (cI .i64) (l1 (cI .i64))))) b a).bind fun (c,d,e) => (N54 A c d e j).bind fun g => bif g then some (.inl (A.wrp .i64 (A.zadd a 1))) else (gt A (cG (lc (cI .i64) (lc (cI .i64) (l1 (cI .i64))))) b i).bind fun (k,l,m) => none else some (.inr ())

/-- slices.DeleteFunc   lineal delay.station lineal delay.station  -/
def b9s (A:Ar) (a:List D) (c:List (D×D)):Option (List D) := (b9r A a c).bind fun b => bif (A.zeq b (-1)) then some a else (iter (b4V A a c b) (A.wrp .i64 (A.zadd b 1))).bind (fun _ => (sl A a b (A.len a)).bind fun d => none)

/--  lineal delay.threads .needed -/
def N26 (A:Ar) (b:List D):Option (List D) := (b7p A b []).bind fun a => (b3C A b a).bind (Sum.elim (fun (j,k,l) => (b9q A j k a l).bind fun (m,d,e) => (fz A e m d).bind fun c => some c) (fun g => (b9s A g a).bind fun i => some i))

/--  lineal delay.fence .holds -/
def N89 (A:Ar) (c a d e g:Int):Option (Bool) := (( bif (A.zeq c d) then bif (A.zle e a) then some (A.zlt a g) else some false else some false:Option (Bool))).bind fun b => some b

/-- lineal delay.held$1 -/
def N88 (A:Ar) (b c d e g:Int):Option (Bool) := (N89 A b c d e g).bind fun a => some a

def a7z (A:Ar) (b:List D) (g i j:Int):Int->Option ((Int)⊕((Unit)⊕(Int))):=fun a => bif (A.zlt a (A.len b)) then (gt A (cG (lc (cI .i64) (l1 (cI .i64)))) b a).bind fun (c,d) => (N88 A c d g i j).bind fun e => bif e then some (.inr (.inr a)) else some (.inl (A.wrp .i64 (A.zadd a 1))) else some (.inr (.inl ()))

/-- slices.IndexFunc   lineal delay.fence lineal delay.fence  -/
def b9t (A:Ar) (b:List D) (c d e:Int):Option (Int) := (iter (a7z A b c d e) 0).bind (Sum.elim (fun _ => some (-1)) (fun a => some a))

/-- slices.ContainsFunc   lineal delay.fence lineal delay.fence  -/
def N87 (A:Ar) (b:List D) (c d e:Int):Option (Bool) := (b9t A b c d e).bind fun a => some (A.zle 0 a)

/-- lineal delay.held -/
def N51 (A:Ar) (b:List D) (c d e:Int):Option (Bool) := (N87 A b c d e).bind fun a => some a

/-- lineal delay.enough$1 -/
def N50 (A:Ar) (b c d:Int) (e:List D):Option (Bool) := (N51 A e b c d).bind fun a => some (!a)

def a7A (A:Ar) (b i:List D):Int->Option ((Int)⊕((Unit)⊕(Int))):=fun a => bif (A.zlt a (A.len b)) then (gt A (cG (lc (cI .i64) (lc (cI .i64) (l1 (cI .i64))))) b a).bind fun (c,d,e) => (N50 A c d e i).bind fun g => bif g then some (.inr (.inr a)) else some (.inl (A.wrp .i64 (A.zadd a 1))) else some (.inr (.inl ()))

/-- slices.IndexFunc   lineal delay.station lineal delay.station  -/
def b9u (A:Ar) (b c:List D):Option (Int) := (iter (a7A A b c) 0).bind (Sum.elim (fun _ => some (-1)) (fun a => some a))

/-- slices.ContainsFunc   lineal delay.station lineal delay.station  -/
def b9v (A:Ar) (b c:List D):Option (Bool) := (b9u A b c).bind fun a => some (A.zle 0 a)

/-- lineal delay.enough -/
def N25 (A:Ar) (b c:List D):Option (Bool) := (b9v A c b).bind fun a => some (!a)

/-- lineal delay.Enough -/
def N7 (A:Ar) (b i:List D):Option (Bool×Int) := (N24 A b i).bind fun (d,a) => (( bif (A.zeq a 0) then (N26 A b).bind fun e => (N25 A d e).bind fun c => some c else some false:Option (Bool))).bind fun g => some (g,a)

def b0r (A:Ar) (e:Int) (c:List D):(List D×Int)->Option ((List D×Int)⊕(List D)):=fun (b,a) => bif (A.zlt a (A.len c)) then (ap A b [(.agg [(.int .i64 e),(.int .i64 a)])]).bind fun d => some (.inl (d,(A.wrp .i64 (A.zadd a 1)))) else some (.inr b)

def b0s (A:Ar) (c:List D):(List D×Int)->Option ((List D×Int)⊕(List D)):=fun (b,a) => bif (A.zlt a (A.len c)) then (gt A (cL 2) c a).bind fun d => (iter (b0r A a d) (b,0)).bind (fun e => some (.inl (e,(A.wrp .i64 (A.zadd a 1))))) else some (.inr b)

/--  lineal delay.threads .spots -/
def N27 (A:Ar) (b:List D):Option (List D) := (iter (b0s A b) ([],0)).bind (fun a => some a)

def b5K (A:Ar) (l:List D) (q:Int) (c:List D):(Int×List D×Int)->Option ((Int×List D×Int)⊕(Int×List D)):=fun (a,e,b) => bif (A.zlt b (A.len c)) then (gt A (cG (lc (cI .i64) (l1 cB))) c b).bind fun (g,i) => (( bif i then (nk (A.zeq 3 0)).bind fun _ => some ((A.wrp .i64 (A.zadd a 1)),2,(A.wrp .i64 (A.zadd (A.rem a 3) 1))) else some (a,1,0):Option (Int×Int×Int))).bind fun (m,n,o) => (ap A e [(.agg [(.int .i64 n),(.int .i64 g),(.int .i64 o)])]).bind fun d => (N28 A l q b).bind fun k => (( bif k then (ap A d [(.agg [(.int .i64 3),(.int .i64 0),(.int .i64 0)])]).bind fun j => some j else some d:Option (List D))).bind fun p => some (.inl (m,p,(A.wrp .i64 (A.zadd b 1)))) else some (.inr (a,e))

def b7f (A:Ar) (c g:List D):(Int×List D×Int)->Option ((Int×List D×Int)⊕(List D)):=fun (k,b,a) => bif (A.zlt a (A.len c)) then (gt A (cL 2) c a).bind fun d => (iter (b5K A g a d) (k,[],0)).bind (fun (i,j) => (ap A b [(.list 3 j)]).bind fun e => some (.inl (i,e,(A.wrp .i64 (A.zadd a 1))))) else some (.inr b)

/-- lineal delay.Program -/
def N8 (A:Ar) (a j:List D):Option (List D×Int) := (N24 A a j).bind fun (d,b) => (( bif (A.zeq b 0) then (N27 A a).bind fun e => some (A.zlt 8 (A.len e)) else some false:Option (Bool))).bind fun i => (( bif i then some 2 else some b:Option (Int))).bind fun c => bif (A.zeq c 0) then (iter (b7f A a d) (0,[],0)).bind (fun g => some (g,0)) else some ([],c)

/-- lineal memory.between -/
def N97 (A:Ar) (c a d:Int):Option (Bool) := (( bif (A.zle c a) then some (A.zle a d) else some false:Option (Bool))).bind fun b => some b

/-- lineal memory.isAct -/
def N94 (A:Ar) (a b c:Int):Option (Bool) := bif (A.zeq a 1) then (( (N97 A 0 b 2).bind fun g => bif g then some (A.zeq c 0) else some false:Option (Bool))).bind fun j => some j else bif (A.zeq a 2) then (( (N97 A 0 b 2).bind fun d => bif d then (N97 A 0 c 3).bind fun e => some e else some false:Option (Bool))).bind fun i => some i else some (A.deq [(.int .i64 a),(.int .i64 b),(.int .i64 c)] [(.int .i64 3),(.int .i64 0),(.int .i64 0)])

/-- lineal memory.Valid$1 -/
def N93 (A:Ar) (b c d:Int):Option (Bool) := (N94 A b c d).bind fun a => some (!a)

def a9C (A:Ar) (b:List D):Int->Option ((Int)⊕((Unit)⊕(Int))):=fun a => bif (A.zlt a (A.len b)) then (gt A (cG (lc (cI .i64) (lc (cI .i64) (l1 (cI .i64))))) b a).bind fun (c,d,e) => (N93 A c d e).bind fun g => bif g then some (.inr (.inr a)) else some (.inl (A.wrp .i64 (A.zadd a 1))) else some (.inr (.inl ()))

/-- slices.IndexFunc   lineal api.Act lineal api.Act  -/
def b7q (A:Ar) (b:List D):Option (Int) := (iter (a9C A b) 0).bind (Sum.elim (fun _ => some (-1)) (fun a => some a))

/-- slices.ContainsFunc   lineal api.Act lineal api.Act  -/
def N92 (A:Ar) (b:List D):Option (Bool) := (b7q A b).bind fun a => some (A.zle 0 a)

/-- lineal memory.works -/
def N96 (A:Ar) (a b c:Int):Option (Bool) := some (!(A.zeq a 3))

def b1n (A:Ar) (c:List D):(Int×Int)->Option ((Int×Int)⊕(Int)):=fun (a,b) => bif (A.zlt b (A.len c)) then (gt A (cG (lc (cI .i64) (lc (cI .i64) (l1 (cI .i64))))) c b).bind fun (d,e,g) => (N96 A d e g).bind fun i => (( bif i then some (A.wrp .i64 (A.zadd a 1)) else some a:Option (Int))).bind fun j => some (.inl (j,(A.wrp .i64 (A.zadd b 1)))) else some (.inr a)

/-- lineal memory.count -/
def N95 (A:Ar) (b:List D):Option (Int) := (iter (b1n A b) (0,0)).bind (fun a => some a)

def b0t (A:Ar) (d:List D):(Int×Int)->Option ((Int×Int)⊕((Int)⊕(Unit))):=fun (c,b) => bif (A.zlt b (A.len d)) then (gt A (cL 3) d b).bind fun a => (( bif (A.zlt 7 (A.len a)) then some true else (N92 A a).bind fun e => bif e then some true else (N95 A a).bind fun g => some (A.zlt 4 g):Option (Bool))).bind fun j => bif j then some (.inr (.inr ())) else (N95 A a).bind fun i => some (.inl ((A.wrp .i64 (A.zadd c i)),(A.wrp .i64 (A.zadd b 1)))) else some (.inr (.inl c))

/-- lineal memory.Valid -/
def N56 (A:Ar) (a:List D):Option (Bool) := (iter (b0t A a) (0,0)).bind (Sum.elim (fun c => (( (N97 A 1 (A.len a) 3).bind fun b => bif b then some (A.zle c 8) else some false:Option (Bool))).bind fun d => some d) (fun _ => some false))

/-- lineal memory.kindOf -/
def N57 (A:Ar) (a:Int):Option (Int) := bif (A.zeq a 1) then some (Int.ofNat 151) else bif (A.zeq a 2) then some (Int.ofNat 152) else bif (A.zeq a 3) then some (Int.ofNat 153) else some (-1)

def b1o (A:Ar) (d:List D):(List D×Int)->Option ((List D×Int)⊕((List D)⊕(Unit))):=fun (c,a) => bif (A.zlt a (A.len d)) then (gt A (cI .i64) d a).bind fun e => (N57 A e).bind fun b => bif (A.zlt b 0) then some (.inr (.inr ())) else (ap A c [(.iface b)]).bind fun g => some (.inl (g,(A.wrp .i64 (A.zadd a 1)))) else some (.inr (.inl c))

/-- lineal memory.checked -/
def N29 (A:Ar) (c d:List D):Option (List D×Int) := (N56 A c).bind fun a => bif a then (iter (b1o A d) ([],0)).bind (Sum.elim (fun b => some (b,0)) (fun _ => some ([],2))) else some ([],40)

def b1p (A:Ar) (c d:List D):Int->Option ((Int)⊕((Unit)⊕(Unit))):=fun a => bif (A.zlt a (A.len d)) then (( (ck (A.zle 0 a)).bind fun _ => (ck (A.zlt a (Int.ofNat 3))).bind fun _ => (gc A (cI .u8) c (A.nat (A.zadd 0 (A.zmul a (Int.ofNat 1))))).bind fun e => (gt A (cL 3) d a).bind fun b => (nk (A.zlt (A.len b) 0)).bind fun _ => bif (A.zeq e (A.wrp .u8 (A.zsub (A.shl .u8 1 (A.len b)) 1))) then (ck (A.zle 0 a)).bind fun _ => (ck (A.zlt a (Int.ofNat 3))).bind fun _ => (gc A (cI .i64) c (A.nat (A.zadd (A.zadd 0 (A.zmul a (Int.ofNat 1))) (Int.ofNat 38)))).bind fun g => some (A.zlt 0 g) else some true:Option (Bool))).bind fun i => bif i then some (.inr (.inr ())) else some (.inl (A.wrp .i64 (A.zadd a 1))) else some (.inr (.inl ()))

/--  lineal memory.state .over -/
def N58 (A:Ar) (a b:List D):Option (Bool) := (ck (A.zeq (A.len a) (Int.ofNat 41))).bind fun _ => (iter (b1p A a b) 0).bind (Sum.elim (fun _ => some true) (fun _ => some false))

/-- lineal memory.loads -/
def N98 (A:Ar) (a b c:Int):Option (Bool) := some (A.zeq a 1)

def a7B (A:Ar) (c:List D):(Int×Int)->Option ((Int×Int)⊕(Int)):=fun (a,b) => bif (A.zlt b (A.len c)) then (gt A (cG (lc (cI .i64) (lc (cI .i64) (l1 (cI .i64))))) c b).bind fun (d,e,g) => (N98 A d e g).bind fun i => (( bif i then some (A.wrp .i64 (A.zadd a 1)) else some a:Option (Int))).bind fun j => some (.inl (j,(A.wrp .i64 (A.zadd b 1)))) else some (.inr a)

/-- lineal memory.count -/
def b5L (A:Ar) (b:List D):Option (Int) := (iter (a7B A b) (0,0)).bind (fun a => some a)

/-- slices.Clone   int8 int8  -/
def N99 (A:Ar) (a b:Int) (c:List D):Option (List D) := (ck (A.zle (A.zadd a b) (A.len c))).bind fun _ => (ap A [] (A.sub c a (A.zadd a b))).bind fun d => some d

def b1q (A:Ar) (c:List D):(Int×Int)->Option ((Int×Int)⊕(Int)):=fun (b,a) => bif (A.zlt a (A.len c)) then (gt A (cL 3) c a).bind fun d => (b5L A d).bind fun e => some (.inl ((A.wrp .i64 (A.zadd b e)),(A.wrp .i64 (A.zadd a 1)))) else some (.inr b)

def b1r (A:Ar) (b:List D):(List D×Int)->Option ((List D×Int)⊕(List D)):=fun (c,a) => bif (A.zlt a (A.len b)) then (gt A (cI .i8) b a).bind fun d => (ap A c [(.int .i64 (A.wrp .i64 d))]).bind fun e => some (.inl (e,(A.wrp .i64 (A.zadd a 1)))) else some (.inr c)

/--  lineal memory.state .outcome -/
def N59 (A:Ar) (a g:List D):Option (List D) := (ck (A.zeq (A.len a) (Int.ofNat 41))).bind fun _ => (iter (b1q A g) (0,0)).bind (fun b => (ck (A.zle 0 0)).bind fun _ => (ck (A.zle 0 b)).bind fun _ => (ck (A.zle b (Int.ofNat 8))).bind fun _ => (ck (A.zle 0 (A.zadd 0 (Int.ofNat 3)))).bind fun _ => (N99 A (A.zadd (A.zadd 0 (Int.ofNat 3)) 0) (A.zsub b 0) a).bind fun d => (ck (A.zle 0 0)).bind fun _ => (ck (A.zle 0 (Int.ofNat 3))).bind fun _ => (ck (A.zle (Int.ofNat 3) (Int.ofNat 3))).bind fun _ => (ck (A.zle 0 (A.zadd 0 (Int.ofNat 11)))).bind fun _ => (ck (A.zle (A.zadd (A.zadd (A.zadd 0 (Int.ofNat 11)) 0) (A.zsub (Int.ofNat 3) 0)) (A.len a))).bind fun _ => (ap A d (A.sub a (A.zadd (A.zadd 0 (Int.ofNat 11)) 0) (A.zadd (A.zadd (A.zadd 0 (Int.ofNat 11)) 0) (A.zsub (Int.ofNat 3) 0)))).bind fun c => (iter (b1r A c) ([],0)).bind (fun e => some e))

def a9D (A:Ar) (d:List D) (b:Int):Int->Option ((Int)⊕(Int)):=fun a => (ck (A.zle 0 b)).bind fun _ => (ck (A.zlt b (Int.ofNat 3))).bind fun _ => (gc A (cI .u8) d (A.nat (A.zadd 0 (A.zmul b (Int.ofNat 1))))).bind fun c => (nk (A.zlt a 0)).bind fun _ => bif (A.zeq (A.bits .and .u8 (A.shr .u8 c a) 1) 1) then some (.inl (A.wrp .i64 (A.zadd a 1))) else some (.inr a)

/--  lineal memory.state .next -/
def b7g (A:Ar) (a:List D) (c:Int):Option (Int) := (ck (A.zeq (A.len a) (Int.ofNat 41))).bind fun _ => (iter (a9D A a c) 0).bind (fun b => some b)

def a7C (A:Ar) (b:List D):(Int×Int)->Option ((Int×Int)⊕(Int)):=fun (c,a) => bif (A.zlt a (A.len b)) then (gt A (cL 3) b a).bind fun d => (b5L A d).bind fun e => some (.inl ((A.wrp .i64 (A.zadd c e)),(A.wrp .i64 (A.zadd a 1)))) else some (.inr c)

/-- lineal memory.number -/
def b7h (A:Ar) (a:List D) (b j:Int):Option (Int) := (gt A (cL 3) a b).bind fun c => (sl A c 0 j).bind fun e => (b5L A e).bind fun g => (sl A a 0 b).bind fun d => (iter (a7C A d) (g,0)).bind (fun i => some i)

/--  lineal memory.state .does -/
def b4W (A:Ar) (b k:List D) (a c:Int):Option (List D) := (ck (A.zeq (A.len b) (Int.ofNat 41))).bind fun _ => (ck (A.zle 0 a)).bind fun _ => (ck (A.zlt a (Int.ofNat 3))).bind fun _ => (gc A (cI .u8) b (A.nat (A.zadd 0 (A.zmul a (Int.ofNat 1))))).bind fun e => (nk (A.zlt c 0)).bind fun _ => (ck (A.zle 0 a)).bind fun _ => (ck (A.zlt a (Int.ofNat 3))).bind fun _ => (A.lget b (A.nat (A.zadd 0 (A.zmul a (Int.ofNat 1))))).bind fun q => (gt A (cL 3) k a).bind fun l => (gt A (cG (lc (cI .i64) (lc (cI .i64) (l1 (cI .i64))))) l c).bind fun (j,d,m) => (( bif (A.zeq j 1) then (b7h A k a c).bind fun i => (ck (A.zle 0 d)).bind fun _ => (ck (A.zlt d (Int.ofNat 3))).bind fun _ => (gc A (cI .i8) (A.lset b (A.nat (A.zadd 0 (A.zmul a (Int.ofNat 1)))) (.int .u8 (A.bits .or .u8 e (A.shl .u8 1 c)))) (A.nat (A.zadd (A.zadd 0 (A.zmul d (Int.ofNat 1))) (Int.ofNat 11)))).bind fun n => (ck (A.zle 0 i)).bind fun _ => (ck (A.zlt i (Int.ofNat 8))).bind fun _ => (A.lget (A.lset b (A.nat (A.zadd 0 (A.zmul a (Int.ofNat 1)))) (.int .u8 (A.bits .or .u8 e (A.shl .u8 1 c)))) (A.nat (A.zadd (A.zadd 0 (A.zmul i (Int.ofNat 1))) (Int.ofNat 3)))).bind fun r => some (A.lset (A.lset b (A.nat (A.zadd 0 (A.zmul a (Int.ofNat 1)))) (.int .u8 (A.bits .or .u8 e (A.shl .u8 1 c)))) (A.nat (A.zadd (A.zadd 0 (A.zmul i (Int.ofNat 1))) (Int.ofNat 3))) (.int .i8 n)) else (( bif (A.zeq j 2) then (ck (A.zle 0 d)).bind fun _ => (ck (A.zlt d (Int.ofNat 3))).bind fun _ => (A.lget (A.lset b (A.nat (A.zadd 0 (A.zmul a (Int.ofNat 1)))) (.int .u8 (A.bits .or .u8 e (A.shl .u8 1 c)))) (A.nat (A.zadd (A.zadd 0 (A.zmul d (Int.ofNat 1))) (Int.ofNat 11)))).bind fun s => some (A.lset (A.lset b (A.nat (A.zadd 0 (A.zmul a (Int.ofNat 1)))) (.int .u8 (A.bits .or .u8 e (A.shl .u8 1 c)))) (A.nat (A.zadd (A.zadd 0 (A.zmul d (Int.ofNat 1))) (Int.ofNat 11))) (.int .i8 (A.wrp .i8 m))) else some (A.lset b (A.nat (A.zadd 0 (A.zmul a (Int.ofNat 1)))) (.int .u8 (A.bits .or .u8 e (A.shl .u8 1 c)))):Option (List D))).bind fun o => some o:Option (List D))).bind fun p => (ga A p (A.zadd 0 (Int.ofNat 0)) (Int.ofNat 41)).bind fun g => (ck (A.zeq (A.len g) (Int.ofNat 41))).bind fun _ => (ck (A.zle (A.zadd (A.zadd 0 (Int.ofNat 0)) (Int.ofNat 41)) (A.len ((.int .u8 0)::(.int .u8 0)::(.int .u8 0)::(.int .i8 0)::(.int .i8 0)::(.int .i8 0)::(.int .i8 0)::(.int .i8 0)::(.int .i8 0)::(.int .i8 0)::(.int .i8 0)::(.int .i8 0)::(.int .i8 0)::(.int .i8 0)::(.int .i8 0)::(.int .i8 0)::(.int .i8 0)::(.int .i8 0)::(.int .i8 0)::(.int .i8 0)::(.int .i8 0)::(.int .i8 0)::(.int .i8 0)::(.int .i8 0)::(.int .i8 0)::(.int .i8 0)::(.int .i8 0)::(.int .i8 0)::(.int .i8 0)::(.int .i8 0)::(.int .i8 0)::(.int .i8 0)::(.int .i8 0)::(.int .i8 0)::(.int .i8 0)::(.int .i8 0)::(.int .i8 0)::(.int .i8 0)::(.int .i64 0)::(.int .i64 0)::(.int .i64 0)::[])))).bind fun _ => (ck (A.zeq (A.len (A.spl ((.int .u8 0)::(.int .u8 0)::(.int .u8 0)::(.int .i8 0)::(.int .i8 0)::(.int .i8 0)::(.int .i8 0)::(.int .i8 0)::(.int .i8 0)::(.int .i8 0)::(.int .i8 0)::(.int .i8 0)::(.int .i8 0)::(.int .i8 0)::(.int .i8 0)::(.int .i8 0)::(.int .i8 0)::(.int .i8 0)::(.int .i8 0)::(.int .i8 0)::(.int .i8 0)::(.int .i8 0)::(.int .i8 0)::(.int .i8 0)::(.int .i8 0)::(.int .i8 0)::(.int .i8 0)::(.int .i8 0)::(.int .i8 0)::(.int .i8 0)::(.int .i8 0)::(.int .i8 0)::(.int .i8 0)::(.int .i8 0)::(.int .i8 0)::(.int .i8 0)::(.int .i8 0)::(.int .i8 0)::(.int .i64 0)::(.int .i64 0)::(.int .i64 0)::[]) (A.zadd 0 (Int.ofNat 0)) g)) (Int.ofNat 41))).bind fun _ => (ck (A.ones (A.spl ((.int .u8 0)::(.int .u8 0)::(.int .u8 0)::(.int .i8 0)::(.int .i8 0)::(.int .i8 0)::(.int .i8 0)::(.int .i8 0)::(.int .i8 0)::(.int .i8 0)::(.int .i8 0)::(.int .i8 0)::(.int .i8 0)::(.int .i8 0)::(.int .i8 0)::(.int .i8 0)::(.int .i8 0)::(.int .i8 0)::(.int .i8 0)::(.int .i8 0)::(.int .i8 0)::(.int .i8 0)::(.int .i8 0)::(.int .i8 0)::(.int .i8 0)::(.int .i8 0)::(.int .i8 0)::(.int .i8 0)::(.int .i8 0)::(.int .i8 0)::(.int .i8 0)::(.int .i8 0)::(.int .i8 0)::(.int .i8 0)::(.int .i8 0)::(.int .i8 0)::(.int .i8 0)::(.int .i8 0)::(.int .i64 0)::(.int .i64 0)::(.int .i64 0)::[]) (A.zadd 0 (Int.ofNat 0)) g))).bind fun _ => some (A.spl ((.int .u8 0)::(.int .u8 0)::(.int .u8 0)::(.int .i8 0)::(.int .i8 0)::(.int .i8 0)::(.int .i8 0)::(.int .i8 0)::(.int .i8 0)::(.int .i8 0)::(.int .i8 0)::(.int .i8 0)::(.int .i8 0)::(.int .i8 0)::(.int .i8 0)::(.int .i8 0)::(.int .i8 0)::(.int .i8 0)::(.int .i8 0)::(.int .i8 0)::(.int .i8 0)::(.int .i8 0)::(.int .i8 0)::(.int .i8 0)::(.int .i8 0)::(.int .i8 0)::(.int .i8 0)::(.int .i8 0)::(.int .i8 0)::(.int .i8 0)::(.int .i8 0)::(.int .i8 0)::(.int .i8 0)::(.int .i8 0)::(.int .i8 0)::(.int .i8 0)::(.int .i8 0)::(.int .i8 0)::(.int .i64 0)::(.int .i64 0)::(.int .i64 0)::[]) (A.zadd 0 (Int.ofNat 0)) g)

/-- lineal memory.outcomes$1 -/
def N60 (A:Ar) (b:List D) (c:List (D×D)) (m e:List D):Option (List (D×D)×List D) := (ck (A.zeq (A.len b) (Int.ofNat 41))).bind fun _ => (( (ga A b (A.zadd 0 (Int.ofNat 0)) (Int.ofNat 41)).bind fun d => (ck (A.conf (.int .u8 :: .int .u8 :: .int .u8 :: .int .i8 :: .int .i8 :: .int .i8 :: .int .i8 :: .int .i8 :: .int .i8 :: .int .i8 :: .int .i8 :: .int .i8 :: .int .i8 :: .int .i8 :: .int .i8 :: .int .i8 :: .int .i8 :: .int .i8 :: .int .i8 :: .int .i8 :: .int .i8 :: .int .i8 :: .int .i8 :: .int .i8 :: .int .i8 :: .int .i8 :: .int .i8 :: .int .i8 :: .int .i8 :: .int .i8 :: .int .i8 :: .int .i8 :: .int .i8 :: .int .i8 :: .int .i8 :: .int .i8 :: .int .i8 :: .int .i8 :: .int .i64 :: .int .i64 :: .int .i64::[]) d)).bind fun _ => (lk A cU c (.agg d)).bind fun i=>i.elim ( some false) fun () => some true:Option (Bool))).bind fun j => (( bif j then some (c,e) else (ga A b (A.zadd 0 (Int.ofNat 0)) (Int.ofNat 41)).bind fun a => (ck (A.conf (.int .u8 :: .int .u8 :: .int .u8 :: .int .i8 :: .int .i8 :: .int .i8 :: .int .i8 :: .int .i8 :: .int .i8 :: .int .i8 :: .int .i8 :: .int .i8 :: .int .i8 :: .int .i8 :: .int .i8 :: .int .i8 :: .int .i8 :: .int .i8 :: .int .i8 :: .int .i8 :: .int .i8 :: .int .i8 :: .int .i8 :: .int .i8 :: .int .i8 :: .int .i8 :: .int .i8 :: .int .i8 :: .int .i8 :: .int .i8 :: .int .i8 :: .int .i8 :: .int .i8 :: .int .i8 :: .int .i8 :: .int .i8 :: .int .i8 :: .int .i8 :: .int .i64 :: .int .i64 :: .int .i64::[]) a)).bind fun _ => (ck (A.zeq (A.len a) (Int.ofNat 41))).bind fun _ => (ap A e [(.agg a)]).bind fun g => some ((A.mput c (.agg a) (.agg [])),g):Option (List (D×D)×List D))).bind fun (k,l) => some (k,l)

def a7D (A:Ar) (d i:List D):(Int×List (D×D)×List D)->Option ((Int×List (D×D)×List D)⊕(List (D×D)×List D)):=fun (a,b,c) => bif (A.zlt a (A.len d)) then (ga A i (A.zadd 0 (Int.ofNat 0)) (Int.ofNat 41)).bind fun e => (b7g A e a).bind fun g => (gt A (cL 3) d a).bind fun j => (( bif (A.zlt g (A.len j)) then (b4W A e d a g).bind fun k => (N60 A k b i c).bind fun (l,m) => some (l,m) else some (b,c):Option (List (D×D)×List D))).bind fun (n,o) => some (.inl ((A.wrp .i64 (A.zadd a 1)),n,o)) else some (.inr (b,c))

/--  lineal memory.strict .steps -/
def b7r (A:Ar) (d a:List D) (e:List (D×D)) (g:List D):Option (List (D×D)×List D) := (ck (A.zeq (A.len a) (Int.ofNat 41))).bind fun _ => (iter (a7D A d a) (0,e,g)).bind (fun (b,c) => some (b,c))

/--  lineal memory.state .out -/
def b7s (A:Ar) (c:List D) (a:Int):Option (List D) := (ck (A.zeq (A.len c) (Int.ofNat 41))).bind fun _ => (ck (A.zle 0 a)).bind fun _ => (ck (A.zlt a (Int.ofNat 3))).bind fun _ => (gd A (lc (cI .i8) (l1 (cI .i8))) c (A.zadd (A.zadd 0 (A.zmul a (Int.ofNat 8))) (Int.ofNat 14)) (Int.ofNat 2)).bind fun (b,d) => (ck (A.zle 0 b)).bind fun _ => (ck (A.zlt b (Int.ofNat 3))).bind fun _ => (A.lget c (A.nat (A.zadd (A.zadd 0 (A.zmul b (Int.ofNat 1))) (Int.ofNat 11)))).bind fun j => (ck (A.zle 0 a)).bind fun _ => (ck (A.zlt a (Int.ofNat 3))).bind fun _ => (ck (A.zle 0 0)).bind fun _ => (ck (A.zle 0 (Int.ofNat 4))).bind fun _ => (ck (A.zle (Int.ofNat 4) (Int.ofNat 4))).bind fun _ => (ck (A.zle 0 (A.zadd (A.zadd 0 (A.zmul a (Int.ofNat 8))) (Int.ofNat 14)))).bind fun _ => (ck (A.zle 0 (A.quo .i64 (A.zadd (A.zadd 0 (A.zmul a (Int.ofNat 8))) (Int.ofNat 14)) (Int.ofNat 2)))).bind fun _ => (ck (A.zeq (A.zmul (A.quo .i64 (A.zadd (A.zadd 0 (A.zmul a (Int.ofNat 8))) (Int.ofNat 14)) (Int.ofNat 2)) (Int.ofNat 2)) (A.zadd (A.zadd 0 (A.zmul a (Int.ofNat 8))) (Int.ofNat 14)))).bind fun _ => (ck (A.zle 0 a)).bind fun _ => (ck (A.zlt a (Int.ofNat 3))).bind fun _ => (ck (A.zle 0 1)).bind fun _ => (ck (A.zle 1 (Int.ofNat 4))).bind fun _ => (ck (A.zle (Int.ofNat 4) (Int.ofNat 4))).bind fun _ => (ck (A.zle 0 (A.zadd (A.zadd 0 (A.zmul a (Int.ofNat 8))) (Int.ofNat 14)))).bind fun _ => (ck (A.zle 0 (A.quo .i64 (A.zadd (A.zadd 0 (A.zmul a (Int.ofNat 8))) (Int.ofNat 14)) (Int.ofNat 2)))).bind fun _ => (ck (A.zeq (A.zmul (A.quo .i64 (A.zadd (A.zadd 0 (A.zmul a (Int.ofNat 8))) (Int.ofNat 14)) (Int.ofNat 2)) (Int.ofNat 2)) (A.zadd (A.zadd 0 (A.zmul a (Int.ofNat 8))) (Int.ofNat 14)))).bind fun _ => (ck (A.zle (A.zsub (Int.ofNat 4) 1) (A.zsub (Int.ofNat 4) 0))).bind fun _ => (ck (A.zle (A.zmul (A.zadd (A.zadd (A.quo .i64 (A.zadd (A.zadd 0 (A.zmul a (Int.ofNat 8))) (Int.ofNat 14)) (Int.ofNat 2)) 0) (A.zsub (Int.ofNat 4) 0)) (Int.ofNat 2)) (A.len (A.lset c (A.nat (A.zadd (A.zadd 0 (A.zmul b (Int.ofNat 1))) (Int.ofNat 11))) (.int .i8 d))))).bind fun _ => (ck (A.zle (A.zmul (A.zadd (A.zadd (A.quo .i64 (A.zadd (A.zadd 0 (A.zmul a (Int.ofNat 8))) (Int.ofNat 14)) (Int.ofNat 2)) 1) (A.zsub (Int.ofNat 4) 1)) (Int.ofNat 2)) (A.len (A.lset c (A.nat (A.zadd (A.zadd 0 (A.zmul b (Int.ofNat 1))) (Int.ofNat 11))) (.int .i8 d))))).bind fun _ => (ck (A.zle 0 a)).bind fun _ => (ck (A.zlt a (Int.ofNat 3))).bind fun _ => (gc A (cI .i64) (A.spl (A.lset c (A.nat (A.zadd (A.zadd 0 (A.zmul b (Int.ofNat 1))) (Int.ofNat 11))) (.int .i8 d)) (A.zmul (A.zadd (A.quo .i64 (A.zadd (A.zadd 0 (A.zmul a (Int.ofNat 8))) (Int.ofNat 14)) (Int.ofNat 2)) 0) (Int.ofNat 2)) (A.sub (A.lset c (A.nat (A.zadd (A.zadd 0 (A.zmul b (Int.ofNat 1))) (Int.ofNat 11))) (.int .i8 d)) (A.zmul (A.zadd (A.quo .i64 (A.zadd (A.zadd 0 (A.zmul a (Int.ofNat 8))) (Int.ofNat 14)) (Int.ofNat 2)) 1) (Int.ofNat 2)) (A.zmul (A.zadd (A.zadd (A.quo .i64 (A.zadd (A.zadd 0 (A.zmul a (Int.ofNat 8))) (Int.ofNat 14)) (Int.ofNat 2)) 1) (A.zsub (Int.ofNat 4) 1)) (Int.ofNat 2)))) (A.nat (A.zadd (A.zadd 0 (A.zmul a (Int.ofNat 1))) (Int.ofNat 38)))).bind fun i => (ck (A.zle 0 a)).bind fun _ => (ck (A.zlt a (Int.ofNat 3))).bind fun _ => (A.lget (A.spl (A.lset c (A.nat (A.zadd (A.zadd 0 (A.zmul b (Int.ofNat 1))) (Int.ofNat 11))) (.int .i8 d)) (A.zmul (A.zadd (A.quo .i64 (A.zadd (A.zadd 0 (A.zmul a (Int.ofNat 8))) (Int.ofNat 14)) (Int.ofNat 2)) 0) (Int.ofNat 2)) (A.sub (A.lset c (A.nat (A.zadd (A.zadd 0 (A.zmul b (Int.ofNat 1))) (Int.ofNat 11))) (.int .i8 d)) (A.zmul (A.zadd (A.quo .i64 (A.zadd (A.zadd 0 (A.zmul a (Int.ofNat 8))) (Int.ofNat 14)) (Int.ofNat 2)) 1) (Int.ofNat 2)) (A.zmul (A.zadd (A.zadd (A.quo .i64 (A.zadd (A.zadd 0 (A.zmul a (Int.ofNat 8))) (Int.ofNat 14)) (Int.ofNat 2)) 1) (A.zsub (Int.ofNat 4) 1)) (Int.ofNat 2)))) (A.nat (A.zadd (A.zadd 0 (A.zmul a (Int.ofNat 1))) (Int.ofNat 38)))).bind fun k => (ck (A.zle 0 a)).bind fun _ => (ck (A.zlt a (Int.ofNat 3))).bind fun _ => (gc A (cI .i64) (A.lset (A.spl (A.lset c (A.nat (A.zadd (A.zadd 0 (A.zmul b (Int.ofNat 1))) (Int.ofNat 11))) (.int .i8 d)) (A.zmul (A.zadd (A.quo .i64 (A.zadd (A.zadd 0 (A.zmul a (Int.ofNat 8))) (Int.ofNat 14)) (Int.ofNat 2)) 0) (Int.ofNat 2)) (A.sub (A.lset c (A.nat (A.zadd (A.zadd 0 (A.zmul b (Int.ofNat 1))) (Int.ofNat 11))) (.int .i8 d)) (A.zmul (A.zadd (A.quo .i64 (A.zadd (A.zadd 0 (A.zmul a (Int.ofNat 8))) (Int.ofNat 14)) (Int.ofNat 2)) 1) (Int.ofNat 2)) (A.zmul (A.zadd (A.zadd (A.quo .i64 (A.zadd (A.zadd 0 (A.zmul a (Int.ofNat 8))) (Int.ofNat 14)) (Int.ofNat 2)) 1) (A.zsub (Int.ofNat 4) 1)) (Int.ofNat 2)))) (A.nat (A.zadd (A.zadd 0 (A.zmul a (Int.ofNat 1))) (Int.ofNat 38))) (.int .i64 (A.wrp .i64 (A.zsub i 1)))) (A.nat (A.zadd (A.zadd 0 (A.zmul a (Int.ofNat 1))) (Int.ofNat 38)))).bind fun e => (ck (A.zle 0 a)).bind fun _ => (ck (A.zlt a (Int.ofNat 3))).bind fun _ => (ck (A.zle 0 e)).bind fun _ => (ck (A.zlt e (Int.ofNat 4))).bind fun _ => (ck (A.zle (A.zadd (A.zadd (A.zadd (A.zadd 0 (A.zmul a (Int.ofNat 8))) (A.zmul e (Int.ofNat 2))) (Int.ofNat 14)) (Int.ofNat 2)) (A.len (A.lset (A.spl (A.lset c (A.nat (A.zadd (A.zadd 0 (A.zmul b (Int.ofNat 1))) (Int.ofNat 11))) (.int .i8 d)) (A.zmul (A.zadd (A.quo .i64 (A.zadd (A.zadd 0 (A.zmul a (Int.ofNat 8))) (Int.ofNat 14)) (Int.ofNat 2)) 0) (Int.ofNat 2)) (A.sub (A.lset c (A.nat (A.zadd (A.zadd 0 (A.zmul b (Int.ofNat 1))) (Int.ofNat 11))) (.int .i8 d)) (A.zmul (A.zadd (A.quo .i64 (A.zadd (A.zadd 0 (A.zmul a (Int.ofNat 8))) (Int.ofNat 14)) (Int.ofNat 2)) 1) (Int.ofNat 2)) (A.zmul (A.zadd (A.zadd (A.quo .i64 (A.zadd (A.zadd 0 (A.zmul a (Int.ofNat 8))) (Int.ofNat 14)) (Int.ofNat 2)) 1) (A.zsub (Int.ofNat 4) 1)) (Int.ofNat 2)))) (A.nat (A.zadd (A.zadd 0 (A.zmul a (Int.ofNat 1))) (Int.ofNat 38))) (.int .i64 (A.wrp .i64 (A.zsub i 1))))))).bind fun _ => (ga A (A.spl (A.lset (A.spl (A.lset c (A.nat (A.zadd (A.zadd 0 (A.zmul b (Int.ofNat 1))) (Int.ofNat 11))) (.int .i8 d)) (A.zmul (A.zadd (A.quo .i64 (A.zadd (A.zadd 0 (A.zmul a (Int.ofNat 8))) (Int.ofNat 14)) (Int.ofNat 2)) 0) (Int.ofNat 2)) (A.sub (A.lset c (A.nat (A.zadd (A.zadd 0 (A.zmul b (Int.ofNat 1))) (Int.ofNat 11))) (.int .i8 d)) (A.zmul (A.zadd (A.quo .i64 (A.zadd (A.zadd 0 (A.zmul a (Int.ofNat 8))) (Int.ofNat 14)) (Int.ofNat 2)) 1) (Int.ofNat 2)) (A.zmul (A.zadd (A.zadd (A.quo .i64 (A.zadd (A.zadd 0 (A.zmul a (Int.ofNat 8))) (Int.ofNat 14)) (Int.ofNat 2)) 1) (A.zsub (Int.ofNat 4) 1)) (Int.ofNat 2)))) (A.nat (A.zadd (A.zadd 0 (A.zmul a (Int.ofNat 1))) (Int.ofNat 38))) (.int .i64 (A.wrp .i64 (A.zsub i 1)))) (A.zadd (A.zadd (A.zadd 0 (A.zmul a (Int.ofNat 8))) (A.zmul e (Int.ofNat 2))) (Int.ofNat 14)) [(.int .i8 0),(.int .i8 0)]) (A.zadd 0 (Int.ofNat 0)) (Int.ofNat 41)).bind fun g => (ck (A.zeq (A.len g) (Int.ofNat 41))).bind fun _ => (ck (A.zle (A.zadd (A.zadd 0 (Int.ofNat 0)) (Int.ofNat 41)) (A.len ((.int .u8 0)::(.int .u8 0)::(.int .u8 0)::(.int .i8 0)::(.int .i8 0)::(.int .i8 0)::(.int .i8 0)::(.int .i8 0)::(.int .i8 0)::(.int .i8 0)::(.int .i8 0)::(.int .i8 0)::(.int .i8 0)::(.int .i8 0)::(.int .i8 0)::(.int .i8 0)::(.int .i8 0)::(.int .i8 0)::(.int .i8 0)::(.int .i8 0)::(.int .i8 0)::(.int .i8 0)::(.int .i8 0)::(.int .i8 0)::(.int .i8 0)::(.int .i8 0)::(.int .i8 0)::(.int .i8 0)::(.int .i8 0)::(.int .i8 0)::(.int .i8 0)::(.int .i8 0)::(.int .i8 0)::(.int .i8 0)::(.int .i8 0)::(.int .i8 0)::(.int .i8 0)::(.int .i8 0)::(.int .i64 0)::(.int .i64 0)::(.int .i64 0)::[])))).bind fun _ => (ck (A.zeq (A.len (A.spl ((.int .u8 0)::(.int .u8 0)::(.int .u8 0)::(.int .i8 0)::(.int .i8 0)::(.int .i8 0)::(.int .i8 0)::(.int .i8 0)::(.int .i8 0)::(.int .i8 0)::(.int .i8 0)::(.int .i8 0)::(.int .i8 0)::(.int .i8 0)::(.int .i8 0)::(.int .i8 0)::(.int .i8 0)::(.int .i8 0)::(.int .i8 0)::(.int .i8 0)::(.int .i8 0)::(.int .i8 0)::(.int .i8 0)::(.int .i8 0)::(.int .i8 0)::(.int .i8 0)::(.int .i8 0)::(.int .i8 0)::(.int .i8 0)::(.int .i8 0)::(.int .i8 0)::(.int .i8 0)::(.int .i8 0)::(.int .i8 0)::(.int .i8 0)::(.int .i8 0)::(.int .i8 0)::(.int .i8 0)::(.int .i64 0)::(.int .i64 0)::(.int .i64 0)::[]) (A.zadd 0 (Int.ofNat 0)) g)) (Int.ofNat 41))).bind fun _ => (ck (A.ones (A.spl ((.int .u8 0)::(.int .u8 0)::(.int .u8 0)::(.int .i8 0)::(.int .i8 0)::(.int .i8 0)::(.int .i8 0)::(.int .i8 0)::(.int .i8 0)::(.int .i8 0)::(.int .i8 0)::(.int .i8 0)::(.int .i8 0)::(.int .i8 0)::(.int .i8 0)::(.int .i8 0)::(.int .i8 0)::(.int .i8 0)::(.int .i8 0)::(.int .i8 0)::(.int .i8 0)::(.int .i8 0)::(.int .i8 0)::(.int .i8 0)::(.int .i8 0)::(.int .i8 0)::(.int .i8 0)::(.int .i8 0)::(.int .i8 0)::(.int .i8 0)::(.int .i8 0)::(.int .i8 0)::(.int .i8 0)::(.int .i8 0)::(.int .i8 0)::(.int .i8 0)::(.int .i8 0)::(.int .i8 0)::(.int .i64 0)::(.int .i64 0)::(.int .i64 0)::[]) (A.zadd 0 (Int.ofNat 0)) g))).bind fun _ => some (A.spl ((.int .u8 0)::(.int .u8 0)::(.int .u8 0)::(.int .i8 0)::(.int .i8 0)::(.int .i8 0)::(.int .i8 0)::(.int .i8 0)::(.int .i8 0)::(.int .i8 0)::(.int .i8 0)::(.int .i8 0)::(.int .i8 0)::(.int .i8 0)::(.int .i8 0)::(.int .i8 0)::(.int .i8 0)::(.int .i8 0)::(.int .i8 0)::(.int .i8 0)::(.int .i8 0)::(.int .i8 0)::(.int .i8 0)::(.int .i8 0)::(.int .i8 0)::(.int .i8 0)::(.int .i8 0)::(.int .i8 0)::(.int .i8 0)::(.int .i8 0)::(.int .i8 0)::(.int .i8 0)::(.int .i8 0)::(.int .i8 0)::(.int .i8 0)::(.int .i8 0)::(.int .i8 0)::(.int .i8 0)::(.int .i64 0)::(.int .i64 0)::(.int .i64 0)::[]) (A.zadd 0 (Int.ofNat 0)) g)

def a7E (A:Ar) (o g:List D) (d i e:Int):(Int×List D)->Option ((Int×List D)⊕(List D)):=fun (a,c) => bif (A.zlt a (A.zsub e 0)) then (ck (A.zle 0 a)).bind fun _ => (ck (A.zlt a (A.zsub e 0))).bind fun _ => (gd A (lc (cI .i8) (l1 (cI .i8))) o (A.zadd (A.zmul (A.zadd (A.zadd (A.quo .i64 (A.zadd (A.zadd 0 (A.zmul d (Int.ofNat 8))) (Int.ofNat 14)) (Int.ofNat 2)) 0) a) (Int.ofNat 2)) (Int.ofNat 0)) (Int.ofNat 2)).bind fun (j,k) => (gt A (cL 3) g d).bind fun l => (gt A (cG (lc (cI .i64) (lc (cI .i64) (l1 (cI .i64))))) l i).bind fun (p,m,q) => (( bif (A.zeq (A.wrp .i64 j) m) then (b7h A g d i).bind fun b => (ck (A.zle 0 b)).bind fun _ => (ck (A.zlt b (Int.ofNat 8))).bind fun _ => (A.lget c (A.nat (A.zadd (A.zadd 0 (A.zmul b (Int.ofNat 1))) (Int.ofNat 3)))).bind fun r => some (A.lset c (A.nat (A.zadd (A.zadd 0 (A.zmul b (Int.ofNat 1))) (Int.ofNat 3))) (.int .i8 k)) else some c:Option (List D))).bind fun n => some (.inl ((A.wrp .i64 (A.zadd a 1)),n)) else some (.inr c)

/--  lineal memory.state .loaded -/
def b7t (A:Ar) (c g:List D) (a i:Int):Option (List D) := (ck (A.zeq (A.len c) (Int.ofNat 41))).bind fun _ => (ga A c (A.zadd 0 (Int.ofNat 0)) (Int.ofNat 41)).bind fun j => (b4W A j g a i).bind fun e => (ck (A.zeq (A.len e) (Int.ofNat 41))).bind fun _ => (ck (A.zle (A.zadd (A.zadd 0 (Int.ofNat 0)) (Int.ofNat 41)) (A.len ((.int .u8 0)::(.int .u8 0)::(.int .u8 0)::(.int .i8 0)::(.int .i8 0)::(.int .i8 0)::(.int .i8 0)::(.int .i8 0)::(.int .i8 0)::(.int .i8 0)::(.int .i8 0)::(.int .i8 0)::(.int .i8 0)::(.int .i8 0)::(.int .i8 0)::(.int .i8 0)::(.int .i8 0)::(.int .i8 0)::(.int .i8 0)::(.int .i8 0)::(.int .i8 0)::(.int .i8 0)::(.int .i8 0)::(.int .i8 0)::(.int .i8 0)::(.int .i8 0)::(.int .i8 0)::(.int .i8 0)::(.int .i8 0)::(.int .i8 0)::(.int .i8 0)::(.int .i8 0)::(.int .i8 0)::(.int .i8 0)::(.int .i8 0)::(.int .i8 0)::(.int .i8 0)::(.int .i8 0)::(.int .i64 0)::(.int .i64 0)::(.int .i64 0)::[])))).bind fun _ => (ck (A.zle 0 a)).bind fun _ => (ck (A.zlt a (Int.ofNat 3))).bind fun _ => (ck (A.zle 0 a)).bind fun _ => (ck (A.zlt a (Int.ofNat 3))).bind fun _ => (gc A (cI .i64) c (A.nat (A.zadd (A.zadd 0 (A.zmul a (Int.ofNat 1))) (Int.ofNat 38)))).bind fun d => (ck (A.zle 0 0)).bind fun _ => (ck (A.zle 0 d)).bind fun _ => (ck (A.zle d (Int.ofNat 4))).bind fun _ => (ck (A.zle 0 (A.zadd (A.zadd 0 (A.zmul a (Int.ofNat 8))) (Int.ofNat 14)))).bind fun _ => (ck (A.zle 0 (A.quo .i64 (A.zadd (A.zadd 0 (A.zmul a (Int.ofNat 8))) (Int.ofNat 14)) (Int.ofNat 2)))).bind fun _ => (ck (A.zeq (A.zmul (A.quo .i64 (A.zadd (A.zadd 0 (A.zmul a (Int.ofNat 8))) (Int.ofNat 14)) (Int.ofNat 2)) (Int.ofNat 2)) (A.zadd (A.zadd 0 (A.zmul a (Int.ofNat 8))) (Int.ofNat 14)))).bind fun _ => (iter (a7E A c g a i d) (0,(A.spl ((.int .u8 0)::(.int .u8 0)::(.int .u8 0)::(.int .i8 0)::(.int .i8 0)::(.int .i8 0)::(.int .i8 0)::(.int .i8 0)::(.int .i8 0)::(.int .i8 0)::(.int .i8 0)::(.int .i8 0)::(.int .i8 0)::(.int .i8 0)::(.int .i8 0)::(.int .i8 0)::(.int .i8 0)::(.int .i8 0)::(.int .i8 0)::(.int .i8 0)::(.int .i8 0)::(.int .i8 0)::(.int .i8 0)::(.int .i8 0)::(.int .i8 0)::(.int .i8 0)::(.int .i8 0)::(.int .i8 0)::(.int .i8 0)::(.int .i8 0)::(.int .i8 0)::(.int .i8 0)::(.int .i8 0)::(.int .i8 0)::(.int .i8 0)::(.int .i8 0)::(.int .i8 0)::(.int .i8 0)::(.int .i64 0)::(.int .i64 0)::(.int .i64 0)::[]) (A.zadd 0 (Int.ofNat 0)) e))).bind (fun k => (ga A k (A.zadd 0 (Int.ofNat 0)) (Int.ofNat 41)).bind fun b => (ck (A.zeq (A.len b) (Int.ofNat 41))).bind fun _ => (ck (A.zle (A.zadd (A.zadd 0 (Int.ofNat 0)) (Int.ofNat 41)) (A.len ((.int .u8 0)::(.int .u8 0)::(.int .u8 0)::(.int .i8 0)::(.int .i8 0)::(.int .i8 0)::(.int .i8 0)::(.int .i8 0)::(.int .i8 0)::(.int .i8 0)::(.int .i8 0)::(.int .i8 0)::(.int .i8 0)::(.int .i8 0)::(.int .i8 0)::(.int .i8 0)::(.int .i8 0)::(.int .i8 0)::(.int .i8 0)::(.int .i8 0)::(.int .i8 0)::(.int .i8 0)::(.int .i8 0)::(.int .i8 0)::(.int .i8 0)::(.int .i8 0)::(.int .i8 0)::(.int .i8 0)::(.int .i8 0)::(.int .i8 0)::(.int .i8 0)::(.int .i8 0)::(.int .i8 0)::(.int .i8 0)::(.int .i8 0)::(.int .i8 0)::(.int .i8 0)::(.int .i8 0)::(.int .i64 0)::(.int .i64 0)::(.int .i64 0)::[])))).bind fun _ => (ck (A.zeq (A.len (A.spl ((.int .u8 0)::(.int .u8 0)::(.int .u8 0)::(.int .i8 0)::(.int .i8 0)::(.int .i8 0)::(.int .i8 0)::(.int .i8 0)::(.int .i8 0)::(.int .i8 0)::(.int .i8 0)::(.int .i8 0)::(.int .i8 0)::(.int .i8 0)::(.int .i8 0)::(.int .i8 0)::(.int .i8 0)::(.int .i8 0)::(.int .i8 0)::(.int .i8 0)::(.int .i8 0)::(.int .i8 0)::(.int .i8 0)::(.int .i8 0)::(.int .i8 0)::(.int .i8 0)::(.int .i8 0)::(.int .i8 0)::(.int .i8 0)::(.int .i8 0)::(.int .i8 0)::(.int .i8 0)::(.int .i8 0)::(.int .i8 0)::(.int .i8 0)::(.int .i8 0)::(.int .i8 0)::(.int .i8 0)::(.int .i64 0)::(.int .i64 0)::(.int .i64 0)::[]) (A.zadd 0 (Int.ofNat 0)) b)) (Int.ofNat 41))).bind fun _ => (ck (A.ones (A.spl ((.int .u8 0)::(.int .u8 0)::(.int .u8 0)::(.int .i8 0)::(.int .i8 0)::(.int .i8 0)::(.int .i8 0)::(.int .i8 0)::(.int .i8 0)::(.int .i8 0)::(.int .i8 0)::(.int .i8 0)::(.int .i8 0)::(.int .i8 0)::(.int .i8 0)::(.int .i8 0)::(.int .i8 0)::(.int .i8 0)::(.int .i8 0)::(.int .i8 0)::(.int .i8 0)::(.int .i8 0)::(.int .i8 0)::(.int .i8 0)::(.int .i8 0)::(.int .i8 0)::(.int .i8 0)::(.int .i8 0)::(.int .i8 0)::(.int .i8 0)::(.int .i8 0)::(.int .i8 0)::(.int .i8 0)::(.int .i8 0)::(.int .i8 0)::(.int .i8 0)::(.int .i8 0)::(.int .i8 0)::(.int .i64 0)::(.int .i64 0)::(.int .i64 0)::[]) (A.zadd 0 (Int.ofNat 0)) b))).bind fun _ => some (A.spl ((.int .u8 0)::(.int .u8 0)::(.int .u8 0)::(.int .i8 0)::(.int .i8 0)::(.int .i8 0)::(.int .i8 0)::(.int .i8 0)::(.int .i8 0)::(.int .i8 0)::(.int .i8 0)::(.int .i8 0)::(.int .i8 0)::(.int .i8 0)::(.int .i8 0)::(.int .i8 0)::(.int .i8 0)::(.int .i8 0)::(.int .i8 0)::(.int .i8 0)::(.int .i8 0)::(.int .i8 0)::(.int .i8 0)::(.int .i8 0)::(.int .i8 0)::(.int .i8 0)::(.int .i8 0)::(.int .i8 0)::(.int .i8 0)::(.int .i8 0)::(.int .i8 0)::(.int .i8 0)::(.int .i8 0)::(.int .i8 0)::(.int .i8 0)::(.int .i8 0)::(.int .i8 0)::(.int .i8 0)::(.int .i64 0)::(.int .i64 0)::(.int .i64 0)::[]) (A.zadd 0 (Int.ofNat 0)) b))

/-- lineal memory.outcomes$1 -/
def b7u (A:Ar) (b:List D) (c:List (D×D)) (n e m:List D):Option (List (D×D)×List D×List D) := (ck (A.zeq (A.len b) (Int.ofNat 41))).bind fun _ => (( (ga A b (A.zadd 0 (Int.ofNat 0)) (Int.ofNat 41)).bind fun d => (ck (A.conf (.int .u8 :: .int .u8 :: .int .u8 :: .int .i8 :: .int .i8 :: .int .i8 :: .int .i8 :: .int .i8 :: .int .i8 :: .int .i8 :: .int .i8 :: .int .i8 :: .int .i8 :: .int .i8 :: .int .i8 :: .int .i8 :: .int .i8 :: .int .i8 :: .int .i8 :: .int .i8 :: .int .i8 :: .int .i8 :: .int .i8 :: .int .i8 :: .int .i8 :: .int .i8 :: .int .i8 :: .int .i8 :: .int .i8 :: .int .i8 :: .int .i8 :: .int .i8 :: .int .i8 :: .int .i8 :: .int .i8 :: .int .i8 :: .int .i8 :: .int .i8 :: .int .i64 :: .int .i64 :: .int .i64::[]) d)).bind fun _ => (lk A cU c (.agg d)).bind fun i=>i.elim ( some false) fun () => some true:Option (Bool))).bind fun j => (( bif j then some (c,e) else (ga A b (A.zadd 0 (Int.ofNat 0)) (Int.ofNat 41)).bind fun a => (ck (A.conf (.int .u8 :: .int .u8 :: .int .u8 :: .int .i8 :: .int .i8 :: .int .i8 :: .int .i8 :: .int .i8 :: .int .i8 :: .int .i8 :: .int .i8 :: .int .i8 :: .int .i8 :: .int .i8 :: .int .i8 :: .int .i8 :: .int .i8 :: .int .i8 :: .int .i8 :: .int .i8 :: .int .i8 :: .int .i8 :: .int .i8 :: .int .i8 :: .int .i8 :: .int .i8 :: .int .i8 :: .int .i8 :: .int .i8 :: .int .i8 :: .int .i8 :: .int .i8 :: .int .i8 :: .int .i8 :: .int .i8 :: .int .i8 :: .int .i8 :: .int .i8 :: .int .i64 :: .int .i64 :: .int .i64::[]) a)).bind fun _ => (ck (A.zeq (A.len a) (Int.ofNat 41))).bind fun _ => (ap A e [(.agg a)]).bind fun g => some ((A.mput c (.agg a) (.agg [])),g):Option (List (D×D)×List D))).bind fun (k,l) => some (k,m,l)

def a7F (A:Ar) (m d:List D):(Int×List (D×D)×List D)->Option ((Int×List (D×D)×List D)⊕(List (D×D)×List D)):=fun (a,o,p) => bif (A.zlt a (A.len m)) then (( (ck (A.zle 0 a)).bind fun _ => (ck (A.zlt a (Int.ofNat 3))).bind fun _ => (gc A (cI .i64) d (A.nat (A.zadd (A.zadd 0 (A.zmul a (Int.ofNat 1))) (Int.ofNat 38)))).bind fun s => (( bif (A.zlt 0 s) then (ga A d (A.zadd 0 (Int.ofNat 0)) (Int.ofNat 41)).bind fun v => (b7s A v a).bind fun y => (N60 A y o d p).bind fun (z,B) => some (z,B) else some (o,p):Option (List (D×D)×List D))).bind fun (i,j) => (ga A d (A.zadd 0 (Int.ofNat 0)) (Int.ofNat 41)).bind fun b => (b7g A b a).bind fun c => (gt A (cL 3) m a).bind fun q => bif (A.zeq c (A.len q)) then some (i,j) else (gt A (cG (lc (cI .i64) (lc (cI .i64) (l1 (cI .i64))))) q c).bind fun (n,k,l) => (( bif (A.zeq n 1) then (b7t A b m a c).bind fun C => (N60 A C i d j).bind fun (E,F) => some (E,F) else (( bif (A.zeq n 2) then (ck (A.zeq (A.len b) (Int.ofNat 41))).bind fun _ => (ck (A.zle (A.zadd (A.zadd 0 (Int.ofNat 0)) (Int.ofNat 41)) (A.len ((.int .u8 0)::(.int .u8 0)::(.int .u8 0)::(.int .i8 0)::(.int .i8 0)::(.int .i8 0)::(.int .i8 0)::(.int .i8 0)::(.int .i8 0)::(.int .i8 0)::(.int .i8 0)::(.int .i8 0)::(.int .i8 0)::(.int .i8 0)::(.int .i8 0)::(.int .i8 0)::(.int .i8 0)::(.int .i8 0)::(.int .i8 0)::(.int .i8 0)::(.int .i8 0)::(.int .i8 0)::(.int .i8 0)::(.int .i8 0)::(.int .i8 0)::(.int .i8 0)::(.int .i8 0)::(.int .i8 0)::(.int .i8 0)::(.int .i8 0)::(.int .i8 0)::(.int .i8 0)::(.int .i8 0)::(.int .i8 0)::(.int .i8 0)::(.int .i8 0)::(.int .i8 0)::(.int .i8 0)::(.int .i64 0)::(.int .i64 0)::(.int .i64 0)::[])))).bind fun _ => (ck (A.zle 0 a)).bind fun _ => (ck (A.zlt a (Int.ofNat 3))).bind fun _ => (gc A (cI .u8) (A.spl ((.int .u8 0)::(.int .u8 0)::(.int .u8 0)::(.int .i8 0)::(.int .i8 0)::(.int .i8 0)::(.int .i8 0)::(.int .i8 0)::(.int .i8 0)::(.int .i8 0)::(.int .i8 0)::(.int .i8 0)::(.int .i8 0)::(.int .i8 0)::(.int .i8 0)::(.int .i8 0)::(.int .i8 0)::(.int .i8 0)::(.int .i8 0)::(.int .i8 0)::(.int .i8 0)::(.int .i8 0)::(.int .i8 0)::(.int .i8 0)::(.int .i8 0)::(.int .i8 0)::(.int .i8 0)::(.int .i8 0)::(.int .i8 0)::(.int .i8 0)::(.int .i8 0)::(.int .i8 0)::(.int .i8 0)::(.int .i8 0)::(.int .i8 0)::(.int .i8 0)::(.int .i8 0)::(.int .i8 0)::(.int .i64 0)::(.int .i64 0)::(.int .i64 0)::[]) (A.zadd 0 (Int.ofNat 0)) b) (A.nat (A.zadd 0 (A.zmul a (Int.ofNat 1))))).bind fun g => (nk (A.zlt c 0)).bind fun _ => (ck (A.zle 0 a)).bind fun _ => (ck (A.zlt a (Int.ofNat 3))).bind fun _ => (A.lget (A.spl ((.int .u8 0)::(.int .u8 0)::(.int .u8 0)::(.int .i8 0)::(.int .i8 0)::(.int .i8 0)::(.int .i8 0)::(.int .i8 0)::(.int .i8 0)::(.int .i8 0)::(.int .i8 0)::(.int .i8 0)::(.int .i8 0)::(.int .i8 0)::(.int .i8 0)::(.int .i8 0)::(.int .i8 0)::(.int .i8 0)::(.int .i8 0)::(.int .i8 0)::(.int .i8 0)::(.int .i8 0)::(.int .i8 0)::(.int .i8 0)::(.int .i8 0)::(.int .i8 0)::(.int .i8 0)::(.int .i8 0)::(.int .i8 0)::(.int .i8 0)::(.int .i8 0)::(.int .i8 0)::(.int .i8 0)::(.int .i8 0)::(.int .i8 0)::(.int .i8 0)::(.int .i8 0)::(.int .i8 0)::(.int .i64 0)::(.int .i64 0)::(.int .i64 0)::[]) (A.zadd 0 (Int.ofNat 0)) b) (A.nat (A.zadd 0 (A.zmul a (Int.ofNat 1))))).bind fun Y => (ck (A.zle 0 a)).bind fun _ => (ck (A.zlt a (Int.ofNat 3))).bind fun _ => (gc A (cI .i64) (A.lset (A.spl ((.int .u8 0)::(.int .u8 0)::(.int .u8 0)::(.int .i8 0)::(.int .i8 0)::(.int .i8 0)::(.int .i8 0)::(.int .i8 0)::(.int .i8 0)::(.int .i8 0)::(.int .i8 0)::(.int .i8 0)::(.int .i8 0)::(.int .i8 0)::(.int .i8 0)::(.int .i8 0)::(.int .i8 0)::(.int .i8 0)::(.int .i8 0)::(.int .i8 0)::(.int .i8 0)::(.int .i8 0)::(.int .i8 0)::(.int .i8 0)::(.int .i8 0)::(.int .i8 0)::(.int .i8 0)::(.int .i8 0)::(.int .i8 0)::(.int .i8 0)::(.int .i8 0)::(.int .i8 0)::(.int .i8 0)::(.int .i8 0)::(.int .i8 0)::(.int .i8 0)::(.int .i8 0)::(.int .i8 0)::(.int .i64 0)::(.int .i64 0)::(.int .i64 0)::[]) (A.zadd 0 (Int.ofNat 0)) b) (A.nat (A.zadd 0 (A.zmul a (Int.ofNat 1)))) (.int .u8 (A.bits .or .u8 g (A.shl .u8 1 c)))) (A.nat (A.zadd (A.zadd 0 (A.zmul a (Int.ofNat 1))) (Int.ofNat 38)))).bind fun e => (ck (A.zle 0 a)).bind fun _ => (ck (A.zlt a (Int.ofNat 3))).bind fun _ => (ck (A.zle 0 e)).bind fun _ => (ck (A.zlt e (Int.ofNat 4))).bind fun _ => (ck (A.zle (A.zadd (A.zadd (A.zadd (A.zadd 0 (A.zmul a (Int.ofNat 8))) (A.zmul e (Int.ofNat 2))) (Int.ofNat 14)) (Int.ofNat 2)) (A.len (A.lset (A.spl ((.int .u8 0)::(.int .u8 0)::(.int .u8 0)::(.int .i8 0)::(.int .i8 0)::(.int .i8 0)::(.int .i8 0)::(.int .i8 0)::(.int .i8 0)::(.int .i8 0)::(.int .i8 0)::(.int .i8 0)::(.int .i8 0)::(.int .i8 0)::(.int .i8 0)::(.int .i8 0)::(.int .i8 0)::(.int .i8 0)::(.int .i8 0)::(.int .i8 0)::(.int .i8 0)::(.int .i8 0)::(.int .i8 0)::(.int .i8 0)::(.int .i8 0)::(.int .i8 0)::(.int .i8 0)::(.int .i8 0)::(.int .i8 0)::(.int .i8 0)::(.int .i8 0)::(.int .i8 0)::(.int .i8 0)::(.int .i8 0)::(.int .i8 0)::(.int .i8 0)::(.int .i8 0)::(.int .i8 0)::(.int .i64 0)::(.int .i64 0)::(.int .i64 0)::[]) (A.zadd 0 (Int.ofNat 0)) b) (A.nat (A.zadd 0 (A.zmul a (Int.ofNat 1)))) (.int .u8 (A.bits .or .u8 g (A.shl .u8 1 c))))))).bind fun _ => (ck (A.zle 0 a)).bind fun _ => (ck (A.zlt a (Int.ofNat 3))).bind fun _ => (gc A (cI .i64) (A.spl (A.lset (A.spl ((.int .u8 0)::(.int .u8 0)::(.int .u8 0)::(.int .i8 0)::(.int .i8 0)::(.int .i8 0)::(.int .i8 0)::(.int .i8 0)::(.int .i8 0)::(.int .i8 0)::(.int .i8 0)::(.int .i8 0)::(.int .i8 0)::(.int .i8 0)::(.int .i8 0)::(.int .i8 0)::(.int .i8 0)::(.int .i8 0)::(.int .i8 0)::(.int .i8 0)::(.int .i8 0)::(.int .i8 0)::(.int .i8 0)::(.int .i8 0)::(.int .i8 0)::(.int .i8 0)::(.int .i8 0)::(.int .i8 0)::(.int .i8 0)::(.int .i8 0)::(.int .i8 0)::(.int .i8 0)::(.int .i8 0)::(.int .i8 0)::(.int .i8 0)::(.int .i8 0)::(.int .i8 0)::(.int .i8 0)::(.int .i64 0)::(.int .i64 0)::(.int .i64 0)::[]) (A.zadd 0 (Int.ofNat 0)) b) (A.nat (A.zadd 0 (A.zmul a (Int.ofNat 1)))) (.int .u8 (A.bits .or .u8 g (A.shl .u8 1 c)))) (A.zadd (A.zadd (A.zadd 0 (A.zmul a (Int.ofNat 8))) (A.zmul e (Int.ofNat 2))) (Int.ofNat 14)) [(.int .i8 (A.wrp .i8 k)),(.int .i8 (A.wrp .i8 l))]) (A.nat (A.zadd (A.zadd 0 (A.zmul a (Int.ofNat 1))) (Int.ofNat 38)))).bind fun r => (ck (A.zle 0 a)).bind fun _ => (ck (A.zlt a (Int.ofNat 3))).bind fun _ => (A.lget (A.spl (A.lset (A.spl ((.int .u8 0)::(.int .u8 0)::(.int .u8 0)::(.int .i8 0)::(.int .i8 0)::(.int .i8 0)::(.int .i8 0)::(.int .i8 0)::(.int .i8 0)::(.int .i8 0)::(.int .i8 0)::(.int .i8 0)::(.int .i8 0)::(.int .i8 0)::(.int .i8 0)::(.int .i8 0)::(.int .i8 0)::(.int .i8 0)::(.int .i8 0)::(.int .i8 0)::(.int .i8 0)::(.int .i8 0)::(.int .i8 0)::(.int .i8 0)::(.int .i8 0)::(.int .i8 0)::(.int .i8 0)::(.int .i8 0)::(.int .i8 0)::(.int .i8 0)::(.int .i8 0)::(.int .i8 0)::(.int .i8 0)::(.int .i8 0)::(.int .i8 0)::(.int .i8 0)::(.int .i8 0)::(.int .i8 0)::(.int .i64 0)::(.int .i64 0)::(.int .i64 0)::[]) (A.zadd 0 (Int.ofNat 0)) b) (A.nat (A.zadd 0 (A.zmul a (Int.ofNat 1)))) (.int .u8 (A.bits .or .u8 g (A.shl .u8 1 c)))) (A.zadd (A.zadd (A.zadd 0 (A.zmul a (Int.ofNat 8))) (A.zmul e (Int.ofNat 2))) (Int.ofNat 14)) [(.int .i8 (A.wrp .i8 k)),(.int .i8 (A.wrp .i8 l))]) (A.nat (A.zadd (A.zadd 0 (A.zmul a (Int.ofNat 1))) (Int.ofNat 38)))).bind fun a0 => (ga A (A.lset (A.spl (A.lset (A.spl ((.int .u8 0)::(.int .u8 0)::(.int .u8 0)::(.int .i8 0)::(.int .i8 0)::(.int .i8 0)::(.int .i8 0)::(.int .i8 0)::(.int .i8 0)::(.int .i8 0)::(.int .i8 0)::(.int .i8 0)::(.int .i8 0)::(.int .i8 0)::(.int .i8 0)::(.int .i8 0)::(.int .i8 0)::(.int .i8 0)::(.int .i8 0)::(.int .i8 0)::(.int .i8 0)::(.int .i8 0)::(.int .i8 0)::(.int .i8 0)::(.int .i8 0)::(.int .i8 0)::(.int .i8 0)::(.int .i8 0)::(.int .i8 0)::(.int .i8 0)::(.int .i8 0)::(.int .i8 0)::(.int .i8 0)::(.int .i8 0)::(.int .i8 0)::(.int .i8 0)::(.int .i8 0)::(.int .i8 0)::(.int .i64 0)::(.int .i64 0)::(.int .i64 0)::[]) (A.zadd 0 (Int.ofNat 0)) b) (A.nat (A.zadd 0 (A.zmul a (Int.ofNat 1)))) (.int .u8 (A.bits .or .u8 g (A.shl .u8 1 c)))) (A.zadd (A.zadd (A.zadd 0 (A.zmul a (Int.ofNat 8))) (A.zmul e (Int.ofNat 2))) (Int.ofNat 14)) [(.int .i8 (A.wrp .i8 k)),(.int .i8 (A.wrp .i8 l))]) (A.nat (A.zadd (A.zadd 0 (A.zmul a (Int.ofNat 1))) (Int.ofNat 38))) (.int .i64 (A.wrp .i64 (A.zadd r 1)))) (A.zadd 0 (Int.ofNat 0)) (Int.ofNat 41)).bind fun w => (b7u A w i d j (A.lset (A.spl (A.lset (A.spl ((.int .u8 0)::(.int .u8 0)::(.int .u8 0)::(.int .i8 0)::(.int .i8 0)::(.int .i8 0)::(.int .i8 0)::(.int .i8 0)::(.int .i8 0)::(.int .i8 0)::(.int .i8 0)::(.int .i8 0)::(.int .i8 0)::(.int .i8 0)::(.int .i8 0)::(.int .i8 0)::(.int .i8 0)::(.int .i8 0)::(.int .i8 0)::(.int .i8 0)::(.int .i8 0)::(.int .i8 0)::(.int .i8 0)::(.int .i8 0)::(.int .i8 0)::(.int .i8 0)::(.int .i8 0)::(.int .i8 0)::(.int .i8 0)::(.int .i8 0)::(.int .i8 0)::(.int .i8 0)::(.int .i8 0)::(.int .i8 0)::(.int .i8 0)::(.int .i8 0)::(.int .i8 0)::(.int .i8 0)::(.int .i64 0)::(.int .i64 0)::(.int .i64 0)::[]) (A.zadd 0 (Int.ofNat 0)) b) (A.nat (A.zadd 0 (A.zmul a (Int.ofNat 1)))) (.int .u8 (A.bits .or .u8 g (A.shl .u8 1 c)))) (A.zadd (A.zadd (A.zadd 0 (A.zmul a (Int.ofNat 8))) (A.zmul e (Int.ofNat 2))) (Int.ofNat 14)) [(.int .i8 (A.wrp .i8 k)),(.int .i8 (A.wrp .i8 l))]) (A.nat (A.zadd (A.zadd 0 (A.zmul a (Int.ofNat 1))) (Int.ofNat 38))) (.int .i64 (A.wrp .i64 (A.zadd r 1))))).bind fun (G,b0,J) => some (G,J) else (( bif (A.zeq n 3) then (ck (A.zle 0 a)).bind fun _ => (ck (A.zlt a (Int.ofNat 3))).bind fun _ => (gc A (cI .i64) d (A.nat (A.zadd (A.zadd 0 (A.zmul a (Int.ofNat 1))) (Int.ofNat 38)))).bind fun u => (( bif (A.zeq u 0) then (b4W A b m a c).bind fun K => (N60 A K i d j).bind fun (L,M) => some (L,M) else some (i,j):Option (List (D×D)×List D))).bind fun (N,O) => some (N,O) else some (i,j):Option (List (D×D)×List D))).bind fun (P,Q) => some (P,Q):Option (List (D×D)×List D))).bind fun (R,S) => some (R,S):Option (List (D×D)×List D))).bind fun (U,V) => some (U,V):Option (List (D×D)×List D))).bind fun (W,X) => some (.inl ((A.wrp .i64 (A.zadd a 1)),W,X)) else some (.inr (o,p))

/--  lineal memory.buffers .steps -/
def b7v (A:Ar) (d a:List D) (e:List (D×D)) (g:List D):Option (List (D×D)×List D) := (ck (A.zeq (A.len a) (Int.ofNat 41))).bind fun _ => (iter (a7F A d a) (0,e,g)).bind (fun (b,c) => some (b,c))

def a6h (A:Ar) (n:List D) (b e g:Int) (c:List D):(Bool×Int)->Option ((Bool×Int)⊕(Bool)):=fun (d,a) => bif (A.zlt a (A.len c)) then (gt A (cG (lc (cI .i64) (lc (cI .i64) (l1 (cI .i64))))) c a).bind fun (i,j,o) => (( bif (A.zeq e 3) then some true else bif (A.zeq i 3) then some true else some (A.zeq g j):Option (Bool))).bind fun l => (( bif d then bif l then (ck (A.zle 0 b)).bind fun _ => (ck (A.zlt b (Int.ofNat 3))).bind fun _ => (gc A (cI .u8) n (A.nat (A.zadd 0 (A.zmul b (Int.ofNat 1))))).bind fun k => (nk (A.zlt a 0)).bind fun _ => some (A.zeq (A.bits .and .u8 (A.shr .u8 k a) 1) 1) else some true else some false:Option (Bool))).bind fun m => some (.inl (m,(A.wrp .i64 (A.zadd a 1)))) else some (.inr d)

def a7G (A:Ar) (u c:List D) (b:Int) (d:List D):(Int×List (D×D)×List D)->Option ((Int×List (D×D)×List D)⊕(List (D×D)×List D)):=fun (a,e,g) => bif (A.zlt a (A.len d)) then (gt A (cG (lc (cI .i64) (lc (cI .i64) (l1 (cI .i64))))) d a).bind fun (i,j,v) => (ck (A.zle 0 b)).bind fun _ => (ck (A.zlt b (Int.ofNat 3))).bind fun _ => (gc A (cI .u8) c (A.nat (A.zadd 0 (A.zmul b (Int.ofNat 1))))).bind fun k => (nk (A.zlt a 0)).bind fun _ => (sl A d 0 a).bind fun l => (iter (a6h A c b i j l) ((A.zeq (A.bits .and .u8 (A.shr .u8 k a) 1) 0),0)).bind (fun q => (( bif q then (ga A c (A.zadd 0 (Int.ofNat 0)) (Int.ofNat 41)).bind fun m => (b4W A m u b a).bind fun n => (N60 A n e c g).bind fun (o,p) => some (o,p) else some (e,g):Option (List (D×D)×List D))).bind fun (r,s) => some (.inl ((A.wrp .i64 (A.zadd a 1)),r,s))) else some (.inr (e,g))

def a7H (A:Ar) (b j:List D):(Int×List (D×D)×List D)->Option ((Int×List (D×D)×List D)⊕(List (D×D)×List D)):=fun (a,c,d) => bif (A.zlt a (A.len b)) then (gt A (cL 3) b a).bind fun e => (iter (a7G A b j a e) (0,c,d)).bind (fun (g,i) => some (.inl ((A.wrp .i64 (A.zadd a 1)),g,i))) else some (.inr (c,d))

/--  lineal memory.loose .steps -/
def b7w (A:Ar) (d a:List D) (e:List (D×D)) (g:List D):Option (List (D×D)×List D) := (ck (A.zeq (A.len a) (Int.ofNat 41))).bind fun _ => (iter (a7H A d a) (0,e,g)).bind (fun (b,c) => some (b,c))

def N61 (A:Ar) (c d:Int) (e:List D):Option (List D):=srt (cL 1) (fun a b=>N62 A a b) c d e

def b1s (A:Ar) (b e:List D):Int->Option ((Int)⊕((Unit)⊕(Unit))):=fun a => bif (A.zlt a (A.len b)) then (gt A (cI .i64) b a).bind fun c => (gt A (cI .i64) e a).bind fun d => bif (A.zeq c d) then some (.inl (A.wrp .i64 (A.zadd a 1))) else some (.inr (.inr ())) else some (.inr (.inl ()))
end
end Go.Am
