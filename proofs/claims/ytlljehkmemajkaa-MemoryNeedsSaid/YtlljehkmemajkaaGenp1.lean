import Derived.Test.YtlljehkmemajkaaGenp0
set_option maxRecDepth 100000
set_option maxHeartbeats 2000000
set_option linter.unusedVariables false
set_option linter.unusedSimpArgs false
namespace Go.Am
noncomputable section
open Go
def a6A (A:Ar) (l m:List D) (d:Int):(List D×Int)->Option ((List D×Int)⊕(List D)):=fun (b,a) => (gt A (cL 3) l d).bind fun c => bif (A.zlt a (A.len c)) then (gt A (cG (lc (cI .i64) (lc (cI .i64) (l1 (cI .i64))))) c a).bind fun (g,n,o) => (( bif (A.zeq g 1) then (gt A (cL 1) m d).bind fun e => (ck (A.zle 0 a)).bind fun _ => (ck (A.zlt a (A.len e))).bind fun _ => (gc A (cI .i64) e (A.nat a)).bind fun i => (ap A b [(.int .i64 i)]).bind fun j => some j else some b:Option (List D))).bind fun k => some (.inl (k,(A.wrp .i64 (A.zadd a 1)))) else some (.inr b)

def a6B (A:Ar) (c e:List D):(List D×Int)->Option ((List D×Int)⊕(List D)):=fun (b,a) => bif (A.zlt a (A.len c)) then (iter (a6A A c e a) (b,0)).bind (fun d => some (.inl (d,(A.wrp .i64 (A.zadd a 1))))) else some (.inr b)

def a6C (A:Ar) (e g i:Int):(List D×Int)->Option ((List D×Int)⊕(List D)):=fun (b,a) => bif (A.zlt a 3) then (ck (A.zle 0 a)).bind fun _ => (ck (A.zlt a (Int.ofNat 3))).bind fun _ => (gc A (cI .i64) [(.int .i64 e),(.int .i64 g),(.int .i64 i)] (A.nat a)).bind fun c => (ap A b [(.int .i64 c)]).bind fun d => some (.inl (d,(A.wrp .i64 (A.zadd a 1)))) else some (.inr b)

/--  *lineal linealref04.world .outcome -/
def b9c (A:Ar) (c:List D) (j d e g:Int) (k i l:List D):Option (List D) := (iter (a6B A c i) ([],0)).bind (fun a => (iter (a6C A d e g) (a,0)).bind (fun b => some b))

def a5n (A:Ar) (j c:List D):(Int×Int)->Option ((Int×Int)⊕(Int)):=fun (a,b) => bif (A.zlt a b) then (nk (A.zeq 2 0)).bind fun _ => (ck (A.zle 0 (A.quo .i64 (A.wrp .i64 (A.zadd a b)) 2))).bind fun _ => (ck (A.zlt (A.quo .i64 (A.wrp .i64 (A.zadd a b)) 2) (A.len c))).bind fun _ => (gc A (cL 1) c (A.nat (A.quo .i64 (A.wrp .i64 (A.zadd a b)) 2))).bind fun d => (M30 A d j).bind fun e => (( bif (A.zlt e 0) then some ((A.wrp .i64 (A.zadd (A.quo .i64 (A.wrp .i64 (A.zadd a b)) 2) 1)),b) else some (a,(A.quo .i64 (A.wrp .i64 (A.zadd a b)) 2)):Option (Int×Int))).bind fun (g,i) => some (.inl (g,i)) else some (.inr a)

def a6D (A:Ar) (d:Int):(Int×List D)->Option ((Int×List D)⊕(List D)):=fun (a,b) => bif (A.zlt d a) then (ck (A.zle 0 (A.wrp .i64 (A.zsub a 1)))).bind fun _ => (ck (A.zlt (A.wrp .i64 (A.zsub a 1)) (A.len b))).bind fun _ => (gc A (cL 1) b (A.nat (A.wrp .i64 (A.zsub a 1)))).bind fun c => (ck (A.zle 0 a)).bind fun _ => (ck (A.zlt a (A.len b))).bind fun _ => (gc A (cL 1) b (A.nat a)).bind fun e => some (.inl ((A.wrp .i64 (A.zsub a 1)),(A.lset b (A.nat a) (.list 1 c)))) else some (.inr b)

/-- lineal linealref04.put -/
def b8J (A:Ar) (d b:List D):Option (List D) := (iter (a5n A d b) (0,(A.len b))).bind (fun a => (( bif (A.zlt a (A.len b)) then (ck (A.zle 0 a)).bind fun _ => (ck (A.zlt a (A.len b))).bind fun _ => (gc A (cL 1) b (A.nat a)).bind fun g => (M30 A g d).bind fun i => some (A.zeq i 0) else some false:Option (Bool))).bind fun j => bif j then some b else (ap A b [(.list 1 [])]).bind fun e => (iter (a6D A a) ((A.wrp .i64 (A.zsub (A.len e) 1)),e)).bind (fun c => (ck (A.zle 0 a)).bind fun _ => (ck (A.zlt a (A.len c))).bind fun _ => (gc A (cL 1) c (A.nat a)).bind fun k => some (A.lset c (A.nat a) (.list 1 d))))

def a5o (A:Ar) (d:List D) (g i j k:Int) (l m n:List D) (self112:List D->Int->Int->Int->Int->List D->List D->List D->List D->Option (List D)) (c:Int):(Bool×Int×List D)->Option ((Bool×Int×List D)⊕(Bool×List D)):=fun (e,a,b) => (gt A (cL 3) d c).bind fun o => bif (A.zlt a (A.len o)) then (b5X A c a d g i j k l m n).bind fun p => (( bif p then (b8H A c a d g i j k l m n).bind fun (q,r,s,u,v,w,y,z) => (self112 q r s u v w y z b).bind fun B => some (false,B) else some (e,b):Option (Bool×List D))).bind fun (C,E) => some (.inl (C,(A.wrp .i64 (A.zadd a 1)),E)) else some (.inr (e,b))

def a6E (A:Ar) (b:List D) (i j k l:Int) (m n c:List D) (self112:List D->Int->Int->Int->Int->List D->List D->List D->List D->Option (List D)):(Bool×Int×List D)->Option ((Bool×Int×List D)⊕(Bool×List D)):=fun (e,a,g) => bif (A.zlt a (A.len b)) then (iter (a5o A b i j k l m n c self112 a) (e,0,g)).bind (fun (z,d) => (gt A (cL 2) c a).bind fun E => (( bif (A.zlt 0 (A.len E)) then (b8I A a b i j k l m n c).bind fun (o,p,q,r,s,u,v,w) => (self112 o p q r s u v w d).bind fun y => some (false,y) else some (z,d):Option (Bool×List D))).bind fun (B,C) => some (.inl (B,(A.wrp .i64 (A.zadd a 1)),C))) else some (.inr (e,g))

/--  *lineal linealref04.world .ends -/
def b1m (A:Ar) (self112:List D->Int->Int->Int->Int->List D->List D->List D->List D->Option (List D)) (b:List D) (c d e g:Int) (i j k p:List D):Option (List D) := (iter (a6E A b c d e g i j k self112) (true,0,p)).bind (fun (n,a) => (( bif n then (b9c A b c d e g i j k).bind fun l => (b8J A l a).bind fun m => some m else some a:Option (List D))).bind fun o => some o)

def a4U (A:Ar):Nat->List D->Int->Int->Int->Int->List D->List D->List D->List D->Option (List D) | 0=>fun _ _ _ _ _ _ _ _ _=>none | n+1=>fun a b c d e g i j k=>b1m A (a4U A n) a b c d e g i j k

def c1k (A:Ar) (a:List D) (b c d e:Int) (g i j k:List D):Option (List D):=a4U A fuel a b c d e g i j k

/-- lineal linealref04.outcomes -/
def M58 (A:Ar) (i:List D) (j:Int):Option (List D) := (b9a A i j).bind fun (b,c,d,e,g) => (c1k A b c 0 0 0 d e g []).bind fun a => some a

/-- lineal linealref04.Bare -/
def M42 (A:Ar) (a:List D):Option (Bool×Int) := (M24 A a).bind fun c => bif c then (M58 A a 3).bind fun d => (M58 A a 1).bind fun e => (M25 A d e).bind fun b => some (b,0) else some (false,40)

/-- lineal linealref04.lessone -/
def c0K (A:Ar) (d:List D) (a e:Int):Option (List D) := (M88 A d).bind fun c => (gt A (cL 3) d a).bind fun b => (sl A b 0 e).bind fun g => (ap A [] g).bind fun i => (sl A b (A.wrp .i64 (A.zadd e 1)) (A.len b)).bind fun j => (ap A i j).bind fun k => (ck (A.zle 0 a)).bind fun _ => (ck (A.zlt a (A.len c))).bind fun _ => some (A.lset c (A.nat a) (.list 3 k))

def b1n (A:Ar) (e:List D) (o:Int) (l:List D) (c:Int):(List D×Int)->Option ((List D×Int)⊕(List D)):=fun (b,a) => (gt A (cL 3) e c).bind fun d => bif (A.zlt a (A.len d)) then (( (gt A (cG (lc (cI .i64) (lc (cI .i64) (l1 (cI .i64))))) d a).bind fun (g,q,p) => bif (A.zeq g 3) then (c0K A e c a).bind fun j => (M58 A j o).bind fun k => (( bif (A.zlt (A.len l) (A.len k)) then (ap A b [(.agg [(.int .i64 c),(.int .i64 a)])]).bind fun i => some i else some b:Option (List D))).bind fun m => some m else some b:Option (List D))).bind fun n => some (.inl (n,(A.wrp .i64 (A.zadd a 1)))) else some (.inr b)

def b1o (A:Ar) (c:List D) (g:Int) (d:List D):(List D×Int)->Option ((List D×Int)⊕(List D)):=fun (b,a) => bif (A.zlt a (A.len c)) then (iter (b1n A c g d a) (b,0)).bind (fun e => some (.inl (e,(A.wrp .i64 (A.zadd a 1))))) else some (.inr b)

/-- lineal linealref04.Needed -/
def M44 (A:Ar) (a:List D) (b:Int):Option (List D×Int) := (M57 A a b).bind fun c => bif (A.zeq c 0) then (M58 A a b).bind fun d => (iter (b1o A a b d) ([],0)).bind (fun e => some (e,0)) else some ([],c)

def b2j (A:Ar) (b i:List D):Int->Option ((Int)⊕((Unit)⊕(Unit))):=fun a => bif (A.zlt a (A.len b)) then (gt A (cG (lc (cI .i64) (l1 (cI .i64)))) b a).bind fun (c,d) => (gt A (cG (lc (cI .i64) (l1 (cI .i64)))) i a).bind fun (e,g) => bif (A.deq [(.int .i64 c),(.int .i64 d)] [(.int .i64 e),(.int .i64 g)]) then some (.inl (A.wrp .i64 (A.zadd a 1))) else some (.inr (.inr ())) else some (.inr (.inl ()))

/-- lineal lineallaw04.MemoryNeeds -/
def M10 (A:Ar) (a:List D) (d:Int):Option (Bool) := (M17 A a).bind fun l => bif l then (M18 A).bind fun n => some n else (M32 A a).bind fun (o,e) => (M42 A a).bind fun (g,i) => (M43 A a d).bind fun (b,j) => (M44 A a d).bind fun (c,k) => (( bif (A.beq o g) then bif (A.zeq e i) then bif (A.zeq j k) then some (!(A.zeq (A.len b) (A.len c))) else some true else some true else some true:Option (Bool))).bind fun p => bif p then some false else (iter (b2j A b c) 0).bind (Sum.elim (fun _ => (M18 A).bind fun m => some m) (fun _ => some false))
end
end Go.Am
