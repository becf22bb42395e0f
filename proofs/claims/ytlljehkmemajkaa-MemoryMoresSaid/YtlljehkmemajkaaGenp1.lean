import Derived.Test.YtlljehkmemajkaaGenp0
set_option maxRecDepth 100000
set_option maxHeartbeats 2000000
set_option linter.unusedVariables false
set_option linter.unusedSimpArgs false
namespace Go.Am
noncomputable section
open Go
def a6H (A:Ar) (b:List D) (i j k l:Int) (m n c:List D) (self112:List D->Int->Int->Int->Int->List D->List D->List D->List D->Option (List D)):(Bool×Int×List D)->Option ((Bool×Int×List D)⊕(Bool×List D)):=fun (e,a,g) => bif (A.zlt a (A.len b)) then (iter (a5q A b i j k l m n c self112 a) (e,0,g)).bind (fun (z,d) => (gt A (cL 2) c a).bind fun E => (( bif (A.zlt 0 (A.len E)) then (b8h A a b i j k l m n c).bind fun (o,p,q,r,s,u,v,w) => (self112 o p q r s u v w d).bind fun y => some (false,y) else some (z,d):Option (Bool×List D))).bind fun (B,C) => some (.inl (B,(A.wrp .i64 (A.zadd a 1)),C))) else some (.inr (e,g))

/--  *lineal linealref04.world .ends -/
def b1f (A:Ar) (self112:List D->Int->Int->Int->Int->List D->List D->List D->List D->Option (List D)) (b:List D) (c d e g:Int) (i j k p:List D):Option (List D) := (iter (a6H A b c d e g i j k self112) (true,0,p)).bind (fun (n,a) => (( bif n then (b8z A b c d e g i j k).bind fun l => (b8i A l a).bind fun m => some m else some a:Option (List D))).bind fun o => some o)

def a4W (A:Ar):Nat->List D->Int->Int->Int->Int->List D->List D->List D->List D->Option (List D) | 0=>fun _ _ _ _ _ _ _ _ _=>none | n+1=>fun a b c d e g i j k=>b1f A (a4W A n) a b c d e g i j k

def c0x (A:Ar) (a:List D) (b c d e:Int) (g i j k:List D):Option (List D):=a4W A fuel a b c d e g i j k

/-- lineal linealref04.outcomes -/
def M58 (A:Ar) (i:List D) (j:Int):Option (List D) := (b8x A i j).bind fun (b,c,d,e,g) => (c0x A b c 0 0 0 d e g []).bind fun a => some a

def b1g (A:Ar) (d g:List D):(List D×Int)->Option ((List D×Int)⊕(List D)):=fun (a,b) => bif (A.zlt b (A.len d)) then (gt A (cL 1) d b).bind fun c => (M31 A g c).bind fun i => (( bif i then some a else (ap A a [(.list 1 c)]).bind fun e => some e:Option (List D))).bind fun j => some (.inl (j,(A.wrp .i64 (A.zadd b 1)))) else some (.inr a)

/-- lineal linealref04.More -/
def M27 (A:Ar) (a:List D) (d e:Int):Option (List D×Int) := (M57 A a d).bind fun b => (( bif (A.zeq b 0) then (M57 A a e).bind fun j => some j else some b:Option (Int))).bind fun c => bif (A.zeq c 0) then (M58 A a d).bind fun g => (M58 A a e).bind fun i => (iter (b1g A g i) ([],0)).bind (fun k => some (k,0)) else some ([],c)

/-- lineal lineallaw04.MemoryMores -/
def M4 (A:Ar) (a:List D) (b c:Int):Option (Bool) := (M17 A a).bind fun l => bif l then (M18 A).bind fun m => some m else (M26 A a b c).bind fun (d,e) => (M27 A a b c).bind fun (g,i) => (( (M25 A d g).bind fun j => bif j then bif (A.zeq e i) then (M18 A).bind fun k => some k else some false else some false:Option (Bool))).bind fun n => some n
end
end Go.Am
