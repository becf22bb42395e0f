import Derived.Test.YtlljehkmemajkaaGreatGenp0
set_option maxRecDepth 100000
set_option maxHeartbeats 2000000
set_option linter.unusedVariables false
set_option linter.unusedSimpArgs false
namespace Go.Am
noncomputable section
open Go
def a7Z (A:Ar) (b j:List D):(Int×List (D×D)×List D)->Option ((Int×List (D×D)×List D)⊕(List (D×D)×List D)):=fun (a,c,d) => bif (A.zlt a (A.len b)) then (gt A (cL 3) b a).bind fun e => (iter (a7Y A b j a e) (0,c,d)).bind (fun (g,i) => some (.inl ((A.wrp .i64 (A.zadd a 1)),g,i))) else some (.inr (c,d))

/--  lineal memory.loose .steps -/
def b9M (A:Ar) (d a:List D) (e:List (D×D)) (g:List D):Option (List (D×D)×List D) := (ck (A.zeq (A.len a) (Int.ofNat 41))).bind fun _ => (iter (a7Z A d a) (0,e,g)).bind (fun (b,c) => some (b,c))

def N61 (A:Ar) (c d:Int) (e:List D):Option (List D):=srt (cL 1) (fun a b=>N62 A a b) c d e

def b2F (A:Ar) (b e:List D):Int->Option ((Int)⊕((Unit)⊕(Unit))):=fun a => bif (A.zlt a (A.len b)) then (gt A (cI .i64) b a).bind fun c => (gt A (cI .i64) e a).bind fun d => bif (A.zeq c d) then some (.inl (A.wrp .i64 (A.zadd a 1))) else some (.inr (.inr ())) else some (.inr (.inl ()))

/-- slices.Equal   int int  -/
def N64 (A:Ar) (a b:List D):Option (Bool) := bif (A.zeq (A.len a) (A.len b)) then (iter (b2F A a b) 0).bind (Sum.elim (fun _ => some true) (fun _ => some false)) else some false

def a9i (A:Ar) (e g b:Int):(Int×Int×List D)->Option ((Int×Int×List D)⊕(Int×List D)):=fun (c,a,d) => bif (A.zlt a (A.zsub g b)) then (ck (A.zle 0 a)).bind fun _ => (ck (A.zlt a (A.zsub g b))).bind fun _ => (gc A (cL 1) d (A.nat (A.zadd (A.zadd e b) a))).bind fun i => (ck (A.zle 0 (A.wrp .i64 (A.zsub a 1)))).bind fun _ => (ck (A.zlt (A.wrp .i64 (A.zsub a 1)) (A.zsub g b))).bind fun _ => (gc A (cL 1) d (A.nat (A.zadd (A.zadd e b) (A.wrp .i64 (A.zsub a 1))))).bind fun j => (N64 A i j).bind fun l => (( bif l then some (c,d) else (ck (A.zle 0 a)).bind fun _ => (ck (A.zlt a (A.zsub g b))).bind fun _ => (gc A (cL 1) d (A.nat (A.zadd (A.zadd e b) a))).bind fun k => (ck (A.zle 0 c)).bind fun _ => (ck (A.zlt c g)).bind fun _ => (A.lget d (A.nat (A.zadd e c))).bind fun o => some ((A.wrp .i64 (A.zadd c 1)),(A.lset d (A.nat (A.zadd e c)) (.list 1 k))):Option (Int×List D))).bind fun (m,n) => some (.inl (m,(A.wrp .i64 (A.zadd a 1)),n)) else some (.inr (c,d))

def b1J (A:Ar) (d a:Int) (e:List D):Int->Option ((Int)⊕((Unit)⊕(Int×List D))):=fun b => bif (A.zlt b a) then (ck (A.zle 0 b)).bind fun _ => (ck (A.zlt b a)).bind fun _ => (gc A (cL 1) e (A.nat (A.zadd d b))).bind fun i => (ck (A.zle 0 (A.wrp .i64 (A.zsub b 1)))).bind fun _ => (ck (A.zlt (A.wrp .i64 (A.zsub b 1)) a)).bind fun _ => (gc A (cL 1) e (A.nat (A.zadd d (A.wrp .i64 (A.zsub b 1))))).bind fun j => (N64 A i j).bind fun k => bif k then (ck (A.zle 0 b)).bind fun _ => (ck (A.zle b a)).bind fun _ => (ck (A.zle a a)).bind fun _ => (iter (a9i A d a b) (b,1,e)).bind (fun (c,g) => (ck (A.zle 0 c)).bind fun _ => (ck (A.zle c a)).bind fun _ => (ck (A.zle a a)).bind fun _ => (ck (A.zle (A.zadd (A.zadd d c) (A.zsub a c)) (A.len g))).bind fun _ => (ck (A.zle 0 0)).bind fun _ => (ck (A.zle 0 c)).bind fun _ => (ck (A.zle c a)).bind fun _ => some (.inr (.inr ((A.zsub c 0),(A.fill g (A.zadd d c) (A.zsub a c) (.list 1 [])))))) else some (.inl (A.wrp .i64 (A.zadd b 1))) else some (.inr (.inl ()))

/-- slices.CompactFunc     int   int  -/
def N63 (A:Ar) (a b:Int) (c:List D):Option (Int×Int×List D) := bif (A.zlt b 2) then some (a,b,c) else (iter (b1J A a b c) 1).bind (Sum.elim (fun _ => some (a,b,c)) (fun (d,e) => some ((A.zadd a 0),d,e)))

def a8a (A:Ar) (c:List D) (i:Int):(List (D×D)×List D×List D)->Option ((List (D×D)×List D×List D)⊕(List D)):=fun (g,a,d) => bif (A.zlt 0 (A.len a)) then (ck (A.zle 0 (A.wrp .i64 (A.zsub (A.len a) 1)))).bind fun _ => (ck (A.zlt (A.wrp .i64 (A.zsub (A.len a) 1)) (A.len a))).bind fun _ => (gc A cA a (A.nat (A.wrp .i64 (A.zsub (A.len a) 1)))).bind fun e => (ck (A.zeq (A.len e) (Int.ofNat 41))).bind fun _ => (ck (A.zle (A.zadd (A.zadd 0 (Int.ofNat 0)) (Int.ofNat 41)) (A.len (zz0)))).bind fun _ => (ck (A.zle 0 (A.wrp .i64 (A.zsub (A.len a) 1)))).bind fun _ => (ck (A.zle (A.wrp .i64 (A.zsub (A.len a) 1)) (A.len a))).bind fun _ => (ga A (A.spl (zz0) (A.zadd 0 (Int.ofNat 0)) e) (A.zadd 0 (Int.ofNat 0)) (Int.ofNat 41)).bind fun b => (N58 A b c).bind fun o => (( bif o then (N59 A b c).bind fun p => (ap A d [(.list 1 p)]).bind fun j => some j else some d:Option (List D))).bind fun s => (( bif (A.zeq i (Int.ofNat 151)) then (b9L A c b g (A.sub a 0 (A.wrp .i64 (A.zsub (A.len a) 1)))).bind fun (k,l) => some (k,l) else bif (A.zeq i (Int.ofNat 153)) then (b9M A c b g (A.sub a 0 (A.wrp .i64 (A.zsub (A.len a) 1)))).bind fun (m,n) => some (m,n) else none:Option (List (D×D)×List D))).bind fun (q,r) => some (.inl (q,r,s)) else some (.inr d)

/-- lineal memory.outcomes -/
def N30 (A:Ar) (g:List D) (i:Int):Option (Int×Int×List D) := (ck (A.conf (zz1) (zz0))).bind fun _ => (iter (a8a A g i) ((A.mput [] (.agg (zz0)) (.agg [])),[(.agg (zz0))],[])).bind (fun a => bif (A.zlt 0 (A.len a)) then (N61 A 0 (A.len a) a).bind fun b => (N63 A 0 (A.len a) b).bind fun (c,d,e) => some (c,d,e) else none)

/-- lineal memory.Outcomes -/
def N9 (A:Ar) (b:List D) (k:Int):Option (List D×Int) := (N29 A b [(.int .i64 k)]).bind fun (j,a) => bif (A.zeq a 0) then (gc A cIf j 0).bind fun c => (N30 A b c).bind fun (e,g,i) => (fz A i e g).bind fun d => some (d,0) else some ([],a)

def b2G (A:Ar) (b e:List D):Int->Option ((Int)⊕((Unit)⊕(Unit))):=fun a => bif (A.zlt a (A.len b)) then (gt A (cI .i64) b a).bind fun c => (gt A (cI .i64) e a).bind fun d => bif (A.zeq c d) then some (.inl (A.wrp .i64 (A.zadd a 1))) else some (.inr (.inr ())) else some (.inr (.inl ()))

/-- lineal linealref03.SameInts -/
def N46 (A:Ar) (a b:List D):Option (Bool) := bif (A.zeq (A.len a) (A.len b)) then (iter (b2G A a b) 0).bind (Sum.elim (fun _ => some true) (fun _ => some false)) else some false

def b2H (A:Ar) (b g:List D):Int->Option ((Int)⊕((Unit)⊕(Unit))):=fun a => bif (A.zlt a (A.len b)) then (gt A (cL 1) b a).bind fun c => (gt A (cL 1) g a).bind fun d => (N46 A c d).bind fun e => bif e then some (.inl (A.wrp .i64 (A.zadd a 1))) else some (.inr (.inr ())) else some (.inr (.inl ()))

/-- lineal linealref03.SameLists -/
def N20 (A:Ar) (a b:List D):Option (Bool) := bif (A.zeq (A.len a) (A.len b)) then (iter (b2H A a b) 0).bind (Sum.elim (fun _ => some true) (fun _ => some false)) else some false

/-- lineal linealtop.shown -/
def N18 (A:Ar) (k l:List D):Option (List D×Int) := (N8 A k l).bind fun (b,g) => (N9 A b 1).bind fun (a,i) => (N9 A b 3).bind fun (c,d) => (( bif (A.zeq g 0) then bif (A.zeq i 0) then bif (A.zeq d 0) then (N20 A a c).bind fun e => bif e then some (A.zeq (A.len a) 0) else some true else some true else some true else some true:Option (Bool))).bind fun j => bif j then some ([],5) else some (a,0)

/-- lineal linealtop.TopDelay -/
def N4 (A:Ar) (a b:List D):Option (Bool) := (( (N5 A a 6).bind fun s => bif s then (N11 A a b).bind fun G => some (!G) else some true:Option (Bool))).bind fun O => bif O then (N6 A).bind fun g => some g else (N12 A a b).bind fun (d,i) => (N13 A a b).bind fun (c,j) => (N14 A a b).bind fun (k,l) => (N15 A a).bind fun (m,n) => (( bif (A.zeq i 0) then bif (A.zeq j 0) then bif (A.zeq l 0) then some (!(A.zeq n 0)) else some true else some true else some true:Option (Bool))).bind fun K => bif K then some false else (N16 A a b k c).bind fun (o,p) => (N17 A a b d).bind fun (q,r) => (( bif (A.zeq p 0) then bif (A.zeq r 0) then bif o then some (!(A.zeq q c)) else some true else some true else some true:Option (Bool))).bind fun L => bif L then some false else (N19 A a).bind fun u => (N18 A a u).bind fun (e,v) => (N18 A a d).bind fun (w,y) => (( bif (A.zeq v 0) then bif (A.zeq y 0) then (N20 A e w).bind fun z => some (!z) else some true else some true:Option (Bool))).bind fun M => bif M then some false else bif (A.zeq (A.len m) 0) then (N18 A a []).bind fun (B,C) => (( bif (A.zeq C 0) then bif (A.zeq c 0) then (N20 A e B).bind fun E => bif E then (N6 A).bind fun F => some F else some false else some false else some false:Option (Bool))).bind fun N => some N else (N6 A).bind fun J => some J
end
end Go.Am
