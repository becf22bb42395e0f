import Derived.Test.YtlljehkmemajkaaAmSrt
import Derived.Test.YtlljehkmemajkaaAmSrt
import Derived.Test.YtlljehkmemajkaaAmSrt
import Derived.Test.YtlljehkmemajkaaAmSrt
import Derived.Test.YtlljehkmemajkaaAmKeys
set_option maxRecDepth 100000
set_option maxHeartbeats 2000000
set_option linter.unusedVariables false
set_option linter.unusedSimpArgs false
namespace Go.Am
noncomputable section
open Go
def b2c (A:Ar) (b:List D):Int->Option ((Int)⊕((Unit)⊕(Unit))):=fun a => bif (A.zlt a (A.len b)) then (gt A (cL 3) b a).bind fun c => bif (A.zlt 20 (A.len c)) then some (.inr (.inr ())) else some (.inl (A.wrp .i64 (A.zadd a 1))) else some (.inr (.inl ()))

/-- lineal lineallaw04.Long -/
def M17 (A:Ar) (a:List D):Option (Bool) := (iter (b2c A a) 0).bind (Sum.elim (fun _ => some (A.zlt 5 (A.len a))) (fun _ => some true))

/-- lineal linealref04.within -/
def M66 (A:Ar) (c a d:Int):Option (Bool) := (( bif (A.zle c a) then some (A.zle a d) else some false:Option (Bool))).bind fun b => some b

/-- lineal linealref04.isAct -/
def M67 (A:Ar) (a b c:Int):Option (Bool) := bif (A.zeq a 1) then (( (M66 A 0 b 2).bind fun g => bif g then some (A.zeq c 0) else some false:Option (Bool))).bind fun k => some k else bif (A.zeq a 2) then (( (M66 A 0 b 2).bind fun d => bif d then (M66 A 0 c 3).bind fun e => some e else some false:Option (Bool))).bind fun i => some i else (( bif (A.zeq a 3) then bif (A.zeq b 0) then some (A.zeq c 0) else some false else some false:Option (Bool))).bind fun j => some j

def a9v (A:Ar) (c:List D):(Int×Int)->Option ((Int×Int)⊕((Int)⊕(Unit))):=fun (a,b) => bif (A.zlt b (A.len c)) then (gt A (cG (lc (cI .i64) (lc (cI .i64) (l1 (cI .i64))))) c b).bind fun (d,e,g) => (M67 A d e g).bind fun i => bif i then (( bif (A.zeq d 3) then some a else some (A.wrp .i64 (A.zadd a 1)):Option (Int))).bind fun j => some (.inl (j,(A.wrp .i64 (A.zadd b 1)))) else some (.inr (.inr ())) else some (.inr (.inl a))

def b1f (A:Ar) (e:List D):(Int×Int)->Option ((Int×Int)⊕((Int)⊕(Unit))):=fun (c,a) => bif (A.zlt a (A.len e)) then (gt A (cL 3) e a).bind fun b => bif (A.zlt 7 (A.len b)) then some (.inr (.inr ())) else (iter (a9v A b) (0,0)).bind (Sum.elim (fun d => bif (A.zlt 4 d) then some (.inr (.inr ())) else some (.inl ((A.wrp .i64 (A.zadd c d)),(A.wrp .i64 (A.zadd a 1))))) (fun _ => some (.inr (.inr ())))) else some (.inr (.inl c))

/-- lineal linealref04.Valid -/
def M24 (A:Ar) (a:List D):Option (Bool) := (M66 A 1 (A.len a) 3).bind fun b => bif b then (iter (b1f A a) (0,0)).bind (Sum.elim (fun c => some (A.zle c 8)) (fun _ => some false)) else some false

/-- lineal memory.between -/
def M65 (A:Ar) (c a d:Int):Option (Bool) := (( bif (A.zle c a) then some (A.zle a d) else some false:Option (Bool))).bind fun b => some b

/-- lineal memory.isAct -/
def M62 (A:Ar) (a b c:Int):Option (Bool) := bif (A.zeq a 1) then (( (M65 A 0 b 2).bind fun g => bif g then some (A.zeq c 0) else some false:Option (Bool))).bind fun j => some j else bif (A.zeq a 2) then (( (M65 A 0 b 2).bind fun d => bif d then (M65 A 0 c 3).bind fun e => some e else some false:Option (Bool))).bind fun i => some i else some (A.deq [(.int .i64 a),(.int .i64 b),(.int .i64 c)] [(.int .i64 3),(.int .i64 0),(.int .i64 0)])

/-- lineal memory.Valid$1 -/
def M61 (A:Ar) (b c d:Int):Option (Bool) := (M62 A b c d).bind fun a => some (!a)

def b0o (A:Ar) (b:List D):Int->Option ((Int)⊕((Unit)⊕(Int))):=fun a => bif (A.zlt a (A.len b)) then (gt A (cG (lc (cI .i64) (lc (cI .i64) (l1 (cI .i64))))) b a).bind fun (c,d,e) => (M61 A c d e).bind fun g => bif g then some (.inr (.inr a)) else some (.inl (A.wrp .i64 (A.zadd a 1))) else some (.inr (.inl ()))

/-- slices.IndexFunc   lineal api.Act lineal api.Act  -/
def b8O (A:Ar) (b:List D):Option (Int) := (iter (b0o A b) 0).bind (Sum.elim (fun _ => some (-1)) (fun a => some a))

/-- slices.ContainsFunc   lineal api.Act lineal api.Act  -/
def M60 (A:Ar) (b:List D):Option (Bool) := (b8O A b).bind fun a => some (A.zle 0 a)

/-- lineal memory.works -/
def M64 (A:Ar) (a b c:Int):Option (Bool) := some (!(A.zeq a 3))

def b2d (A:Ar) (c:List D):(Int×Int)->Option ((Int×Int)⊕(Int)):=fun (a,b) => bif (A.zlt b (A.len c)) then (gt A (cG (lc (cI .i64) (lc (cI .i64) (l1 (cI .i64))))) c b).bind fun (d,e,g) => (M64 A d e g).bind fun i => (( bif i then some (A.wrp .i64 (A.zadd a 1)) else some a:Option (Int))).bind fun j => some (.inl (j,(A.wrp .i64 (A.zadd b 1)))) else some (.inr a)

/-- lineal memory.count -/
def M63 (A:Ar) (b:List D):Option (Int) := (iter (b2d A b) (0,0)).bind (fun a => some a)

def b1g (A:Ar) (d:List D):(Int×Int)->Option ((Int×Int)⊕((Int)⊕(Unit))):=fun (c,b) => bif (A.zlt b (A.len d)) then (gt A (cL 3) d b).bind fun a => (( bif (A.zlt 7 (A.len a)) then some true else (M60 A a).bind fun e => bif e then some true else (M63 A a).bind fun g => some (A.zlt 4 g):Option (Bool))).bind fun j => bif j then some (.inr (.inr ())) else (M63 A a).bind fun i => some (.inl ((A.wrp .i64 (A.zadd c i)),(A.wrp .i64 (A.zadd b 1)))) else some (.inr (.inl c))

/-- lineal memory.Valid -/
def M23 (A:Ar) (a:List D):Option (Bool) := (iter (b1g A a) (0,0)).bind (Sum.elim (fun c => (( (M65 A 1 (A.len a) 3).bind fun b => bif b then some (A.zle c 8) else some false:Option (Bool))).bind fun d => some d) (fun _ => some false))

/-- lineal memory.kindOf -/
def M95 (A:Ar) (a:Int):Option (Int) := bif (A.zeq a 1) then some (Int.ofNat 143) else bif (A.zeq a 2) then some (Int.ofNat 144) else bif (A.zeq a 3) then some (Int.ofNat 145) else some (-1)

def b2e (A:Ar) (d:List D):(List D×Int)->Option ((List D×Int)⊕((List D)⊕(Unit))):=fun (c,a) => bif (A.zlt a (A.len d)) then (gt A (cI .i64) d a).bind fun e => (M95 A e).bind fun b => bif (A.zlt b 0) then some (.inr (.inr ())) else (ap A c [(.iface b)]).bind fun g => some (.inl (g,(A.wrp .i64 (A.zadd a 1)))) else some (.inr (.inl c))

/-- lineal memory.checked -/
def M55 (A:Ar) (c d:List D):Option (List D×Int) := (M23 A c).bind fun a => bif a then (iter (b2e A d) ([],0)).bind (Sum.elim (fun b => some (b,0)) (fun _ => some ([],2))) else some ([],40)

def b2f (A:Ar) (c d:List D):Int->Option ((Int)⊕((Unit)⊕(Unit))):=fun a => bif (A.zlt a (A.len d)) then (( (ck (A.zle 0 a)).bind fun _ => (ck (A.zlt a (Int.ofNat 3))).bind fun _ => (gc A (cI .u8) c (A.nat (A.zadd 0 (A.zmul a (Int.ofNat 1))))).bind fun e => (gt A (cL 3) d a).bind fun b => (nk (A.zlt (A.len b) 0)).bind fun _ => bif (A.zeq e (A.wrp .u8 (A.zsub (A.shl .u8 1 (A.len b)) 1))) then (ck (A.zle 0 a)).bind fun _ => (ck (A.zlt a (Int.ofNat 3))).bind fun _ => (gc A (cI .i64) c (A.nat (A.zadd (A.zadd 0 (A.zmul a (Int.ofNat 1))) (Int.ofNat 38)))).bind fun g => some (A.zlt 0 g) else some true:Option (Bool))).bind fun i => bif i then some (.inr (.inr ())) else some (.inl (A.wrp .i64 (A.zadd a 1))) else some (.inr (.inl ()))

/--  lineal memory.state .over -/
def M77 (A:Ar) (a b:List D):Option (Bool) := (ck (A.zeq (A.len a) (Int.ofNat 41))).bind fun _ => (iter (b2f A a b) 0).bind (Sum.elim (fun _ => some true) (fun _ => some false))

/-- lineal memory.loads -/
def M80 (A:Ar) (a b c:Int):Option (Bool) := some (A.zeq a 1)

def a8d (A:Ar) (c:List D):(Int×Int)->Option ((Int×Int)⊕(Int)):=fun (a,b) => bif (A.zlt b (A.len c)) then (gt A (cG (lc (cI .i64) (lc (cI .i64) (l1 (cI .i64))))) c b).bind fun (d,e,g) => (M80 A d e g).bind fun i => (( bif i then some (A.wrp .i64 (A.zadd a 1)) else some a:Option (Int))).bind fun j => some (.inl (j,(A.wrp .i64 (A.zadd b 1)))) else some (.inr a)

/-- lineal memory.count -/
def b6S (A:Ar) (b:List D):Option (Int) := (iter (a8d A b) (0,0)).bind (fun a => some a)

/-- slices.Clone   int8 int8  -/
def b8P (A:Ar) (a b:Int) (c:List D):Option (List D) := (ck (A.zle (A.zadd a b) (A.len c))).bind fun _ => (ap A [] (A.sub c a (A.zadd a b))).bind fun d => some d

def b2g (A:Ar) (c:List D):(Int×Int)->Option ((Int×Int)⊕(Int)):=fun (b,a) => bif (A.zlt a (A.len c)) then (gt A (cL 3) c a).bind fun d => (b6S A d).bind fun e => some (.inl ((A.wrp .i64 (A.zadd b e)),(A.wrp .i64 (A.zadd a 1)))) else some (.inr b)

def b2h (A:Ar) (b:List D):(List D×Int)->Option ((List D×Int)⊕(List D)):=fun (c,a) => bif (A.zlt a (A.len b)) then (gt A (cI .i8) b a).bind fun d => (ap A c [(.int .i64 (A.wrp .i64 d))]).bind fun e => some (.inl (e,(A.wrp .i64 (A.zadd a 1)))) else some (.inr c)

/--  lineal memory.state .outcome -/
def M78 (A:Ar) (a g:List D):Option (List D) := (ck (A.zeq (A.len a) (Int.ofNat 41))).bind fun _ => (iter (b2g A g) (0,0)).bind (fun b => (ck (A.zle 0 0)).bind fun _ => (ck (A.zle 0 b)).bind fun _ => (ck (A.zle b (Int.ofNat 8))).bind fun _ => (ck (A.zle 0 (A.zadd 0 (Int.ofNat 3)))).bind fun _ => (b8P A (A.zadd (A.zadd 0 (Int.ofNat 3)) 0) (A.zsub b 0) a).bind fun d => (ck (A.zle 0 0)).bind fun _ => (ck (A.zle 0 (Int.ofNat 3))).bind fun _ => (ck (A.zle (Int.ofNat 3) (Int.ofNat 3))).bind fun _ => (ck (A.zle 0 (A.zadd 0 (Int.ofNat 11)))).bind fun _ => (ck (A.zle (A.zadd (A.zadd (A.zadd 0 (Int.ofNat 11)) 0) (A.zsub (Int.ofNat 3) 0)) (A.len a))).bind fun _ => (ap A d (A.sub a (A.zadd (A.zadd 0 (Int.ofNat 11)) 0) (A.zadd (A.zadd (A.zadd 0 (Int.ofNat 11)) 0) (A.zsub (Int.ofNat 3) 0)))).bind fun c => (iter (b2h A c) ([],0)).bind (fun e => some e))

def b4I (A:Ar) (d:List D) (b:Int):Int->Option ((Int)⊕(Int)):=fun a => (ck (A.zle 0 b)).bind fun _ => (ck (A.zlt b (Int.ofNat 3))).bind fun _ => (gc A (cI .u8) d (A.nat (A.zadd 0 (A.zmul b (Int.ofNat 1))))).bind fun c => (nk (A.zlt a 0)).bind fun _ => bif (A.zeq (A.bits .and .u8 (A.shr .u8 c a) 1) 1) then some (.inl (A.wrp .i64 (A.zadd a 1))) else some (.inr a)

/--  lineal memory.state .next -/
def M75 (A:Ar) (a:List D) (c:Int):Option (Int) := (ck (A.zeq (A.len a) (Int.ofNat 41))).bind fun _ => (iter (b4I A a c) 0).bind (fun b => some b)

def a8e (A:Ar) (b:List D):(Int×Int)->Option ((Int×Int)⊕(Int)):=fun (c,a) => bif (A.zlt a (A.len b)) then (gt A (cL 3) b a).bind fun d => (b6S A d).bind fun e => some (.inl ((A.wrp .i64 (A.zadd c e)),(A.wrp .i64 (A.zadd a 1)))) else some (.inr c)

/-- lineal memory.number -/
def b8D (A:Ar) (a:List D) (b j:Int):Option (Int) := (gt A (cL 3) a b).bind fun c => (sl A c 0 j).bind fun e => (b6S A e).bind fun g => (sl A a 0 b).bind fun d => (iter (a8e A d) (g,0)).bind (fun i => some i)

/--  lineal memory.state .does -/
def M76 (A:Ar) (b k:List D) (a c:Int):Option (List D) := (ck (A.zeq (A.len b) (Int.ofNat 41))).bind fun _ => (ck (A.zle 0 a)).bind fun _ => (ck (A.zlt a (Int.ofNat 3))).bind fun _ => (gc A (cI .u8) b (A.nat (A.zadd 0 (A.zmul a (Int.ofNat 1))))).bind fun e => (nk (A.zlt c 0)).bind fun _ => (ck (A.zle 0 a)).bind fun _ => (ck (A.zlt a (Int.ofNat 3))).bind fun _ => (A.lget b (A.nat (A.zadd 0 (A.zmul a (Int.ofNat 1))))).bind fun q => (gt A (cL 3) k a).bind fun l => (gt A (cG (lc (cI .i64) (lc (cI .i64) (l1 (cI .i64))))) l c).bind fun (j,d,m) => (( bif (A.zeq j 1) then (b8D A k a c).bind fun i => (ck (A.zle 0 d)).bind fun _ => (ck (A.zlt d (Int.ofNat 3))).bind fun _ => (gc A (cI .i8) (A.lset b (A.nat (A.zadd 0 (A.zmul a (Int.ofNat 1)))) (.int .u8 (A.bits .or .u8 e (A.shl .u8 1 c)))) (A.nat (A.zadd (A.zadd 0 (A.zmul d (Int.ofNat 1))) (Int.ofNat 11)))).bind fun n => (ck (A.zle 0 i)).bind fun _ => (ck (A.zlt i (Int.ofNat 8))).bind fun _ => (A.lget (A.lset b (A.nat (A.zadd 0 (A.zmul a (Int.ofNat 1)))) (.int .u8 (A.bits .or .u8 e (A.shl .u8 1 c)))) (A.nat (A.zadd (A.zadd 0 (A.zmul i (Int.ofNat 1))) (Int.ofNat 3)))).bind fun r => some (A.lset (A.lset b (A.nat (A.zadd 0 (A.zmul a (Int.ofNat 1)))) (.int .u8 (A.bits .or .u8 e (A.shl .u8 1 c)))) (A.nat (A.zadd (A.zadd 0 (A.zmul i (Int.ofNat 1))) (Int.ofNat 3))) (.int .i8 n)) else (( bif (A.zeq j 2) then (ck (A.zle 0 d)).bind fun _ => (ck (A.zlt d (Int.ofNat 3))).bind fun _ => (A.lget (A.lset b (A.nat (A.zadd 0 (A.zmul a (Int.ofNat 1)))) (.int .u8 (A.bits .or .u8 e (A.shl .u8 1 c)))) (A.nat (A.zadd (A.zadd 0 (A.zmul d (Int.ofNat 1))) (Int.ofNat 11)))).bind fun s => some (A.lset (A.lset b (A.nat (A.zadd 0 (A.zmul a (Int.ofNat 1)))) (.int .u8 (A.bits .or .u8 e (A.shl .u8 1 c)))) (A.nat (A.zadd (A.zadd 0 (A.zmul d (Int.ofNat 1))) (Int.ofNat 11))) (.int .i8 (A.wrp .i8 m))) else some (A.lset b (A.nat (A.zadd 0 (A.zmul a (Int.ofNat 1)))) (.int .u8 (A.bits .or .u8 e (A.shl .u8 1 c)))):Option (List D))).bind fun o => some o:Option (List D))).bind fun p => (ga A p (A.zadd 0 (Int.ofNat 0)) (Int.ofNat 41)).bind fun g => (ck (A.zeq (A.len g) (Int.ofNat 41))).bind fun _ => (ck (A.zle (A.zadd (A.zadd 0 (Int.ofNat 0)) (Int.ofNat 41)) (A.len (zz0)))).bind fun _ => (ck (A.zeq (A.len (A.spl (zz0) (A.zadd 0 (Int.ofNat 0)) g)) (Int.ofNat 41))).bind fun _ => (ck (A.ones (A.spl (zz0) (A.zadd 0 (Int.ofNat 0)) g))).bind fun _ => some (A.spl (zz0) (A.zadd 0 (Int.ofNat 0)) g)

/-- lineal memory.outcomes$1 -/
def M96 (A:Ar) (b:List D) (c:List (D×D)) (m e:List D):Option (List (D×D)×List D) := (ck (A.zeq (A.len b) (Int.ofNat 41))).bind fun _ => (( (ga A b (A.zadd 0 (Int.ofNat 0)) (Int.ofNat 41)).bind fun d => (ck (A.conf (zz1) d)).bind fun _ => (lk A cU c (.agg d)).bind fun i=>i.elim ( some false) fun () => some true:Option (Bool))).bind fun j => (( bif j then some (c,e) else (ga A b (A.zadd 0 (Int.ofNat 0)) (Int.ofNat 41)).bind fun a => (ck (A.conf (zz1) a)).bind fun _ => (ck (A.zeq (A.len a) (Int.ofNat 41))).bind fun _ => (ap A e [(.agg a)]).bind fun g => some ((A.mput c (.agg a) (.agg [])),g):Option (List (D×D)×List D))).bind fun (k,l) => some (k,l)

def a8f (A:Ar) (d i:List D):(Int×List (D×D)×List D)->Option ((Int×List (D×D)×List D)⊕(List (D×D)×List D)):=fun (a,b,c) => bif (A.zlt a (A.len d)) then (ga A i (A.zadd 0 (Int.ofNat 0)) (Int.ofNat 41)).bind fun e => (M75 A e a).bind fun g => (gt A (cL 3) d a).bind fun j => (( bif (A.zlt g (A.len j)) then (M76 A e d a g).bind fun k => (M96 A k b i c).bind fun (l,m) => some (l,m) else some (b,c):Option (List (D×D)×List D))).bind fun (n,o) => some (.inl ((A.wrp .i64 (A.zadd a 1)),n,o)) else some (.inr (b,c))

/--  lineal memory.strict .steps -/
def b8Q (A:Ar) (d a:List D) (e:List (D×D)) (g:List D):Option (List (D×D)×List D) := (ck (A.zeq (A.len a) (Int.ofNat 41))).bind fun _ => (iter (a8f A d a) (0,e,g)).bind (fun (b,c) => some (b,c))

/--  lineal memory.state .out -/
def b8R (A:Ar) (c:List D) (a:Int):Option (List D) := (ck (A.zeq (A.len c) (Int.ofNat 41))).bind fun _ => (ck (A.zle 0 a)).bind fun _ => (ck (A.zlt a (Int.ofNat 3))).bind fun _ => (gd A (lc (cI .i8) (l1 (cI .i8))) c (A.zadd (A.zadd 0 (A.zmul a (Int.ofNat 8))) (Int.ofNat 14)) (Int.ofNat 2)).bind fun (b,d) => (ck (A.zle 0 b)).bind fun _ => (ck (A.zlt b (Int.ofNat 3))).bind fun _ => (A.lget c (A.nat (A.zadd (A.zadd 0 (A.zmul b (Int.ofNat 1))) (Int.ofNat 11)))).bind fun j => (ck (A.zle 0 a)).bind fun _ => (ck (A.zlt a (Int.ofNat 3))).bind fun _ => (ck (A.zle 0 0)).bind fun _ => (ck (A.zle 0 (Int.ofNat 4))).bind fun _ => (ck (A.zle (Int.ofNat 4) (Int.ofNat 4))).bind fun _ => (ck (A.zle 0 (A.zadd (A.zadd 0 (A.zmul a (Int.ofNat 8))) (Int.ofNat 14)))).bind fun _ => (ck (A.zle 0 (A.quo .i64 (A.zadd (A.zadd 0 (A.zmul a (Int.ofNat 8))) (Int.ofNat 14)) (Int.ofNat 2)))).bind fun _ => (ck (A.zeq (A.zmul (A.quo .i64 (A.zadd (A.zadd 0 (A.zmul a (Int.ofNat 8))) (Int.ofNat 14)) (Int.ofNat 2)) (Int.ofNat 2)) (A.zadd (A.zadd 0 (A.zmul a (Int.ofNat 8))) (Int.ofNat 14)))).bind fun _ => (ck (A.zle 0 a)).bind fun _ => (ck (A.zlt a (Int.ofNat 3))).bind fun _ => (ck (A.zle 0 1)).bind fun _ => (ck (A.zle 1 (Int.ofNat 4))).bind fun _ => (ck (A.zle (Int.ofNat 4) (Int.ofNat 4))).bind fun _ => (ck (A.zle 0 (A.zadd (A.zadd 0 (A.zmul a (Int.ofNat 8))) (Int.ofNat 14)))).bind fun _ => (ck (A.zle 0 (A.quo .i64 (A.zadd (A.zadd 0 (A.zmul a (Int.ofNat 8))) (Int.ofNat 14)) (Int.ofNat 2)))).bind fun _ => (ck (A.zeq (A.zmul (A.quo .i64 (A.zadd (A.zadd 0 (A.zmul a (Int.ofNat 8))) (Int.ofNat 14)) (Int.ofNat 2)) (Int.ofNat 2)) (A.zadd (A.zadd 0 (A.zmul a (Int.ofNat 8))) (Int.ofNat 14)))).bind fun _ => (ck (A.zle (A.zsub (Int.ofNat 4) 1) (A.zsub (Int.ofNat 4) 0))).bind fun _ => (ck (A.zle (A.zmul (A.zadd (A.zadd (A.quo .i64 (A.zadd (A.zadd 0 (A.zmul a (Int.ofNat 8))) (Int.ofNat 14)) (Int.ofNat 2)) 0) (A.zsub (Int.ofNat 4) 0)) (Int.ofNat 2)) (A.len (A.lset c (A.nat (A.zadd (A.zadd 0 (A.zmul b (Int.ofNat 1))) (Int.ofNat 11))) (.int .i8 d))))).bind fun _ => (ck (A.zle (A.zmul (A.zadd (A.zadd (A.quo .i64 (A.zadd (A.zadd 0 (A.zmul a (Int.ofNat 8))) (Int.ofNat 14)) (Int.ofNat 2)) 1) (A.zsub (Int.ofNat 4) 1)) (Int.ofNat 2)) (A.len (A.lset c (A.nat (A.zadd (A.zadd 0 (A.zmul b (Int.ofNat 1))) (Int.ofNat 11))) (.int .i8 d))))).bind fun _ => (ck (A.zle 0 a)).bind fun _ => (ck (A.zlt a (Int.ofNat 3))).bind fun _ => (gc A (cI .i64) (A.spl (A.lset c (A.nat (A.zadd (A.zadd 0 (A.zmul b (Int.ofNat 1))) (Int.ofNat 11))) (.int .i8 d)) (A.zmul (A.zadd (A.quo .i64 (A.zadd (A.zadd 0 (A.zmul a (Int.ofNat 8))) (Int.ofNat 14)) (Int.ofNat 2)) 0) (Int.ofNat 2)) (A.sub (A.lset c (A.nat (A.zadd (A.zadd 0 (A.zmul b (Int.ofNat 1))) (Int.ofNat 11))) (.int .i8 d)) (A.zmul (A.zadd (A.quo .i64 (A.zadd (A.zadd 0 (A.zmul a (Int.ofNat 8))) (Int.ofNat 14)) (Int.ofNat 2)) 1) (Int.ofNat 2)) (A.zmul (A.zadd (A.zadd (A.quo .i64 (A.zadd (A.zadd 0 (A.zmul a (Int.ofNat 8))) (Int.ofNat 14)) (Int.ofNat 2)) 1) (A.zsub (Int.ofNat 4) 1)) (Int.ofNat 2)))) (A.nat (A.zadd (A.zadd 0 (A.zmul a (Int.ofNat 1))) (Int.ofNat 38)))).bind fun i => (ck (A.zle 0 a)).bind fun _ => (ck (A.zlt a (Int.ofNat 3))).bind fun _ => (A.lget (A.spl (A.lset c (A.nat (A.zadd (A.zadd 0 (A.zmul b (Int.ofNat 1))) (Int.ofNat 11))) (.int .i8 d)) (A.zmul (A.zadd (A.quo .i64 (A.zadd (A.zadd 0 (A.zmul a (Int.ofNat 8))) (Int.ofNat 14)) (Int.ofNat 2)) 0) (Int.ofNat 2)) (A.sub (A.lset c (A.nat (A.zadd (A.zadd 0 (A.zmul b (Int.ofNat 1))) (Int.ofNat 11))) (.int .i8 d)) (A.zmul (A.zadd (A.quo .i64 (A.zadd (A.zadd 0 (A.zmul a (Int.ofNat 8))) (Int.ofNat 14)) (Int.ofNat 2)) 1) (Int.ofNat 2)) (A.zmul (A.zadd (A.zadd (A.quo .i64 (A.zadd (A.zadd 0 (A.zmul a (Int.ofNat 8))) (Int.ofNat 14)) (Int.ofNat 2)) 1) (A.zsub (Int.ofNat 4) 1)) (Int.ofNat 2)))) (A.nat (A.zadd (A.zadd 0 (A.zmul a (Int.ofNat 1))) (Int.ofNat 38)))).bind fun k => (ck (A.zle 0 a)).bind fun _ => (ck (A.zlt a (Int.ofNat 3))).bind fun _ => (gc A (cI .i64) (A.lset (A.spl (A.lset c (A.nat (A.zadd (A.zadd 0 (A.zmul b (Int.ofNat 1))) (Int.ofNat 11))) (.int .i8 d)) (A.zmul (A.zadd (A.quo .i64 (A.zadd (A.zadd 0 (A.zmul a (Int.ofNat 8))) (Int.ofNat 14)) (Int.ofNat 2)) 0) (Int.ofNat 2)) (A.sub (A.lset c (A.nat (A.zadd (A.zadd 0 (A.zmul b (Int.ofNat 1))) (Int.ofNat 11))) (.int .i8 d)) (A.zmul (A.zadd (A.quo .i64 (A.zadd (A.zadd 0 (A.zmul a (Int.ofNat 8))) (Int.ofNat 14)) (Int.ofNat 2)) 1) (Int.ofNat 2)) (A.zmul (A.zadd (A.zadd (A.quo .i64 (A.zadd (A.zadd 0 (A.zmul a (Int.ofNat 8))) (Int.ofNat 14)) (Int.ofNat 2)) 1) (A.zsub (Int.ofNat 4) 1)) (Int.ofNat 2)))) (A.nat (A.zadd (A.zadd 0 (A.zmul a (Int.ofNat 1))) (Int.ofNat 38))) (.int .i64 (A.wrp .i64 (A.zsub i 1)))) (A.nat (A.zadd (A.zadd 0 (A.zmul a (Int.ofNat 1))) (Int.ofNat 38)))).bind fun e => (ck (A.zle 0 a)).bind fun _ => (ck (A.zlt a (Int.ofNat 3))).bind fun _ => (ck (A.zle 0 e)).bind fun _ => (ck (A.zlt e (Int.ofNat 4))).bind fun _ => (ck (A.zle (A.zadd (A.zadd (A.zadd (A.zadd 0 (A.zmul a (Int.ofNat 8))) (A.zmul e (Int.ofNat 2))) (Int.ofNat 14)) (Int.ofNat 2)) (A.len (A.lset (A.spl (A.lset c (A.nat (A.zadd (A.zadd 0 (A.zmul b (Int.ofNat 1))) (Int.ofNat 11))) (.int .i8 d)) (A.zmul (A.zadd (A.quo .i64 (A.zadd (A.zadd 0 (A.zmul a (Int.ofNat 8))) (Int.ofNat 14)) (Int.ofNat 2)) 0) (Int.ofNat 2)) (A.sub (A.lset c (A.nat (A.zadd (A.zadd 0 (A.zmul b (Int.ofNat 1))) (Int.ofNat 11))) (.int .i8 d)) (A.zmul (A.zadd (A.quo .i64 (A.zadd (A.zadd 0 (A.zmul a (Int.ofNat 8))) (Int.ofNat 14)) (Int.ofNat 2)) 1) (Int.ofNat 2)) (A.zmul (A.zadd (A.zadd (A.quo .i64 (A.zadd (A.zadd 0 (A.zmul a (Int.ofNat 8))) (Int.ofNat 14)) (Int.ofNat 2)) 1) (A.zsub (Int.ofNat 4) 1)) (Int.ofNat 2)))) (A.nat (A.zadd (A.zadd 0 (A.zmul a (Int.ofNat 1))) (Int.ofNat 38))) (.int .i64 (A.wrp .i64 (A.zsub i 1))))))).bind fun _ => (ga A (A.spl (A.lset (A.spl (A.lset c (A.nat (A.zadd (A.zadd 0 (A.zmul b (Int.ofNat 1))) (Int.ofNat 11))) (.int .i8 d)) (A.zmul (A.zadd (A.quo .i64 (A.zadd (A.zadd 0 (A.zmul a (Int.ofNat 8))) (Int.ofNat 14)) (Int.ofNat 2)) 0) (Int.ofNat 2)) (A.sub (A.lset c (A.nat (A.zadd (A.zadd 0 (A.zmul b (Int.ofNat 1))) (Int.ofNat 11))) (.int .i8 d)) (A.zmul (A.zadd (A.quo .i64 (A.zadd (A.zadd 0 (A.zmul a (Int.ofNat 8))) (Int.ofNat 14)) (Int.ofNat 2)) 1) (Int.ofNat 2)) (A.zmul (A.zadd (A.zadd (A.quo .i64 (A.zadd (A.zadd 0 (A.zmul a (Int.ofNat 8))) (Int.ofNat 14)) (Int.ofNat 2)) 1) (A.zsub (Int.ofNat 4) 1)) (Int.ofNat 2)))) (A.nat (A.zadd (A.zadd 0 (A.zmul a (Int.ofNat 1))) (Int.ofNat 38))) (.int .i64 (A.wrp .i64 (A.zsub i 1)))) (A.zadd (A.zadd (A.zadd 0 (A.zmul a (Int.ofNat 8))) (A.zmul e (Int.ofNat 2))) (Int.ofNat 14)) [(.int .i8 0),(.int .i8 0)]) (A.zadd 0 (Int.ofNat 0)) (Int.ofNat 41)).bind fun g => (ck (A.zeq (A.len g) (Int.ofNat 41))).bind fun _ => (ck (A.zle (A.zadd (A.zadd 0 (Int.ofNat 0)) (Int.ofNat 41)) (A.len (zz0)))).bind fun _ => (ck (A.zeq (A.len (A.spl (zz0) (A.zadd 0 (Int.ofNat 0)) g)) (Int.ofNat 41))).bind fun _ => (ck (A.ones (A.spl (zz0) (A.zadd 0 (Int.ofNat 0)) g))).bind fun _ => some (A.spl (zz0) (A.zadd 0 (Int.ofNat 0)) g)

def a8g (A:Ar) (o g:List D) (d i e:Int):(Int×List D)->Option ((Int×List D)⊕(List D)):=fun (a,c) => bif (A.zlt a (A.zsub e 0)) then (ck (A.zle 0 a)).bind fun _ => (ck (A.zlt a (A.zsub e 0))).bind fun _ => (gd A (lc (cI .i8) (l1 (cI .i8))) o (A.zadd (A.zmul (A.zadd (A.zadd (A.quo .i64 (A.zadd (A.zadd 0 (A.zmul d (Int.ofNat 8))) (Int.ofNat 14)) (Int.ofNat 2)) 0) a) (Int.ofNat 2)) (Int.ofNat 0)) (Int.ofNat 2)).bind fun (j,k) => (gt A (cL 3) g d).bind fun l => (gt A (cG (lc (cI .i64) (lc (cI .i64) (l1 (cI .i64))))) l i).bind fun (p,m,q) => (( bif (A.zeq (A.wrp .i64 j) m) then (b8D A g d i).bind fun b => (ck (A.zle 0 b)).bind fun _ => (ck (A.zlt b (Int.ofNat 8))).bind fun _ => (A.lget c (A.nat (A.zadd (A.zadd 0 (A.zmul b (Int.ofNat 1))) (Int.ofNat 3)))).bind fun r => some (A.lset c (A.nat (A.zadd (A.zadd 0 (A.zmul b (Int.ofNat 1))) (Int.ofNat 3))) (.int .i8 k)) else some c:Option (List D))).bind fun n => some (.inl ((A.wrp .i64 (A.zadd a 1)),n)) else some (.inr c)

/--  lineal memory.state .loaded -/
def b8S (A:Ar) (c g:List D) (a i:Int):Option (List D) := (ck (A.zeq (A.len c) (Int.ofNat 41))).bind fun _ => (ga A c (A.zadd 0 (Int.ofNat 0)) (Int.ofNat 41)).bind fun j => (M76 A j g a i).bind fun e => (ck (A.zeq (A.len e) (Int.ofNat 41))).bind fun _ => (ck (A.zle (A.zadd (A.zadd 0 (Int.ofNat 0)) (Int.ofNat 41)) (A.len (zz0)))).bind fun _ => (ck (A.zle 0 a)).bind fun _ => (ck (A.zlt a (Int.ofNat 3))).bind fun _ => (ck (A.zle 0 a)).bind fun _ => (ck (A.zlt a (Int.ofNat 3))).bind fun _ => (gc A (cI .i64) c (A.nat (A.zadd (A.zadd 0 (A.zmul a (Int.ofNat 1))) (Int.ofNat 38)))).bind fun d => (ck (A.zle 0 0)).bind fun _ => (ck (A.zle 0 d)).bind fun _ => (ck (A.zle d (Int.ofNat 4))).bind fun _ => (ck (A.zle 0 (A.zadd (A.zadd 0 (A.zmul a (Int.ofNat 8))) (Int.ofNat 14)))).bind fun _ => (ck (A.zle 0 (A.quo .i64 (A.zadd (A.zadd 0 (A.zmul a (Int.ofNat 8))) (Int.ofNat 14)) (Int.ofNat 2)))).bind fun _ => (ck (A.zeq (A.zmul (A.quo .i64 (A.zadd (A.zadd 0 (A.zmul a (Int.ofNat 8))) (Int.ofNat 14)) (Int.ofNat 2)) (Int.ofNat 2)) (A.zadd (A.zadd 0 (A.zmul a (Int.ofNat 8))) (Int.ofNat 14)))).bind fun _ => (iter (a8g A c g a i d) (0,(A.spl (zz0) (A.zadd 0 (Int.ofNat 0)) e))).bind (fun k => (ga A k (A.zadd 0 (Int.ofNat 0)) (Int.ofNat 41)).bind fun b => (ck (A.zeq (A.len b) (Int.ofNat 41))).bind fun _ => (ck (A.zle (A.zadd (A.zadd 0 (Int.ofNat 0)) (Int.ofNat 41)) (A.len (zz0)))).bind fun _ => (ck (A.zeq (A.len (A.spl (zz0) (A.zadd 0 (Int.ofNat 0)) b)) (Int.ofNat 41))).bind fun _ => (ck (A.ones (A.spl (zz0) (A.zadd 0 (Int.ofNat 0)) b))).bind fun _ => some (A.spl (zz0) (A.zadd 0 (Int.ofNat 0)) b))

/-- lineal memory.outcomes$1 -/
def b8T (A:Ar) (b:List D) (c:List (D×D)) (n e m:List D):Option (List (D×D)×List D×List D) := (ck (A.zeq (A.len b) (Int.ofNat 41))).bind fun _ => (( (ga A b (A.zadd 0 (Int.ofNat 0)) (Int.ofNat 41)).bind fun d => (ck (A.conf (zz1) d)).bind fun _ => (lk A cU c (.agg d)).bind fun i=>i.elim ( some false) fun () => some true:Option (Bool))).bind fun j => (( bif j then some (c,e) else (ga A b (A.zadd 0 (Int.ofNat 0)) (Int.ofNat 41)).bind fun a => (ck (A.conf (zz1) a)).bind fun _ => (ck (A.zeq (A.len a) (Int.ofNat 41))).bind fun _ => (ap A e [(.agg a)]).bind fun g => some ((A.mput c (.agg a) (.agg [])),g):Option (List (D×D)×List D))).bind fun (k,l) => some (k,m,l)

def a8h (A:Ar) (m d:List D):(Int×List (D×D)×List D)->Option ((Int×List (D×D)×List D)⊕(List (D×D)×List D)):=fun (a,o,p) => bif (A.zlt a (A.len m)) then (( (ck (A.zle 0 a)).bind fun _ => (ck (A.zlt a (Int.ofNat 3))).bind fun _ => (gc A (cI .i64) d (A.nat (A.zadd (A.zadd 0 (A.zmul a (Int.ofNat 1))) (Int.ofNat 38)))).bind fun s => (( bif (A.zlt 0 s) then (ga A d (A.zadd 0 (Int.ofNat 0)) (Int.ofNat 41)).bind fun v => (b8R A v a).bind fun y => (M96 A y o d p).bind fun (z,B) => some (z,B) else some (o,p):Option (List (D×D)×List D))).bind fun (i,j) => (ga A d (A.zadd 0 (Int.ofNat 0)) (Int.ofNat 41)).bind fun b => (M75 A b a).bind fun c => (gt A (cL 3) m a).bind fun q => bif (A.zeq c (A.len q)) then some (i,j) else (gt A (cG (lc (cI .i64) (lc (cI .i64) (l1 (cI .i64))))) q c).bind fun (n,k,l) => (( bif (A.zeq n 1) then (b8S A b m a c).bind fun C => (M96 A C i d j).bind fun (E,F) => some (E,F) else (( bif (A.zeq n 2) then (ck (A.zeq (A.len b) (Int.ofNat 41))).bind fun _ => (ck (A.zle (A.zadd (A.zadd 0 (Int.ofNat 0)) (Int.ofNat 41)) (A.len (zz0)))).bind fun _ => (ck (A.zle 0 a)).bind fun _ => (ck (A.zlt a (Int.ofNat 3))).bind fun _ => (gc A (cI .u8) (A.spl (zz0) (A.zadd 0 (Int.ofNat 0)) b) (A.nat (A.zadd 0 (A.zmul a (Int.ofNat 1))))).bind fun g => (nk (A.zlt c 0)).bind fun _ => (ck (A.zle 0 a)).bind fun _ => (ck (A.zlt a (Int.ofNat 3))).bind fun _ => (A.lget (A.spl (zz0) (A.zadd 0 (Int.ofNat 0)) b) (A.nat (A.zadd 0 (A.zmul a (Int.ofNat 1))))).bind fun Y => (ck (A.zle 0 a)).bind fun _ => (ck (A.zlt a (Int.ofNat 3))).bind fun _ => (gc A (cI .i64) (A.lset (A.spl (zz0) (A.zadd 0 (Int.ofNat 0)) b) (A.nat (A.zadd 0 (A.zmul a (Int.ofNat 1)))) (.int .u8 (A.bits .or .u8 g (A.shl .u8 1 c)))) (A.nat (A.zadd (A.zadd 0 (A.zmul a (Int.ofNat 1))) (Int.ofNat 38)))).bind fun e => (ck (A.zle 0 a)).bind fun _ => (ck (A.zlt a (Int.ofNat 3))).bind fun _ => (ck (A.zle 0 e)).bind fun _ => (ck (A.zlt e (Int.ofNat 4))).bind fun _ => (ck (A.zle (A.zadd (A.zadd (A.zadd (A.zadd 0 (A.zmul a (Int.ofNat 8))) (A.zmul e (Int.ofNat 2))) (Int.ofNat 14)) (Int.ofNat 2)) (A.len (A.lset (A.spl (zz0) (A.zadd 0 (Int.ofNat 0)) b) (A.nat (A.zadd 0 (A.zmul a (Int.ofNat 1)))) (.int .u8 (A.bits .or .u8 g (A.shl .u8 1 c))))))).bind fun _ => (ck (A.zle 0 a)).bind fun _ => (ck (A.zlt a (Int.ofNat 3))).bind fun _ => (gc A (cI .i64) (A.spl (A.lset (A.spl (zz0) (A.zadd 0 (Int.ofNat 0)) b) (A.nat (A.zadd 0 (A.zmul a (Int.ofNat 1)))) (.int .u8 (A.bits .or .u8 g (A.shl .u8 1 c)))) (A.zadd (A.zadd (A.zadd 0 (A.zmul a (Int.ofNat 8))) (A.zmul e (Int.ofNat 2))) (Int.ofNat 14)) [(.int .i8 (A.wrp .i8 k)),(.int .i8 (A.wrp .i8 l))]) (A.nat (A.zadd (A.zadd 0 (A.zmul a (Int.ofNat 1))) (Int.ofNat 38)))).bind fun r => (ck (A.zle 0 a)).bind fun _ => (ck (A.zlt a (Int.ofNat 3))).bind fun _ => (A.lget (A.spl (A.lset (A.spl (zz0) (A.zadd 0 (Int.ofNat 0)) b) (A.nat (A.zadd 0 (A.zmul a (Int.ofNat 1)))) (.int .u8 (A.bits .or .u8 g (A.shl .u8 1 c)))) (A.zadd (A.zadd (A.zadd 0 (A.zmul a (Int.ofNat 8))) (A.zmul e (Int.ofNat 2))) (Int.ofNat 14)) [(.int .i8 (A.wrp .i8 k)),(.int .i8 (A.wrp .i8 l))]) (A.nat (A.zadd (A.zadd 0 (A.zmul a (Int.ofNat 1))) (Int.ofNat 38)))).bind fun a0 => (ga A (A.lset (A.spl (A.lset (A.spl (zz0) (A.zadd 0 (Int.ofNat 0)) b) (A.nat (A.zadd 0 (A.zmul a (Int.ofNat 1)))) (.int .u8 (A.bits .or .u8 g (A.shl .u8 1 c)))) (A.zadd (A.zadd (A.zadd 0 (A.zmul a (Int.ofNat 8))) (A.zmul e (Int.ofNat 2))) (Int.ofNat 14)) [(.int .i8 (A.wrp .i8 k)),(.int .i8 (A.wrp .i8 l))]) (A.nat (A.zadd (A.zadd 0 (A.zmul a (Int.ofNat 1))) (Int.ofNat 38))) (.int .i64 (A.wrp .i64 (A.zadd r 1)))) (A.zadd 0 (Int.ofNat 0)) (Int.ofNat 41)).bind fun w => (b8T A w i d j (A.lset (A.spl (A.lset (A.spl (zz0) (A.zadd 0 (Int.ofNat 0)) b) (A.nat (A.zadd 0 (A.zmul a (Int.ofNat 1)))) (.int .u8 (A.bits .or .u8 g (A.shl .u8 1 c)))) (A.zadd (A.zadd (A.zadd 0 (A.zmul a (Int.ofNat 8))) (A.zmul e (Int.ofNat 2))) (Int.ofNat 14)) [(.int .i8 (A.wrp .i8 k)),(.int .i8 (A.wrp .i8 l))]) (A.nat (A.zadd (A.zadd 0 (A.zmul a (Int.ofNat 1))) (Int.ofNat 38))) (.int .i64 (A.wrp .i64 (A.zadd r 1))))).bind fun (G,b0,J) => some (G,J) else (( bif (A.zeq n 3) then (ck (A.zle 0 a)).bind fun _ => (ck (A.zlt a (Int.ofNat 3))).bind fun _ => (gc A (cI .i64) d (A.nat (A.zadd (A.zadd 0 (A.zmul a (Int.ofNat 1))) (Int.ofNat 38)))).bind fun u => (( bif (A.zeq u 0) then (M76 A b m a c).bind fun K => (M96 A K i d j).bind fun (L,M) => some (L,M) else some (i,j):Option (List (D×D)×List D))).bind fun (N,O) => some (N,O) else some (i,j):Option (List (D×D)×List D))).bind fun (P,Q) => some (P,Q):Option (List (D×D)×List D))).bind fun (R,S) => some (R,S):Option (List (D×D)×List D))).bind fun (U,V) => some (U,V):Option (List (D×D)×List D))).bind fun (W,X) => some (.inl ((A.wrp .i64 (A.zadd a 1)),W,X)) else some (.inr (o,p))

/--  lineal memory.buffers .steps -/
def b8U (A:Ar) (d a:List D) (e:List (D×D)) (g:List D):Option (List (D×D)×List D) := (ck (A.zeq (A.len a) (Int.ofNat 41))).bind fun _ => (iter (a8h A d a) (0,e,g)).bind (fun (b,c) => some (b,c))

def a6s (A:Ar) (n:List D) (b e g:Int) (c:List D):(Bool×Int)->Option ((Bool×Int)⊕(Bool)):=fun (d,a) => bif (A.zlt a (A.len c)) then (gt A (cG (lc (cI .i64) (lc (cI .i64) (l1 (cI .i64))))) c a).bind fun (i,j,o) => (( bif (A.zeq e 3) then some true else bif (A.zeq i 3) then some true else some (A.zeq g j):Option (Bool))).bind fun l => (( bif d then bif l then (ck (A.zle 0 b)).bind fun _ => (ck (A.zlt b (Int.ofNat 3))).bind fun _ => (gc A (cI .u8) n (A.nat (A.zadd 0 (A.zmul b (Int.ofNat 1))))).bind fun k => (nk (A.zlt a 0)).bind fun _ => some (A.zeq (A.bits .and .u8 (A.shr .u8 k a) 1) 1) else some true else some false:Option (Bool))).bind fun m => some (.inl (m,(A.wrp .i64 (A.zadd a 1)))) else some (.inr d)

def a8i (A:Ar) (u c:List D) (b:Int) (d:List D):(Int×List (D×D)×List D)->Option ((Int×List (D×D)×List D)⊕(List (D×D)×List D)):=fun (a,e,g) => bif (A.zlt a (A.len d)) then (gt A (cG (lc (cI .i64) (lc (cI .i64) (l1 (cI .i64))))) d a).bind fun (i,j,v) => (ck (A.zle 0 b)).bind fun _ => (ck (A.zlt b (Int.ofNat 3))).bind fun _ => (gc A (cI .u8) c (A.nat (A.zadd 0 (A.zmul b (Int.ofNat 1))))).bind fun k => (nk (A.zlt a 0)).bind fun _ => (sl A d 0 a).bind fun l => (iter (a6s A c b i j l) ((A.zeq (A.bits .and .u8 (A.shr .u8 k a) 1) 0),0)).bind (fun q => (( bif q then (ga A c (A.zadd 0 (Int.ofNat 0)) (Int.ofNat 41)).bind fun m => (M76 A m u b a).bind fun n => (M96 A n e c g).bind fun (o,p) => some (o,p) else some (e,g):Option (List (D×D)×List D))).bind fun (r,s) => some (.inl ((A.wrp .i64 (A.zadd a 1)),r,s))) else some (.inr (e,g))

def a8j (A:Ar) (b j:List D):(Int×List (D×D)×List D)->Option ((Int×List (D×D)×List D)⊕(List (D×D)×List D)):=fun (a,c,d) => bif (A.zlt a (A.len b)) then (gt A (cL 3) b a).bind fun e => (iter (a8i A b j a e) (0,c,d)).bind (fun (g,i) => some (.inl ((A.wrp .i64 (A.zadd a 1)),g,i))) else some (.inr (c,d))

/--  lineal memory.loose .steps -/
def b8V (A:Ar) (d a:List D) (e:List (D×D)) (g:List D):Option (List (D×D)×List D) := (ck (A.zeq (A.len a) (Int.ofNat 41))).bind fun _ => (iter (a8j A d a) (0,e,g)).bind (fun (b,c) => some (b,c))

/-- cmp.isNaN int  -/
def b8E (A:Ar) (a:Int):Option (Bool) := some (!(A.zeq a a))

/-- cmp.Compare int  -/
def b8W (A:Ar) (a b:Int):Option (Int) := (b8E A a).bind fun d => (b8E A b).bind fun c => bif d then bif c then some 0 else some (-1) else bif c then some 1 else bif (A.zlt a b) then some (-1) else bif (A.zlt b a) then some 1 else some 0

def a9w (A:Ar) (c d:List D):Int->Option ((Int)⊕((Unit)⊕(Int))):=fun a => bif (A.zlt a (A.len c)) then (gt A (cI .i64) c a).bind fun e => bif (A.zle (A.len d) a) then some (.inr (.inr 1)) else (gt A (cI .i64) d a).bind fun g => (b8W A e g).bind fun b => bif (A.zeq b 0) then some (.inl (A.wrp .i64 (A.zadd a 1))) else some (.inr (.inr b)) else some (.inr (.inl ()))

/-- slices.Compare   int int  -/
def M98 (A:Ar) (a b:List D):Option (Int) := (iter (a9w A a b) 0).bind (Sum.elim (fun _ => bif (A.zlt (A.len a) (A.len b)) then some (-1) else some 0) (fun c => some c))

def M97 (A:Ar) (c d:Int) (e:List D):Option (List D):=srt (cL 1) (fun a b=>M98 A a b) c d e

def a8k (A:Ar) (b e:List D):Int->Option ((Int)⊕((Unit)⊕(Unit))):=fun a => bif (A.zlt a (A.len b)) then (gt A (cI .i64) b a).bind fun c => (gt A (cI .i64) e a).bind fun d => bif (A.zeq c d) then some (.inl (A.wrp .i64 (A.zadd a 1))) else some (.inr (.inr ())) else some (.inr (.inl ()))

/-- slices.Equal   int int  -/
def b8F (A:Ar) (a b:List D):Option (Bool) := bif (A.zeq (A.len a) (A.len b)) then (iter (a8k A a b) 0).bind (Sum.elim (fun _ => some true) (fun _ => some false)) else some false

def a9x (A:Ar) (e g b:Int):(Int×Int×List D)->Option ((Int×Int×List D)⊕(Int×List D)):=fun (c,a,d) => bif (A.zlt a (A.zsub g b)) then (ck (A.zle 0 a)).bind fun _ => (ck (A.zlt a (A.zsub g b))).bind fun _ => (gc A (cL 1) d (A.nat (A.zadd (A.zadd e b) a))).bind fun i => (ck (A.zle 0 (A.wrp .i64 (A.zsub a 1)))).bind fun _ => (ck (A.zlt (A.wrp .i64 (A.zsub a 1)) (A.zsub g b))).bind fun _ => (gc A (cL 1) d (A.nat (A.zadd (A.zadd e b) (A.wrp .i64 (A.zsub a 1))))).bind fun j => (b8F A i j).bind fun l => (( bif l then some (c,d) else (ck (A.zle 0 a)).bind fun _ => (ck (A.zlt a (A.zsub g b))).bind fun _ => (gc A (cL 1) d (A.nat (A.zadd (A.zadd e b) a))).bind fun k => (ck (A.zle 0 c)).bind fun _ => (ck (A.zlt c g)).bind fun _ => (A.lget d (A.nat (A.zadd e c))).bind fun o => some ((A.wrp .i64 (A.zadd c 1)),(A.lset d (A.nat (A.zadd e c)) (.list 1 k))):Option (Int×List D))).bind fun (m,n) => some (.inl (m,(A.wrp .i64 (A.zadd a 1)),n)) else some (.inr (c,d))

def b1h (A:Ar) (d a:Int) (e:List D):Int->Option ((Int)⊕((Unit)⊕(Int×List D))):=fun b => bif (A.zlt b a) then (ck (A.zle 0 b)).bind fun _ => (ck (A.zlt b a)).bind fun _ => (gc A (cL 1) e (A.nat (A.zadd d b))).bind fun i => (ck (A.zle 0 (A.wrp .i64 (A.zsub b 1)))).bind fun _ => (ck (A.zlt (A.wrp .i64 (A.zsub b 1)) a)).bind fun _ => (gc A (cL 1) e (A.nat (A.zadd d (A.wrp .i64 (A.zsub b 1))))).bind fun j => (b8F A i j).bind fun k => bif k then (ck (A.zle 0 b)).bind fun _ => (ck (A.zle b a)).bind fun _ => (ck (A.zle a a)).bind fun _ => (iter (a9x A d a b) (b,1,e)).bind (fun (c,g) => (ck (A.zle 0 c)).bind fun _ => (ck (A.zle c a)).bind fun _ => (ck (A.zle a a)).bind fun _ => (ck (A.zle (A.zadd (A.zadd d c) (A.zsub a c)) (A.len g))).bind fun _ => (ck (A.zle 0 0)).bind fun _ => (ck (A.zle 0 c)).bind fun _ => (ck (A.zle c a)).bind fun _ => some (.inr (.inr ((A.zsub c 0),(A.fill g (A.zadd d c) (A.zsub a c) (.list 1 [])))))) else some (.inl (A.wrp .i64 (A.zadd b 1))) else some (.inr (.inl ()))

/-- slices.CompactFunc     int   int  -/
def M99 (A:Ar) (a b:Int) (c:List D):Option (Int×Int×List D) := bif (A.zlt b 2) then some (a,b,c) else (iter (b1h A a b c) 1).bind (Sum.elim (fun _ => some (a,b,c)) (fun (d,e) => some ((A.zadd a 0),d,e)))

def a8l (A:Ar) (c:List D) (g:Int):(List (D×D)×List D×List D)->Option ((List (D×D)×List D×List D)⊕(List D)):=fun (d,a,e) => bif (A.zlt 0 (A.len a)) then (ck (A.zle 0 (A.wrp .i64 (A.zsub (A.len a) 1)))).bind fun _ => (ck (A.zlt (A.wrp .i64 (A.zsub (A.len a) 1)) (A.len a))).bind fun _ => (gc A cA a (A.nat (A.wrp .i64 (A.zsub (A.len a) 1)))).bind fun i => (ck (A.zeq (A.len i) (Int.ofNat 41))).bind fun _ => (ck (A.zle (A.zadd (A.zadd 0 (Int.ofNat 0)) (Int.ofNat 41)) (A.len (zz0)))).bind fun _ => (ck (A.zle 0 (A.wrp .i64 (A.zsub (A.len a) 1)))).bind fun _ => (ck (A.zle (A.wrp .i64 (A.zsub (A.len a) 1)) (A.len a))).bind fun _ => (ga A (A.spl (zz0) (A.zadd 0 (Int.ofNat 0)) i) (A.zadd 0 (Int.ofNat 0)) (Int.ofNat 41)).bind fun b => (M77 A b c).bind fun q => (( bif q then (M78 A b c).bind fun r => (ap A e [(.list 1 r)]).bind fun j => some j else some e:Option (List D))).bind fun v => (( bif (A.zeq g (Int.ofNat 143)) then (b8Q A c b d (A.sub a 0 (A.wrp .i64 (A.zsub (A.len a) 1)))).bind fun (k,l) => some (k,l) else bif (A.zeq g (Int.ofNat 144)) then (b8U A c b d (A.sub a 0 (A.wrp .i64 (A.zsub (A.len a) 1)))).bind fun (m,n) => some (m,n) else bif (A.zeq g (Int.ofNat 145)) then (b8V A c b d (A.sub a 0 (A.wrp .i64 (A.zsub (A.len a) 1)))).bind fun (o,p) => some (o,p) else none:Option (List (D×D)×List D))).bind fun (s,u) => some (.inl (s,u,v)) else some (.inr e)

/-- lineal memory.outcomes -/
def M56 (A:Ar) (g:List D) (i:Int):Option (Int×Int×List D) := (ck (A.conf (zz1) (zz0))).bind fun _ => (iter (a8l A g i) ((A.mput [] (.agg (zz0)) (.agg [])),[(.agg (zz0))],[])).bind (fun a => bif (A.zlt 0 (A.len a)) then (M97 A 0 (A.len a) a).bind fun b => (M99 A 0 (A.len a) b).bind fun (c,d,e) => some (c,d,e) else none)

/-- lineal memory.Outcomes -/
def M19 (A:Ar) (b:List D) (k:Int):Option (List D×Int) := (M55 A b [(.int .i64 k)]).bind fun (j,a) => bif (A.zeq a 0) then (gc A cIf j 0).bind fun c => (M56 A b c).bind fun (e,g,i) => (fz A i e g).bind fun d => some (d,0) else some ([],a)

def a6t (A:Ar) (i j:List D):(Int×Int)->Option ((Int×Int)⊕(Int)):=fun (a,b) => bif (A.zlt a b) then (nk (A.zlt 1 0)).bind fun _ => (gt A (cL 1) i (A.wrp .i64 (A.shr .u64 (A.wrp .u64 (A.wrp .i64 (A.zadd a b))) 1))).bind fun c => (M98 A c j).bind fun d => (( bif (A.zlt d 0) then some ((A.wrp .i64 (A.zadd (A.wrp .i64 (A.shr .u64 (A.wrp .u64 (A.wrp .i64 (A.zadd a b))) 1)) 1)),b) else some (a,(A.wrp .i64 (A.shr .u64 (A.wrp .u64 (A.wrp .i64 (A.zadd a b))) 1))):Option (Int×Int))).bind fun (e,g) => some (.inl (e,g)) else some (.inr a)

/-- slices.BinarySearchFunc     int   int   int  -/
def b8X (A:Ar) (a c:List D):Option (Int×Bool) := (iter (a6t A a c) (0,(A.len a))).bind (fun b => (( bif (A.zlt b (A.len a)) then (gt A (cL 1) a b).bind fun d => (M98 A d c).bind fun e => some (A.zeq e 0) else some false:Option (Bool))).bind fun g => some (b,g))

/-- lineal memory.has -/
def M59 (A:Ar) (b c:List D):Option (Bool) := (b8X A b c).bind fun (d,a) => some a

/-- lineal memory.Can -/
def M21 (A:Ar) (e:List D) (g:Int) (i:List D):Option (Bool×Int) := (M19 A e g).bind fun (b,a) => (( bif (A.zeq a 0) then (M59 A b i).bind fun c => some c else some false:Option (Bool))).bind fun d => some (d,a)

/-- lineal lineallaw04.Sane -/
def M18 (A:Ar):Option (Bool) := (M21 A [(.list 3 [(.agg [(.int .i64 2),(.int .i64 0),(.int .i64 1)]),(.agg [(.int .i64 1),(.int .i64 1),(.int .i64 0)])]),(.list 3 [(.agg [(.int .i64 2),(.int .i64 1),(.int .i64 1)]),(.agg [(.int .i64 1),(.int .i64 0),(.int .i64 0)])])] 1 [(.int .i64 0),(.int .i64 0),(.int .i64 1),(.int .i64 1),(.int .i64 0)]).bind fun (a,b) => (M21 A [(.list 3 [(.agg [(.int .i64 2),(.int .i64 0),(.int .i64 1)]),(.agg [(.int .i64 1),(.int .i64 1),(.int .i64 0)])]),(.list 3 [(.agg [(.int .i64 2),(.int .i64 1),(.int .i64 1)]),(.agg [(.int .i64 1),(.int .i64 0),(.int .i64 0)])])] 2 [(.int .i64 0),(.int .i64 0),(.int .i64 1),(.int .i64 1),(.int .i64 0)]).bind fun (c,d) => (( bif (A.zeq b 0) then bif (A.zeq d 0) then bif a then some false else some c else some false else some false:Option (Bool))).bind fun e => some e

def a4f (A:Ar) (d e:List D):Int->Option ((Int)⊕((Unit)⊕(Int))):=fun a => (( bif (A.zlt a (A.len d)) then some (A.zlt a (A.len e)) else some false:Option (Bool))).bind fun g => bif g then (gt A (cI .i64) d a).bind fun b => (gt A (cI .i64) e a).bind fun c => bif (A.zeq b c) then some (.inl (A.wrp .i64 (A.zadd a 1))) else some (.inr (.inr (A.wrp .i64 (A.zsub b c)))) else some (.inr (.inl ()))

/-- lineal linealref04.Compare -/
def M30 (A:Ar) (a b:List D):Option (Int) := (iter (a4f A a b) 0).bind (Sum.elim (fun _ => some (A.wrp .i64 (A.zsub (A.len a) (A.len b)))) (fun c => some c))

/-- lineal memory.More$1 -/
def M69 (A:Ar) (b c:List D):Option (Bool) := (M59 A c b).bind fun a => some a

def a8m (A:Ar) (e b:Int) (g i:List D):Int->Option ((Int)⊕((Unit)⊕(Int))):=fun a => bif (A.zlt a b) then (ck (A.zle 0 a)).bind fun _ => (ck (A.zlt a b)).bind fun _ => (gc A (cL 1) i (A.nat (A.zadd e a))).bind fun c => (M69 A c g).bind fun d => bif d then some (.inr (.inr a)) else some (.inl (A.wrp .i64 (A.zadd a 1))) else some (.inr (.inl ()))

/-- slices.IndexFunc     int   int  -/
def b8Y (A:Ar) (b c:Int) (d e:List D):Option (Int) := (iter (a8m A b c d e) 0).bind (Sum.elim (fun _ => some (-1)) (fun a => some a))

def b1i (A:Ar) (d e:Int) (l:List D):(Int×Int×List D)->Option ((Int×Int×List D)⊕(Int×List D)):=fun (a,b,c) => bif (A.zlt b e) then (ck (A.zle 0 b)).bind fun _ => (ck (A.zlt b e)).bind fun _ => (gc A (cL 1) c (A.nat (A.zadd d b))).bind fun g => (M69 A g l).bind fun i => (( bif i then some (a,c) else (ck (A.zle 0 a)).bind fun _ => (ck (A.zlt a e)).bind fun _ => (A.lget c (A.nat (A.zadd d a))).bind fun m => some ((A.wrp .i64 (A.zadd a 1)),(A.lset c (A.nat (A.zadd d a)) (.list 1 g))):Option (Int×List D))).bind fun (j,k) => some (.inl (j,(A.wrp .i64 (A.zadd b 1)),k)) else some (.inr (a,c))

/-- slices.DeleteFunc     int   int  -/
def M68 (A:Ar) (c b:Int) (i e:List D):Option (Int×Int×List D) := (b8Y A c b i e).bind fun d => bif (A.zeq d (-1)) then some (c,b,e) else (iter (b1i A c b i) (d,(A.wrp .i64 (A.zadd d 1)),e)).bind (fun (a,g) => (ck (A.zle 0 a)).bind fun _ => (ck (A.zle a b)).bind fun _ => (ck (A.zle b b)).bind fun _ => (ck (A.zle (A.zadd (A.zadd c a) (A.zsub b a)) (A.len g))).bind fun _ => (ck (A.zle 0 0)).bind fun _ => (ck (A.zle 0 a)).bind fun _ => (ck (A.zle a b)).bind fun _ => some ((A.zadd c 0),(A.zsub a 0),(A.fill g (A.zadd c a) (A.zsub b a) (.list 1 []))))

/-- lineal memory.More -/
def M26 (A:Ar) (a:List D) (s u:Int):Option (List D×Int) := (M55 A a [(.int .i64 s),(.int .i64 u)]).bind fun (b,c) => bif (A.zeq c 0) then (gc A cIf b 1).bind fun e => (M56 A a e).bind fun (j,k,l) => (fz A l j k).bind fun g => (gc A cIf b 0).bind fun d => (M56 A a d).bind fun (m,n,o) => (M68 A m n g o).bind fun (p,q,r) => (fz A r p q).bind fun i => some (i,0) else some ([],c)

/-- lineal memory.Bare -/
def M32 (A:Ar) (d:List D):Option (Bool×Int) := (M26 A d 3 1).bind fun (b,a) => (( bif (A.zeq a 0) then some (A.zeq (A.len b) 0) else some false:Option (Bool))).bind fun c => some (c,a)

/-- slices.Clone   lineal api.Act lineal api.Act  -/
def M83 (A:Ar) (a:List D):Option (List D) := bif (A.zlt 0 (A.len a)) then (ap A [] a).bind fun b => some b else both ( some []) ( (ap A [] a).bind fun c => some c)

def b2i (A:Ar) (b g:List D):Int->Option ((Int)⊕((Unit)⊕(Unit))):=fun a => bif (A.zlt a (A.len b)) then (gt A (cL 1) b a).bind fun c => (gt A (cL 1) g a).bind fun d => (M30 A c d).bind fun e => bif (A.zeq e 0) then some (.inl (A.wrp .i64 (A.zadd a 1))) else some (.inr (.inr ())) else some (.inr (.inl ()))

/-- lineal linealref04.SameTables -/
def M25 (A:Ar) (a b:List D):Option (Bool) := bif (A.zeq (A.len a) (A.len b)) then (iter (b2i A a b) 0).bind (Sum.elim (fun _ => some true) (fun _ => some false)) else some false

/-- slices.Delete   lineal api.Act lineal api.Act  -/
def M87 (A:Ar) (d a c b:Int) (e:List D):Option (Int×Int×List D) := (ck (A.zle 0 c)).bind fun _ => (ck (A.zle c b)).bind fun _ => (ck (A.zle b a)).bind fun _ => (ck (A.zle a a)).bind fun _ => bif (A.zeq c b) then some (d,a,e) else (ck (A.zle 0 c)).bind fun _ => (ck (A.zle c a)).bind fun _ => (ck (A.zlt 0 a)).bind fun _ => (ck (A.zle 0 b)).bind fun _ => (ck (A.zle b a)).bind fun _ => (ck (A.zle a a)).bind fun _ => (ck (A.zle (A.zadd c (A.zsub a b)) a)).bind fun _ => (ck (A.zle (A.zadd (A.zadd d b) (A.zsub a b)) (A.len e))).bind fun _ => (ck (A.zle (A.zadd d (A.zadd c (A.zsub a b))) (A.len e))).bind fun _ => (ck (A.zle 0 (A.zadd c (A.zsub a b)))).bind fun _ => (ck (A.zle (A.zadd c (A.zsub a b)) a)).bind fun _ => (ck (A.zle a a)).bind fun _ => (ck (A.zle (A.zadd (A.zadd d (A.zadd c (A.zsub a b))) (A.zsub a (A.zadd c (A.zsub a b)))) (A.len (A.spl e (A.zadd d c) (A.sub e (A.zadd d b) (A.zadd (A.zadd d b) (A.zsub a b))))))).bind fun _ => some (d,(A.zadd c (A.zsub a b)),(A.fill (A.spl e (A.zadd d c) (A.sub e (A.zadd d b) (A.zadd (A.zadd d b) (A.zsub a b)))) (A.zadd d (A.zadd c (A.zsub a b))) (A.zsub a (A.zadd c (A.zsub a b))) (.agg [(.int .i64 0),(.int .i64 0),(.int .i64 0)])))

def a6u (A:Ar) (d:List D):(Int×List D)->Option ((Int×List D)⊕(List D)):=fun (a,b) => bif (A.zlt a (A.len d)) then (gt A (cL 3) d a).bind fun e => (M83 A e).bind fun c => (ck (scalars c)).bind fun _ => (ck (A.zle 0 a)).bind fun _ => (ck (A.zlt a (A.len b))).bind fun _ => some (.inl ((A.wrp .i64 (A.zadd a 1)),(A.lset b (A.nat a) (.list 3 c)))) else some (.inr b)

def b8Z (A:Ar) (a:List D):Option (List D) := (ck (A.zeq (A.len a) (A.len a))).bind fun _ => (ck (A.zle 0 (A.len a))).bind fun _ => (ck (A.fits (A.len a))).bind fun _ => (iter (a6u A a) (0,(A.rep (A.len a) (.list 3 [])))).bind (fun b => some b)

def c1j (A:Ar) (j:List D) (b c:Int):Option (List D) := (b8Z A j).bind fun r => (gt A (cL 3) r b).bind fun a => (ck (A.zlt 0 (A.len a))).bind fun _ => (M87 A 0 (A.len a) c (A.wrp .i64 (A.zadd c 1)) a).bind fun (i,e,g) => (fz A g i e).bind fun d => some (A.lset r (A.nat b) (.list 3 d))

def b1j (A:Ar) (s p:List D) (l d:Int) (c:List D):(List D×Int)->Option ((List D×Int)⊕(List D)):=fun (b,a) => bif (A.zlt a (A.len c)) then (( (gt A (cG (lc (cI .i64) (lc (cI .i64) (l1 (cI .i64))))) c a).bind fun (e,g,i) => (M64 A e g i).bind fun m => bif m then some b else (c1j A s d a).bind fun n => (gc A cIf p 0).bind fun j => (M56 A n j).bind fun (u,o,v) => (( bif (A.zlt l o) then (ap A b [(.agg [(.int .i64 d),(.int .i64 a)])]).bind fun k => some k else some b:Option (List D))).bind fun q => some q:Option (List D))).bind fun r => some (.inl (r,(A.wrp .i64 (A.zadd a 1)))) else some (.inr b)

def b1k (A:Ar) (b g:List D) (e:Int):(List D×Int)->Option ((List D×Int)⊕(List D)):=fun (c,a) => bif (A.zlt a (A.len b)) then (gt A (cL 3) b a).bind fun d => (iter (b1j A b g e a d) (c,0)).bind (fun i => some (.inl (i,(A.wrp .i64 (A.zadd a 1))))) else some (.inr c)

/-- lineal memory.Needed -/
def M43 (A:Ar) (a:List D) (i:Int):Option (List D×Int) := (M55 A a [(.int .i64 i)]).bind fun (b,c) => bif (A.zeq c 0) then (gc A cIf b 0).bind fun d => (M56 A a d).bind fun (j,e,k) => (iter (b1k A a b e) ([],0)).bind (fun g => some (g,0)) else some ([],c)

def b1l (A:Ar) (c:List D):(List D×Int)->Option ((List D×Int)⊕(List D)):=fun (b,a) => bif (A.zlt a (A.len c)) then (gt A (cL 3) c a).bind fun d => (ap A [] d).bind fun e => (ap A b [(.list 3 e)]).bind fun g => some (.inl (g,(A.wrp .i64 (A.zadd a 1)))) else some (.inr b)

/-- lineal linealref04.copied -/
def M88 (A:Ar) (b:List D):Option (List D) := (iter (b1l A b) ([],0)).bind (fun a => some a)

/-- lineal linealref04.asked -/
def M57 (A:Ar) (c:List D) (d:Int):Option (Int) := (M24 A c).bind fun a => bif a then (M66 A 1 d 3).bind fun b => bif b then some 0 else some 2 else some 40

def a6v (A:Ar) (b n:Int) (o:List D) (p:Int) (q:List D) (e g:Int):Int->Option ((Int)⊕((Unit)⊕(Unit))):=fun a => bif (A.zlt a n) then (gt A (cL 3) o b).bind fun i => (gt A (cG (lc (cI .i64) (lc (cI .i64) (l1 (cI .i64))))) i a).bind fun (j,k,r) => (( bif (A.zeq p 3) then bif (A.zeq e 3) then some true else bif (A.zeq j 3) then some true else some (A.zeq g k) else some true:Option (Bool))).bind fun m => (( (gt A (cL 1) q b).bind fun c => bif m then (ck (A.zle 0 a)).bind fun _ => (ck (A.zlt a (A.len c))).bind fun _ => (gc A cB c (A.nat a)).bind fun d => some (!d) else some false:Option (Bool))).bind fun l => bif l then some (.inr (.inr ())) else some (.inl (A.wrp .i64 (A.zadd a 1))) else some (.inr (.inl ()))

/--  *lineal linealref04.world .may -/
def b5X (A:Ar) (b a:Int) (d:List D) (e q r s:Int) (g u n:List D):Option (Bool) := (gt A (cL 3) d b).bind fun j => (gt A (cG (lc (cI .i64) (lc (cI .i64) (l1 (cI .i64))))) j a).bind fun (c,k,p) => (gt A (cL 1) g b).bind fun i => (ck (A.zle 0 a)).bind fun _ => (ck (A.zlt a (A.len i))).bind fun _ => (gc A cB i (A.nat a)).bind fun l => bif l then some false else (iter (a6v A b a d e g c k) 0).bind (Sum.elim (fun _ => (( (gt A (cL 2) n b).bind fun o => bif (A.zeq e 2) then bif (A.zeq c 3) then some (A.zeq (A.len o) 0) else some true else some true:Option (Bool))).bind fun m => some m) (fun _ => some false))

def a5m (A:Ar) (j:List D) (k u v w:Int) (y:List D) (b:Int):(Int×List D×List D)->Option ((Int×List D×List D)⊕(List D×List D)):=fun (a,d,c) => (gt A (cL 3) j b).bind fun i => bif (A.zlt a (A.len i)) then (( (gt A (cG (lc (cI .i64) (lc (cI .i64) (l1 (cI .i64))))) i a).bind fun (e,l,m) => (( (b5X A b a j k u v w d y c).bind fun o => bif o then bif (A.zeq e 1) then some true else bif (A.zeq e 2) then some (!(A.zeq k 2)) else some false else some true:Option (Bool))).bind fun p => bif p then some (d,c) else (gt A (cL 1) d b).bind fun g => (ck (A.zle 0 a)).bind fun _ => (ck (A.zlt a (A.len g))).bind fun _ => (gc A cB g (A.nat a)).bind fun B => (( bif (A.zeq e 2) then (gt A (cL 2) c b).bind fun z => (ap A z [(.agg [(.int .i64 l),(.int .i64 m)])]).bind fun n => some (A.lset c (A.nat b) (.list 2 n)) else some c:Option (List D))).bind fun q => some ((A.lset d (A.nat b) (.list 1 (A.lset g (A.nat a) (.bool true)))),q):Option (List D×List D))).bind fun (r,s) => some (.inl ((A.wrp .i64 (A.zadd a 1)),r,s)) else some (.inr (d,c))

def a6w (A:Ar) (d:List D) (i j k l:Int) (m:List D):(Int×List D×List D)->Option ((Int×List D×List D)⊕(List D×List D)):=fun (a,b,c) => bif (A.zlt a (A.len d)) then (iter (a5m A d i j k l m a) (0,b,c)).bind (fun (e,g) => some (.inl ((A.wrp .i64 (A.zadd a 1)),e,g))) else some (.inr (b,c))

/--  *lineal linealref04.world .pass -/
def b5Y (A:Ar) (c:List D) (d e g i:Int) (j k l:List D):Option (List D×List D) := (iter (a6w A c d e g i k) (0,j,l)).bind (fun (a,b) => some (a,b))

def a6x (A:Ar) (g:List D):(Int×List D×List D×List D)->Option ((Int×List D×List D×List D)⊕(List D×List D×List D)):=fun (b,c,d,e) => bif (A.zlt b (A.len g)) then (gt A (cL 3) g b).bind fun a => (ck (A.zeq (A.len a) (A.len a))).bind fun _ => (ck (A.zle 0 (A.len a))).bind fun _ => (ck (A.fits (A.len a))).bind fun _ => (ap A c [(.list 1 (A.rep (A.len a) (.bool false)))]).bind fun i => (ck (A.zeq (A.len a) (A.len a))).bind fun _ => (ck (A.zle 0 (A.len a))).bind fun _ => (ck (A.fits (A.len a))).bind fun _ => (ap A d [(.list 1 (A.rep (A.len a) (.int .i64 0)))]).bind fun j => (ap A e [(.list 2 [])]).bind fun k => some (.inl ((A.wrp .i64 (A.zadd b 1)),i,j,k)) else some (.inr (c,d,e))

/-- lineal linealref04.begin -/
def b9a (A:Ar) (a:List D) (c:Int):Option (List D×Int×List D×List D×List D) := (iter (a6x A a) (0,[],[],[])).bind (fun (g,b,i) => (b5Y A a c 0 0 0 g b i).bind fun (d,e) => some (a,c,d,b,e))

def a6y (A:Ar) (m n o p:List D):(Int×List D×List D×List D)->Option ((Int×List D×List D×List D)⊕(List D×List D×List D)):=fun (a,b,c,d) => bif (A.zlt a (A.len m)) then (gt A (cL 1) n a).bind fun r => (ap A [] r).bind fun j => (ap A b [(.list 1 j)]).bind fun k => (gt A (cL 1) o a).bind fun s => (ap A [] s).bind fun l => (ap A c [(.list 1 l)]).bind fun e => (gt A (cL 2) p a).bind fun q => (ap A [] q).bind fun g => (ap A d [(.list 2 g)]).bind fun i => some (.inl ((A.wrp .i64 (A.zadd a 1)),k,e,i)) else some (.inr (b,c,d))

/--  *lineal linealref04.world .copied -/
def b8G (A:Ar) (a:List D) (e g i j:Int) (k l m:List D):Option (List D×Int×Int×Int×Int×List D×List D×List D) := (iter (a6y A a k l m) (0,[],[],[])).bind (fun (b,c,d) => some (a,e,g,i,j,b,c,d))

def a6z (A:Ar) (b l:Int) (c:List D):(Int×Int)->Option ((Int×Int)⊕(Int)):=fun (d,a) => (gt A (cL 2) c b).bind fun m => bif (A.zlt a (A.len m)) then (gt A (cL 2) c b).bind fun g => (ck (A.zle 0 a)).bind fun _ => (ck (A.zlt a (A.len g))).bind fun _ => (gc A (cG (lc (cI .i64) (l1 (cI .i64)))) g (A.nat a)).bind fun (j,o) => (( bif (A.zeq j l) then (gt A (cL 2) c b).bind fun e => (ck (A.zle 0 a)).bind fun _ => (ck (A.zlt a (A.len e))).bind fun _ => (gc A (cG (lc (cI .i64) (l1 (cI .i64)))) e (A.nat a)).bind fun (n,i) => some i else some d:Option (Int))).bind fun k => some (.inl (k,(A.wrp .i64 (A.zadd a 1)))) else some (.inr d)

/--  *lineal linealref04.world .seen -/
def b9b (A:Ar) (d a:Int) (k:List D) (l g i j:Int) (m n e:List D):Option (Int) := (ck (A.zle 0 a)).bind fun _ => (ck (A.zlt a (Int.ofNat 3))).bind fun _ => (gc A (cI .i64) [(.int .i64 g),(.int .i64 i),(.int .i64 j)] (A.nat a)).bind fun b => (iter (a6z A d a e) (b,0)).bind (fun c => some c)

/--  *lineal linealref04.world .after -/
def b8H (A:Ar) (c a:Int) (g:List D) (w y z B:Int) (C E v:List D):Option (List D×Int×Int×Int×Int×List D×List D×List D) := (b8G A g w y z B C E v).bind fun (k,l,m,n,o,p,e,J) => (gt A (cL 3) g c).bind fun F => (gt A (cG (lc (cI .i64) (lc (cI .i64) (l1 (cI .i64))))) F a).bind fun (G,b,d) => (gt A (cL 1) p c).bind fun i => (ck (A.zle 0 a)).bind fun _ => (ck (A.zlt a (A.len i))).bind fun _ => (gc A cB i (A.nat a)).bind fun N => (( bif (A.zeq G 1) then (gt A (cL 1) e c).bind fun j => (b9b A c b g w y z B C E v).bind fun K => (ck (A.zle 0 a)).bind fun _ => (ck (A.zlt a (A.len j))).bind fun _ => (gc A (cI .i64) j (A.nat a)).bind fun O => some (m,n,o,(A.lset e (A.nat c) (.list 1 (A.lset j (A.nat a) (.int .i64 K))))) else (ck (A.zle 0 b)).bind fun _ => (ck (A.zlt b (Int.ofNat 3))).bind fun _ => some ((bif A.zeq b (Int.ofNat 0) then d else m),(bif A.zeq b (Int.ofNat 1) then d else n),(bif A.zeq b (Int.ofNat 2) then d else o),e):Option (Int×Int×Int×List D))).bind fun (q,r,s,u) => (b5Y A k l q r s (A.lset p (A.nat c) (.list 1 (A.lset i (A.nat a) (.bool true)))) u J).bind fun (L,M) => some (k,l,q,r,s,L,u,M)

/--  *lineal linealref04.world .taken -/
def b8I (A:Ar) (d:Int) (u:List D) (v w y z:Int) (B C e:List D):Option (List D×Int×Int×Int×Int×List D×List D×List D) := (b8G A u v w y z B C e).bind fun (g,i,j,k,l,q,m,n) => (gt A (cL 2) e d).bind fun o => (ck (A.zlt 0 (A.len o))).bind fun _ => (gc A (cG (lc (cI .i64) (l1 (cI .i64)))) o (A.nat 0)).bind fun (a,b) => (ck (A.zle 0 a)).bind fun _ => (ck (A.zlt a (Int.ofNat 3))).bind fun _ => (gt A (cL 2) e d).bind fun c => (ck (A.zle 0 1)).bind fun _ => (ck (A.zle 1 (A.len c))).bind fun _ => (ck (A.zlt 0 (A.len c))).bind fun _ => (ck (A.zle (A.zadd 1 (A.zsub (A.len c) 1)) (A.len c))).bind fun _ => (ap A [] (A.sub c 1 (A.zadd 1 (A.zsub (A.len c) 1)))).bind fun p => (ck (A.zle 0 d)).bind fun _ => (ck (A.zlt d (A.len n))).bind fun _ => (b5Y A g i (bif A.zeq a (Int.ofNat 0) then b else j) (bif A.zeq a (Int.ofNat 1) then b else k) (bif A.zeq a (Int.ofNat 2) then b else l) q m (A.lset n (A.nat d) (.list 2 p))).bind fun (r,s) => some (g,i,(bif A.zeq a (Int.ofNat 0) then b else j),(bif A.zeq a (Int.ofNat 1) then b else k),(bif A.zeq a (Int.ofNat 2) then b else l),r,m,s)
end
end Go.Am
