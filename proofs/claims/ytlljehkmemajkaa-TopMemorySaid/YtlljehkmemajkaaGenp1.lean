import Derived.Test.YtlljehkmemajkaaGenp0
set_option maxRecDepth 100000
set_option maxHeartbeats 2000000
set_option linter.unusedVariables false
set_option linter.unusedSimpArgs false
namespace Go.Am
noncomputable section
open Go
/-- lineal linealref04.SameTables -/
def M25 (A:Ar) (a b:List D):Option (Bool) := bif (A.zeq (A.len a) (A.len b)) then (iter (b1t A a b) 0).bind (Sum.elim (fun _ => some true) (fun _ => some false)) else some false

/-- lineal memory.unfenced$1 -/
def b5D (A:Ar) (b c d:Int):Option (Bool) := (M64 A b c d).bind fun a => some (!a)

def a4T (A:Ar) (i b:Int) (j:List D):Int->Option ((Int)⊕((Unit)⊕(Int))):=fun a => bif (A.zlt a b) then (ck (A.zle 0 a)).bind fun _ => (ck (A.zlt a b)).bind fun _ => (gc A (cG (lc (cI .i64) (lc (cI .i64) (l1 (cI .i64))))) j (A.nat (A.zadd i a))).bind fun (c,d,e) => (b5D A c d e).bind fun g => bif g then some (.inr (.inr a)) else some (.inl (A.wrp .i64 (A.zadd a 1))) else some (.inr (.inl ()))

/-- slices.IndexFunc   lineal api.Act lineal api.Act  -/
def b1u (A:Ar) (b c:Int) (d:List D):Option (Int) := (iter (a4T A b c d) 0).bind (Sum.elim (fun _ => some (-1)) (fun a => some a))

def a5Z (A:Ar) (d e:Int):(Int×Int×List D)->Option ((Int×Int×List D)⊕(Int×List D)):=fun (a,b,c) => bif (A.zlt b e) then (ck (A.zle 0 b)).bind fun _ => (ck (A.zlt b e)).bind fun _ => (gc A (cG (lc (cI .i64) (lc (cI .i64) (l1 (cI .i64))))) c (A.nat (A.zadd d b))).bind fun (g,i,j) => (b5D A g i j).bind fun k => (( bif k then some (a,c) else (ck (A.zle 0 a)).bind fun _ => (ck (A.zlt a e)).bind fun _ => (gc A (cG (lc (cI .i64) (lc (cI .i64) (l1 (cI .i64))))) c (A.nat (A.zadd d a))).bind fun (n,o,p) => some ((A.wrp .i64 (A.zadd a 1)),(A.lset c (A.nat (A.zadd d a)) (.agg [(.int .i64 g),(.int .i64 i),(.int .i64 j)]))):Option (Int×List D))).bind fun (l,m) => some (.inl (l,(A.wrp .i64 (A.zadd b 1)),m)) else some (.inr (a,c))

/-- slices.DeleteFunc   lineal api.Act lineal api.Act  -/
def b7g (A:Ar) (c b:Int) (e:List D):Option (Int×Int×List D) := (b1u A c b e).bind fun d => bif (A.zeq d (-1)) then some (c,b,e) else (iter (a5Z A c b) (d,(A.wrp .i64 (A.zadd d 1)),e)).bind (fun (a,g) => (ck (A.zle 0 a)).bind fun _ => (ck (A.zle a b)).bind fun _ => (ck (A.zle b b)).bind fun _ => (ck (A.zle (A.zadd (A.zadd c a) (A.zsub b a)) (A.len g))).bind fun _ => (ck (A.zle 0 0)).bind fun _ => (ck (A.zle 0 a)).bind fun _ => (ck (A.zle a b)).bind fun _ => some ((A.zadd c 0),(A.zsub a 0),(A.fill g (A.zadd c a) (A.zsub b a) (.agg [(.int .i64 0),(.int .i64 0),(.int .i64 0)]))))

def a8L (A:Ar) (b:List D):Int->Option ((Int)⊕((Unit)⊕(Int))):=fun a => bif (A.zlt a (A.len b)) then (gt A (cG (lc (cI .i64) (lc (cI .i64) (l1 (cI .i64))))) b a).bind fun (c,d,e) => (b5D A c d e).bind fun g => bif g then some (.inr (.inr a)) else some (.inl (A.wrp .i64 (A.zadd a 1))) else some (.inr (.inl ()))

/-- slices.IndexFunc   lineal api.Act lineal api.Act  -/
def b3G (A:Ar) (b:List D):Option (Int) := (iter (a8L A b) 0).bind (Sum.elim (fun _ => some (-1)) (fun a => some a))

def b1v (A:Ar) (b:List D) (g:Int):Int->Option ((Int)⊕(Unit)):=fun a => bif (A.zlt a (A.len b)) then (gt A (cG (lc (cI .i64) (lc (cI .i64) (l1 (cI .i64))))) b a).bind fun (c,d,e) => (b5D A c d e).bind fun i => bif i then some (.inl (A.wrp .i64 (A.zadd a 1))) else (gt A (cG (lc (cI .i64) (lc (cI .i64) (l1 (cI .i64))))) b g).bind fun (j,k,l) => none else some (.inr ())

/-- slices.DeleteFunc   lineal api.Act lineal api.Act  -/
def b3H (A:Ar) (a:List D):Option (List D) := (b3G A a).bind fun b => bif (A.zeq b (-1)) then some a else (iter (b1v A a b) (A.wrp .i64 (A.zadd b 1))).bind (fun _ => (sl A a b (A.len a)).bind fun c => none)

/-- lineal memory.unfenced -/
def M90 (A:Ar) (i:List D):Option (List D) := (M83 A i).bind fun a => bif (A.zlt 0 (A.len a)) then (ck (scalars a)).bind fun _ => (b7g A 0 (A.len a) a).bind fun (d,e,g) => (fz A g d e).bind fun b => some b else (b3H A a).bind fun c => some c

def a8M (A:Ar) (c:List D):(List D×Int)->Option ((List D×Int)⊕(List D)):=fun (b,a) => bif (A.zlt a (A.len c)) then (gt A (cG (lc (cI .i64) (lc (cI .i64) (l1 (cI .i64))))) c a).bind fun (d,e,g) => (( bif (A.zlt 0 a) then (ap A b [(.agg [(.int .i64 3),(.int .i64 0),(.int .i64 0)])]).bind fun i => some i else some b:Option (List D))).bind fun k => (ap A k [(.agg [(.int .i64 d),(.int .i64 e),(.int .i64 g)])]).bind fun j => some (.inl (j,(A.wrp .i64 (A.zadd a 1)))) else some (.inr b)

/-- lineal memory.AllFenced$1 -/
def M89 (A:Ar) (c:List D):Option (List D) := (M90 A c).bind fun a => (iter (a8M A a) ([],0)).bind (fun b => some b)

def a6a (A:Ar) (c:List D):(Int×List D)->Option ((Int×List D)⊕(List D)):=fun (a,b) => bif (A.zlt a (A.len c)) then (gt A (cL 3) c a).bind fun d => (M89 A d).bind fun g => (ap A b [(.list 3 g)]).bind fun e => some (.inl ((A.wrp .i64 (A.zadd a 1)),e)) else some (.inr b)

/-- lineal memory.changed -/
def b8K (A:Ar) (a:List D):Option (List D×Int) := (M23 A a).bind fun b => bif b then (ck (A.zle 0 (A.len a))).bind fun _ => (ck (A.zle 0 0)).bind fun _ => (ck (A.fits (A.len a))).bind fun _ => (iter (a6a A a) (0,(A.rep 0 (.list 3 [])))).bind (fun c => some (c,0)) else some ([],40)

/-- lineal memory.AllFenced -/
def M45 (A:Ar) (c:List D):Option (List D×Int) := (b8K A c).bind fun (a,b) => some (a,b)

def b0y (A:Ar) (b e:List D):Int->Option ((Int)⊕((Unit)⊕(Unit))):=fun a => bif (A.zlt a (A.len b)) then (gt A (cL 1) b a).bind fun c => (M31 A e c).bind fun d => bif d then some (.inl (A.wrp .i64 (A.zadd a 1))) else some (.inr (.inr ())) else some (.inr (.inl ()))

def b0z (A:Ar) (d i c:List D):Int->Option ((Int)⊕((Unit)⊕(Unit))):=fun a => bif (A.zle a 3) then (M19 A d a).bind fun (j,k) => (M19 A i a).bind fun (l,m) => (( bif (A.zeq k 0) then bif (A.zeq m 0) then (M25 A l c).bind fun n => some (!n) else some true else some true:Option (Bool))).bind fun p => bif p then some (.inr (.inr ())) else (iter (b0y A c j) 0).bind (Sum.elim (fun _ => jn (fun (_:Unit) => some (.inl (A.wrp .i64 (A.zadd a 1)))) fun b => bif (A.zlt a 3) then (M26 A d a (A.wrp .i64 (A.zadd a 1))).bind fun (e,g) => (( bif (A.zeq g 0) then some (!(A.zeq (A.len e) 0)) else some true:Option (Bool))).bind fun o => bif o then some (.inr (.inr ())) else b () else b ()) (fun _ => some (.inr (.inr ())))) else some (.inr (.inl ()))

/-- lineal linealtop.TopMemory -/
def M16 (A:Ar) (a:List D) (E F:Int):Option (Bool) := (( (M17 A a).bind fun u => bif u then some true else (M24 A a).bind fun v => some (!v):Option (Bool))).bind fun C => bif C then (M18 A).bind fun l => some l else (M45 A a).bind fun (d,q) => (( bif (A.zeq q 0) then (M24 A d).bind fun r => some (!r) else some true:Option (Bool))).bind fun z => bif z then some false else (M19 A a 1).bind fun (b,s) => (( bif (A.zeq s 0) then some (A.zlt (A.len b) 1) else some true:Option (Bool))).bind fun B => bif B then some false else (iter (b0z A a d b) 1).bind (Sum.elim (fun _ => (nk (A.zeq (A.len b) 0)).bind fun _ => (gt A (cL 1) b (A.rem (A.wrp .i64 E) (A.len b))).bind fun c => (M28 A a c).bind fun (e,g) => bif (A.zeq g 0) then (M34 A a e).bind fun (i,j) => (( bif (A.zeq j 0) then (M30 A i c).bind fun k => some (!(A.zeq k 0)) else some true:Option (Bool))).bind fun w => bif w then some false else (M51 A a).bind fun (m,n) => (( bif (A.zeq n 0) then bif m then (M18 A).bind fun o => some o else bif (A.zeq (A.len b) 1) then (M18 A).bind fun p => some p else some false else some false:Option (Bool))).bind fun y => some y else some false) (fun _ => some false))
end
end Go.Am
