import Derived.Test.YtkjeamngjnfpkaaGreatGenp0
set_option maxRecDepth 100000
set_option maxHeartbeats 2000000
set_option linter.unusedVariables false
set_option linter.unusedSimpArgs false
namespace Go.Am
noncomputable section
open Go
/--  *lineal code.run .order -/
def Z56 (A:Ar) (d q:List D) (s u v w y z B e g i j k l m n o p r:Int) (b c:List D):Option (List D×Bool) := (( (Z55 A d q s u v w y z B e g i j k l m n o p r b c).bind fun E => bif (A.zlt 0 (A.len E)) then some true else (Z95 A c 0).bind fun F => some F:Option (Bool))).bind fun J => bif J then some ([],false) else (ck (A.zle 0 (A.len b))).bind fun _ => (ck (A.zle 0 0)).bind fun _ => (ck (A.fits (A.len b))).bind fun _ => (iter (b3h A b) (0,(A.rep 0 (.int .i64 0)))).bind (fun a => bif (A.zlt 0 (A.len a)) then (Z96 A 0 (A.len a) d q s u v w y z B e g i j k l m n o p r b c a).bind fun G => (fz A G 0 (A.len a)).bind fun C => some (C,true) else (c4S A a d q s u v w y z B e g i j k l m n o p r b c).bind fun () => some (a,true))

/-- lineal lineallaw08.IsCase -/
def Z8 (A:Ar) (c b:Int) (d e a g:List D):Option (Bool) := (( (Z18 A c b d e a g).bind fun l => bif l then some false else (Z30 A a).bind fun i => bif i then (Z31 A c b d e).bind fun j => bif j then bif (A.zeq b (A.len a)) then (Z32 A a g).bind fun k => some k else some false else some false else some false:Option (Bool))).bind fun m => some m

/--  *lineal code.run .has -/
def c2E (A:Ar) (a:Int) (u b:List D) (j B C E F G k i l m n o p q r s v w:Int) (y z:List D):Option (Bool) := (( (Z82 A 0 a (A.wrp .i64 (A.zsub (A.len b) 1))).bind fun e => bif e then bif (A.zeq a 0) then (gt A (cL 1) b a).bind fun c => some (A.zlt j (A.len c)) else bif (A.zeq a 1) then (gt A (cL 1) b a).bind fun d => some (A.zlt i (A.len d)) else none else some false:Option (Bool))).bind fun g => some g

def b0Z (A:Ar) (i c:List D) (y z B C E F G j k l m n o p q r s u:Int) (v w:List D):(List D×Int)->Option ((List D×Int)⊕(List D)):=fun (b,a) => bif (A.zlt a (A.len c)) then (c2E A a i c y z B C E F G j k l m n o p q r s u v w).bind fun e => (( bif e then (ap A b [(.int .i64 a)]).bind fun d => some d else some b:Option (List D))).bind fun g => some (.inl (g,(A.wrp .i64 (A.zadd a 1)))) else some (.inr b)

/--  *lineal code.run .left -/
def b1X (A:Ar) (b o:List D) (s u v w y z B c d e g i j k l m n p:Int) (q r:List D):Option (List D) := (iter (b0Z A b o s u v w y z B c d e g i j k l m n p q r) ([],0)).bind (fun a => some a)

/--  lineal spec.machine .state$1 -/
def c2F (A:Ar) (b c d:Int) (e g:List D):Option (Bool) := (b5n A 0 b (A.wrp .i64 (A.zsub c 1))).bind fun a => some (!a)

def a6u (A:Ar) (b:List D) (e g:Int) (i j:List D):Int->Option ((Int)⊕((Unit)⊕(Int))):=fun a => bif (A.zlt a (A.len b)) then (gt A (cI .i64) b a).bind fun c => (c2F A c e g i j).bind fun d => bif d then some (.inr (.inr a)) else some (.inl (A.wrp .i64 (A.zadd a 1))) else some (.inr (.inl ()))

/-- slices.IndexFunc   int int  -/
def b5v (A:Ar) (b:List D) (c d:Int) (e g:List D):Option (Int) := (iter (a6u A b c d e g) 0).bind (Sum.elim (fun _ => some (-1)) (fun a => some a))

/-- slices.ContainsFunc   int int  -/
def b3i (A:Ar) (b:List D) (c d:Int) (e g:List D):Option (Bool) := (b5v A b c d e g).bind fun a => some (A.zle 0 a)

/--  lineal spec.machine .state -/
def b9Q (A:Ar) (b c:Int) (d e g:List D):Option (Bool) := (b3i A g b c d e).bind fun a => some (!a)

/--  lineal spec.machine .calls$1 -/
def c2G (A:Ar) (b d c:Int) (e g:List D):Option (Bool) := (b5n A 0 b (A.wrp .i64 (A.zsub c 1))).bind fun a => some (!a)

def a6v (A:Ar) (b:List D) (e g:Int) (i j:List D):Int->Option ((Int)⊕((Unit)⊕(Int))):=fun a => bif (A.zlt a (A.len b)) then (gt A (cI .i64) b a).bind fun c => (c2G A c e g i j).bind fun d => bif d then some (.inr (.inr a)) else some (.inl (A.wrp .i64 (A.zadd a 1))) else some (.inr (.inl ()))

/-- slices.IndexFunc   int int  -/
def b5w (A:Ar) (b:List D) (c d:Int) (e g:List D):Option (Int) := (iter (a6v A b c d e g) 0).bind (Sum.elim (fun _ => some (-1)) (fun a => some a))

/-- slices.ContainsFunc   int int  -/
def b3j (A:Ar) (b:List D) (c d:Int) (e g:List D):Option (Bool) := (b5w A b c d e g).bind fun a => some (A.zle 0 a)

/--  lineal spec.machine .calls -/
def c2H (A:Ar) (b c:Int) (d e g:List D):Option (Bool) := (b3j A g b c d e).bind fun a => some (!a)

/--  lineal spec.machine .word -/
def b9R (A:Ar) (d e:Int) (g i a:List D):Option (Bool) := (( bif (A.zle (A.len a) 20) then (c2H A d e g i a).bind fun b => some b else some false:Option (Bool))).bind fun c => some c

/-- lineal spec.Run$1 -/
def c2I (A:Ar) (a b:Int) (c d:List D) (j:Int) (k:List D):Option (Bool) := (( (b9Q A a b c d [(.int .i64 j)]).bind fun g => bif g then (b9R A a b c d k).bind fun e => some e else some false:Option (Bool))).bind fun i => some i

/-- lineal spec.opened -/
def b9S (A:Ar) (a b:Int) (c d:List D) (i:Int) (j:List D):Option (Int×Int×List D×List D×Int) := (Z81 A a b c d).bind fun g => bif g then (c2I A a b c d i j).bind fun e => bif e then some (a,b,c,d,0) else some (0,0,[],[],2) else some (0,0,[],[],10)

def a7z (A:Ar) (m n e:List D):(Int×List D×Int)->Option ((Int×List D×Int)⊕(Int×List D)):=fun (a,d,b) => bif (A.zlt b (A.len e)) then (gt A (cI .i64) e b).bind fun c => (gt A (cL 1) n a).bind fun g => (gt A (cI .i64) g c).bind fun i => (ap A d [(.int .i64 i)]).bind fun l => (gt A (cL 1) m a).bind fun j => (gt A (cI .i64) j c).bind fun k => some (.inl (k,l,(A.wrp .i64 (A.zadd b 1)))) else some (.inr (a,d))

/--  lineal spec.machine .run -/
def c2J (A:Ar) (i j:Int) (c d:List D) (e:Int) (g:List D):Option (List D×Int) := (iter (a7z A c d g) (e,[],0)).bind (fun (a,b) => some (b,a))

/-- lineal spec.Run -/
def Z98 (A:Ar) (l m:Int) (n o:List D) (b:Int) (c:List D):Option (List D×Int×Int) := (b9S A l m n o b c).bind fun (j,k,d,e,a) => bif (A.zeq a 0) then (c2J A j k d e b c).bind fun (g,i) => some (g,i,0) else some ([],0,a)

def b3k (A:Ar) (b e:List D):Int->Option ((Int)⊕((Unit)⊕(Unit))):=fun a => bif (A.zlt a (A.len b)) then (gt A (cI .i64) b a).bind fun c => (gt A (cI .i64) e a).bind fun d => bif (A.zeq c d) then some (.inl (A.wrp .i64 (A.zadd a 1))) else some (.inr (.inr ())) else some (.inr (.inl ()))

/-- slices.Equal   int int  -/
def Z99 (A:Ar) (a b:List D):Option (Bool) := bif (A.zeq (A.len a) (A.len b)) then (iter (b3k A a b) 0).bind (Sum.elim (fun _ => some true) (fun _ => some false)) else some false

def b3l (A:Ar) (l d:List D):(List D×List D×Int)->Option ((List D×List D×Int)⊕(List D×List D)):=fun (b,c,a) => bif (A.zlt a (A.len d)) then (gt A (cI .i64) d a).bind fun e => (gt A (cG (lc (cI .i64) (lc (cI .i64) (lc (cI .i64) (lc (cI .i64) (lc (cI .i64) (l1 (cI .i64)))))))) l e).bind fun (m,n,g,i,o,p) => (ap A b [(.int .i64 g)]).bind fun j => (ap A c [(.int .i64 i)]).bind fun k => some (.inl (j,k,(A.wrp .i64 (A.zadd a 1)))) else some (.inr (b,c))

/-- lineal code.allowed -/
def Z57 (A:Ar) (i j:Int) (k l m n:List D):Option (Bool) := (iter (b3l A m n) ([],[],0)).bind (fun (d,e) => (Z98 A i j k l 0 d).bind fun (a,o,b) => (( bif (A.zeq b 0) then (Z99 A a e).bind fun c => some c else some false:Option (Bool))).bind fun g => some g)

/-- lineal code.Marked$1 -/
def Z54 (A:Ar) (b o:List D) (r s u v w y z c d e g i j k l m n p:Int) (a q N:List D) (J K:Int) (L M:List D):Option (Bool) := (Z55 A b o r s u v w y z c d e g i j k l m n p a q).bind fun B => bif (A.zlt 0 (A.len B)) then some true else (Z56 A b o r s u v w y z c d e g i j k l m n p a q).bind fun (C,E) => (( bif E then (Z57 A J K L M a C).bind fun F => some F else some false:Option (Bool))).bind fun G => some G

/-- slices.Clone   lineal api.Call lineal api.Call  -/
def b9T (A:Ar) (a:List D):Option (List D) := bif (A.zlt 0 (A.len a)) then (ap A [] a).bind fun b => some b else both ( some []) ( (ap A [] a).bind fun c => some c)

/-- slices.Clone   int int  -/
def Z39 (A:Ar) (a:List D):Option (List D) := bif (A.zlt 0 (A.len a)) then (ap A [] a).bind fun b => some b else both ( some []) ( (ap A [] a).bind fun c => some c)

/--  lineal code.run .clone -/
def Z83 (A:Ar) (c p:List D) (u v w y z B C d e g i j k l m n o q:Int) (r s:List D):Option (List D×List D×Int×Int×Int×Int×Int×Int×Int×Int×Int×Int×Int×Int×Int×Int×Int×Int×Int×Int×List D×List D) := (b9T A r).bind fun a => (ck (scalars a)).bind fun _ => (Z39 A s).bind fun b => (ck (scalars b)).bind fun _ => some (c,p,u,v,w,y,z,B,C,d,e,g,i,j,k,l,m,n,o,q,a,b)

def b1a (A:Ar) (x1 x2:List D) (x3 x4 x5 x6 x7 x8 x9 m0 n0 o0 p0 q0 r0 s0 u0 v0 w0 y0:Int) (z0 a1:List D) (b1:Int) (G a:List D) (c1 d1:Int) (e1 g1 F:List D) (self162:List D->List D->Int->Int->Int->Int->Int->Int->Int->Int->Int->Int->Int->Int->Int->Int->Int->Int->Int->Int->List D->List D->Int->List D->List D->Int->Int->List D->List D->Option (Bool)):Int->Option ((Int)⊕((Unit)⊕(List D×List D×Int×Int×Int×Int×Int×Int×Int×Int×Int×Int×Int×Int×Int×Int×Int×Int×Int×Int×List D×List D))):=fun b => bif (A.zlt b (A.len F)) then (gt A (cI .i64) F b).bind fun c => (Z83 A x1 x2 x3 x4 x5 x6 x7 x8 x9 m0 n0 o0 p0 q0 r0 s0 u0 v0 w0 y0 z0 a1).bind fun (L,M,N,O,P,Q,R,S,U,V,W,X,Y,a0,b0,c0,d0,e0,g0,i0,j0,k0) => (Z84 A c G L M N O P Q R S U V W X Y a0 b0 c0 d0 e0 g0 i0 j0 k0).bind fun (d,e,g,i,j,k,l,m,n,o,p,q,r,s,u,v,w,y,z,B,C,E) => (sl A a 0 (A.len a)).bind fun J => (ck (A.zeq (A.len a) (A.len a))).bind fun _ => (ap A J [(.int .i64 c)]).bind fun K => (self162 d e g i j k l m n o p q r s u v w y z B C E b1 G K c1 d1 e1 g1).bind fun l0 => bif l0 then some (.inl (A.wrp .i64 (A.zadd b 1))) else some (.inr (.inr (d,e,g,i,j,k,l,m,n,o,p,q,r,s,u,v,w,y,z,B,C,E))) else some (.inr (.inl ()))

/--  lineal code.run .all -/
def b3m (A:Ar) (self162:List D->List D->Int->Int->Int->Int->Int->Int->Int->Int->Int->Int->Int->Int->Int->Int->Int->Int->Int->Int->List D->List D->Int->List D->List D->Int->Int->List D->List D->Option (Bool)) (b o:List D) (r s u v w y z c d e g i j k l m n a:Int) (p q:List D) (C:Int) (N E:List D) (F G:Int) (J K:List D):Option (Bool) := (b1X A b o r s u v w y z c d e g i j k l m n a p q).bind fun B => (( bif (A.zeq (A.len B) 0) then some true else some (A.zeq a C):Option (Bool))).bind fun M => bif M then (Z54 A b o r s u v w y z c d e g i j k l m n a p q E F G J K).bind fun L => some L else (iter (b1a A b o r s u v w y z c d e g i j k l m n a p q C N E F G J K B self162) 0).bind (Sum.elim (fun _ => some true) (fun (O,P,Q,R,S,U,V,W,X,Y,a0,b0,c0,d0,e0,g0,i0,j0,k0,l0,m0,n0) => some false))

def b3n (A:Ar):Nat->List D->List D->Int->Int->Int->Int->Int->Int->Int->Int->Int->Int->Int->Int->Int->Int->Int->Int->Int->Int->List D->List D->Int->List D->List D->Int->Int->List D->List D->Option (Bool) | 0=>fun _ _ _ _ _ _ _ _ _ _ _ _ _ _ _ _ _ _ _ _ _ _ _ _ _ _ _ _ _=>none | n+1=>fun a o C E F G J K L b c d e g i j k l m p q r s u v w y z B=>b3m A (b3n A n) a o C E F G J K L b c d e g i j k l m p q r s u v w y z B

def c3b (A:Ar) (a n:List D) (B C E F G J K b c d e g i j k l m o:Int) (p q:List D) (r:Int) (s u:List D) (v w:Int) (y z:List D):Option (Bool):=b3n A fuel a n B C E F G J K b c d e g i j k l m o p q r s u v w y z

def b9U (A:Ar) (x1 x2:List D) (x3 x4 x5 x6 x7 x8 x9 m0 n0 o0 p0 q0 r0 s0 u0 v0 w0 y0 z0:Int) (G a:List D) (a1 b1:Int) (c1 d1 e1 g1 F:List D):Int->Option ((Int)⊕((Unit)⊕(List D×List D×Int×Int×Int×Int×Int×Int×Int×Int×Int×Int×Int×Int×Int×Int×Int×Int×Int×Int×List D×List D))):=fun b => bif (A.zlt b (A.len F)) then (gt A (cI .i64) F b).bind fun c => (Z83 A x1 x2 x3 x4 x5 x6 x7 x8 x9 m0 n0 o0 p0 q0 r0 s0 u0 v0 w0 y0 e1 g1).bind fun (L,M,N,O,P,Q,R,S,U,V,W,X,Y,a0,b0,c0,d0,e0,g0,i0,j0,k0) => (Z84 A c G L M N O P Q R S U V W X Y a0 b0 c0 d0 e0 g0 i0 j0 k0).bind fun (d,e,g,i,j,k,l,m,n,o,p,q,r,s,u,v,w,y,z,B,C,E) => (sl A a 0 (A.len a)).bind fun J => (ck (A.zeq (A.len a) (A.len a))).bind fun _ => (ap A J [(.int .i64 c)]).bind fun K => (c3b A d e g i j k l m n o p q r s u v w y z B C E z0 G K a1 b1 c1 d1).bind fun l0 => bif l0 then some (.inl (A.wrp .i64 (A.zadd b 1))) else some (.inr (.inr (d,e,g,i,j,k,l,m,n,o,p,q,r,s,u,v,w,y,z,B,C,E))) else some (.inr (.inl ()))

/--  lineal code.run .all -/
def Z36 (A:Ar) (b o:List D) (r s u v w y z c d e g i j k l m n a C:Int) (N E:List D) (F G:Int) (J K p q:List D):Option (Bool) := (b1X A b o r s u v w y z c d e g i j k l m n a p q).bind fun B => (( bif (A.zeq (A.len B) 0) then some true else some (A.zeq a C):Option (Bool))).bind fun M => bif M then (Z54 A b o r s u v w y z c d e g i j k l m n a p q E F G J K).bind fun L => some L else (iter (b9U A b o r s u v w y z c d e g i j k l m n a C N E F G J K p q B) 0).bind (Sum.elim (fun _ => some true) (fun (O,P,Q,R,S,U,V,W,X,Y,a0,b0,c0,d0,e0,g0,i0,j0,k0,l0,m0,n0) => some false))

/-- lineal code.Marked -/
def Z16 (A:Ar) (c d:Int) (e g a i j:List D):Option (Bool×Int) := (Z33 A c d e g a i).bind fun b => bif (A.zeq b 0) then (Z53 A a j).bind fun k => bif k then (Z35 A a i).bind fun (l,m) => (Z36 A l m 0 0 0 0 0 0 0 0 0 0 0 0 0 0 0 0 0 0 12 j [] c d e g [] []).bind fun n => some (n,0) else some (false,2) else some (false,b)

/--  *lineal code.run .has -/
def c4T (A:Ar) (k b:List D) (j z B C E F G i l m n o p q r s u v:Int) (w y:List D) (a:Int):Option (Bool) := (( (Z82 A 0 a (A.wrp .i64 (A.zsub (A.len b) 1))).bind fun e => bif e then bif (A.zeq a 0) then (gt A (cL 1) b a).bind fun c => some (A.zlt j (A.len c)) else bif (A.zeq a 1) then (gt A (cL 1) b a).bind fun d => some (A.zlt i (A.len d)) else none else some false:Option (Bool))).bind fun g => some g

/-- lineal code.Ends$1 -/
def Z58 (A:Ar) (b o:List D) (s u v w y z B c d e g i j k l m n p:Int) (q r C:List D):Option (Bool) := (Z55 A b o s u v w y z B c d e g i j k l m n p q r).bind fun a => some (A.zeq (A.len a) 0)

def b1b (A:Ar) (x1 x2:List D) (x3 x4 x5 x6 x7 x8 x9 m0 n0 o0 p0 q0 r0 s0 u0 v0 w0 y0:Int) (z0 a1:List D) (b1:Int) (G a F:List D) (self186:List D->List D->Int->Int->Int->Int->Int->Int->Int->Int->Int->Int->Int->Int->Int->Int->Int->Int->Int->Int->List D->List D->Int->List D->List D->Option (Bool)):Int->Option ((Int)⊕((Unit)⊕(List D×List D×Int×Int×Int×Int×Int×Int×Int×Int×Int×Int×Int×Int×Int×Int×Int×Int×Int×Int×List D×List D))):=fun b => bif (A.zlt b (A.len F)) then (gt A (cI .i64) F b).bind fun c => (Z83 A x1 x2 x3 x4 x5 x6 x7 x8 x9 m0 n0 o0 p0 q0 r0 s0 u0 v0 w0 y0 z0 a1).bind fun (L,M,N,O,P,Q,R,S,U,V,W,X,Y,a0,b0,c0,d0,e0,g0,i0,j0,k0) => (Z84 A c G L M N O P Q R S U V W X Y a0 b0 c0 d0 e0 g0 i0 j0 k0).bind fun (d,e,g,i,j,k,l,m,n,o,p,q,r,s,u,v,w,y,z,B,C,E) => (sl A a 0 (A.len a)).bind fun J => (ck (A.zeq (A.len a) (A.len a))).bind fun _ => (ap A J [(.int .i64 c)]).bind fun K => (self186 d e g i j k l m n o p q r s u v w y z B C E b1 G K).bind fun l0 => bif l0 then some (.inl (A.wrp .i64 (A.zadd b 1))) else some (.inr (.inr (d,e,g,i,j,k,l,m,n,o,p,q,r,s,u,v,w,y,z,B,C,E))) else some (.inr (.inl ()))

/--  lineal code.run .all -/
def b3o (A:Ar) (self186:List D->List D->Int->Int->Int->Int->Int->Int->Int->Int->Int->Int->Int->Int->Int->Int->Int->Int->Int->Int->List D->List D->Int->List D->List D->Option (Bool)) (b o:List D) (r s u v w y z c d e g i j k l m n a:Int) (p q:List D) (C:Int) (J E:List D):Option (Bool) := (b1X A b o r s u v w y z c d e g i j k l m n a p q).bind fun B => (( bif (A.zeq (A.len B) 0) then some true else some (A.zeq a C):Option (Bool))).bind fun G => bif G then (Z58 A b o r s u v w y z c d e g i j k l m n a p q E).bind fun F => some F else (iter (b1b A b o r s u v w y z c d e g i j k l m n a p q C J E B self186) 0).bind (Sum.elim (fun _ => some true) (fun (K,L,M,N,O,P,Q,R,S,U,V,W,X,Y,a0,b0,c0,d0,e0,g0,i0,j0) => some false))

def b3p (A:Ar):Nat->List D->List D->Int->Int->Int->Int->Int->Int->Int->Int->Int->Int->Int->Int->Int->Int->Int->Int->Int->Int->List D->List D->Int->List D->List D->Option (Bool) | 0=>fun _ _ _ _ _ _ _ _ _ _ _ _ _ _ _ _ _ _ _ _ _ _ _ _ _=>none | n+1=>fun a o w y z B C E F b c d e g i j k l m p q r s u v=>b3o A (b3p A n) a o w y z B C E F b c d e g i j k l m p q r s u v

def c3c (A:Ar) (a n:List D) (v w y z B C E b c d e g i j k l m o:Int) (p q:List D) (r:Int) (s u:List D):Option (Bool):=b3p A fuel a n v w y z B C E b c d e g i j k l m o p q r s u

def b6T (A:Ar) (x1 x2:List D) (x3 x4 x5 x6 x7 x8 x9 m0 n0 o0 p0 q0 r0 s0 u0 v0 w0 y0 z0:Int) (G a a1 b1 F:List D):Int->Option ((Int)⊕((Unit)⊕(List D×List D×Int×Int×Int×Int×Int×Int×Int×Int×Int×Int×Int×Int×Int×Int×Int×Int×Int×Int×List D×List D))):=fun b => bif (A.zlt b (A.len F)) then (gt A (cI .i64) F b).bind fun c => (Z83 A x1 x2 x3 x4 x5 x6 x7 x8 x9 m0 n0 o0 p0 q0 r0 s0 u0 v0 w0 y0 a1 b1).bind fun (L,M,N,O,P,Q,R,S,U,V,W,X,Y,a0,b0,c0,d0,e0,g0,i0,j0,k0) => (Z84 A c G L M N O P Q R S U V W X Y a0 b0 c0 d0 e0 g0 i0 j0 k0).bind fun (d,e,g,i,j,k,l,m,n,o,p,q,r,s,u,v,w,y,z,B,C,E) => (sl A a 0 (A.len a)).bind fun J => (ck (A.zeq (A.len a) (A.len a))).bind fun _ => (ap A J [(.int .i64 c)]).bind fun K => (c3c A d e g i j k l m n o p q r s u v w y z B C E z0 G K).bind fun l0 => bif l0 then some (.inl (A.wrp .i64 (A.zadd b 1))) else some (.inr (.inr (d,e,g,i,j,k,l,m,n,o,p,q,r,s,u,v,w,y,z,B,C,E))) else some (.inr (.inl ()))

/--  lineal code.run .all -/
def c2K (A:Ar) (b o:List D) (r s u v w y z c d e g i j k l m n a C:Int) (J E p q:List D):Option (Bool) := (b1X A b o r s u v w y z c d e g i j k l m n a p q).bind fun B => (( bif (A.zeq (A.len B) 0) then some true else some (A.zeq a C):Option (Bool))).bind fun G => bif G then (Z58 A b o r s u v w y z c d e g i j k l m n a p q E).bind fun F => some F else (iter (b6T A b o r s u v w y z c d e g i j k l m n a C J E p q B) 0).bind (Sum.elim (fun _ => some true) (fun (K,L,M,N,O,P,Q,R,S,U,V,W,X,Y,a0,b0,c0,d0,e0,g0,i0,j0) => some false))

/-- lineal code.Ends -/
def Z17 (A:Ar) (b c:List D):Option (Bool×Int) := (Z40 A b c).bind fun a => bif (A.zeq a 0) then (Z35 A b c).bind fun (e,g) => (c2K A e g 0 0 0 0 0 0 0 0 0 0 0 0 0 0 0 0 0 0 12 [] [] [] []).bind fun d => some (d,0) else some (false,a)

/-- lineal code.isSteps -/
def Z34 (A:Ar) (b:Int):Option (Bool) := (Z82 A 0 b 12).bind fun a => some a

/-- lineal code.Break$1 -/
def Z37 (A:Ar) (s J:List D) (M N O P Q R S u v w y z B C E F G K:Int) (a L m:List D) (n o:Int) (p q:List D) (b:List (D×D)) (r:List D):Option (Bool×List (D×D)×List D) := (ck (A.zle (A.len a) (Int.ofNat 6))).bind fun _ => (ck (A.zle (A.zmul (A.zadd 0 (Int.ofNat 6)) (Int.ofNat 6)) (A.len (A.rep (Int.ofNat 36) (.int .i64 0))))).bind fun _ => (( (ga A (A.spl (A.rep (Int.ofNat 36) (.int .i64 0)) (A.zmul 0 (Int.ofNat 6)) (A.flat a)) (A.zadd 0 (Int.ofNat 0)) (Int.ofNat 36)).bind fun d => (ck (A.conf [.int .i64,.int .i64,.int .i64,.int .i64,.int .i64,.int .i64,.int .i64,.int .i64,.int .i64,.int .i64,.int .i64,.int .i64,.int .i64,.int .i64,.int .i64,.int .i64,.int .i64,.int .i64,.int .i64,.int .i64,.int .i64,.int .i64,.int .i64,.int .i64,.int .i64,.int .i64,.int .i64,.int .i64,.int .i64,.int .i64,.int .i64,.int .i64,.int .i64,.int .i64,.int .i64,.int .i64] d)).bind fun _ => (lk A cB b (.agg d)).bind fun i=>i.elim ( some true) fun g => some (!g):Option (Bool))).bind fun k => jn (fun (l:List (D×D)) => some (true,l,r)) fun c => bif k then (Z38 A n o p q a).bind fun j => bif j then (ga A (A.spl (A.rep (Int.ofNat 36) (.int .i64 0)) (A.zmul 0 (Int.ofNat 6)) (A.flat a)) (A.zadd 0 (Int.ofNat 0)) (Int.ofNat 36)).bind fun e => (ck (A.conf [.int .i64,.int .i64,.int .i64,.int .i64,.int .i64,.int .i64,.int .i64,.int .i64,.int .i64,.int .i64,.int .i64,.int .i64,.int .i64,.int .i64,.int .i64,.int .i64,.int .i64,.int .i64,.int .i64,.int .i64,.int .i64,.int .i64,.int .i64,.int .i64,.int .i64,.int .i64,.int .i64,.int .i64,.int .i64,.int .i64,.int .i64,.int .i64,.int .i64,.int .i64,.int .i64,.int .i64] e)).bind fun _ => c (A.mput b (.agg e) (.bool true)) else some (false,b,m) else c b

def a7A (A:Ar) (x1 x2:List D) (x3 x4 x5 x6 x7 x8 x9 q0 r0 s0 u0 v0 w0 y0 z0 a1 b1 c1:Int) (d1 e1:List D) (g1:Int) (M a:List D) (i1 j1:Int) (k1 l1 J:List D) (self194:List D->List D->Int->Int->Int->Int->Int->Int->Int->Int->Int->Int->Int->Int->Int->Int->Int->Int->Int->Int->List D->List D->Int->List D->List D->Int->Int->List D->List D->(List (D×D))->List D->(Option (Bool×List (D×D)×List D))):(Int×List (D×D)×List D)->Option ((Int×List (D×D)×List D)⊕((List (D×D)×List D)⊕(List (D×D)×List D×List D×List D×Int×Int×Int×Int×Int×Int×Int×Int×Int×Int×Int×Int×Int×Int×Int×Int×Int×Int×List D×List D))):=fun (b,K,L) => bif (A.zlt b (A.len J)) then (gt A (cI .i64) J b).bind fun c => (Z83 A x1 x2 x3 x4 x5 x6 x7 x8 x9 q0 r0 s0 u0 v0 w0 y0 z0 a1 b1 c1 d1 e1).bind fun (P,Q,R,S,U,V,W,X,Y,a0,b0,c0,d0,e0,g0,i0,j0,k0,l0,m0,n0,o0) => (Z84 A c M P Q R S U V W X Y a0 b0 c0 d0 e0 g0 i0 j0 k0 l0 m0 n0 o0).bind fun (d,e,g,i,j,k,l,m,n,o,p,q,r,s,u,v,w,y,z,B,C,E) => (sl A a 0 (A.len a)).bind fun N => (ck (A.zeq (A.len a) (A.len a))).bind fun _ => (ap A N [(.int .i64 c)]).bind fun O => (self194 d e g i j k l m n o p q r s u v w y z B C E g1 M O i1 j1 k1 l1 K L).bind fun (p0,F,G) => bif p0 then some (.inl ((A.wrp .i64 (A.zadd b 1)),F,G)) else some (.inr (.inr (F,G,d,e,g,i,j,k,l,m,n,o,p,q,r,s,u,v,w,y,z,B,C,E))) else some (.inr (.inl (K,L)))

/--  lineal code.run .all -/
def b0j (A:Ar) (self194:List D->List D->Int->Int->Int->Int->Int->Int->Int->Int->Int->Int->Int->Int->Int->Int->Int->Int->Int->Int->List D->List D->Int->List D->List D->Int->Int->List D->List D->(List (D×D))->List D->(Option (Bool×List (D×D)×List D))) (b o:List D) (r s u v w y z c d e g i j k l m n a:Int) (p q:List D) (C:Int) (W E:List D) (F G:Int) (J K:List D) (L:List (D×D)) (M:List D):Option (Bool×List (D×D)×List D) := (b1X A b o r s u v w y z c d e g i j k l m n a p q).bind fun B => (( bif (A.zeq (A.len B) 0) then some true else some (A.zeq a C):Option (Bool))).bind fun V => bif V then (Z37 A b o r s u v w y z c d e g i j k l m n a p q E F G J K L M).bind fun (N,O,P) => some (N,O,P) else (iter (a7A A b o r s u v w y z c d e g i j k l m n a p q C W E F G J K B self194) (0,L,M)).bind (Sum.elim (fun (Q,R) => some (true,Q,R)) (fun (S,U,X,Y,a0,b0,c0,d0,e0,g0,i0,j0,k0,l0,m0,n0,o0,p0,q0,r0,s0,u0,v0,w0) => some (false,S,U)))

def b3q (A:Ar):Nat->List D->List D->Int->Int->Int->Int->Int->Int->Int->Int->Int->Int->Int->Int->Int->Int->Int->Int->Int->Int->List D->List D->Int->List D->List D->Int->Int->List D->List D->(List (D×D))->List D->(Option (Bool×List (D×D)×List D)) | 0=>fun _ _ _ _ _ _ _ _ _ _ _ _ _ _ _ _ _ _ _ _ _ _ _ _ _ _ _ _ _ _ _=>none | n+1=>fun a o C G J K L M N b c d e g i j k l m p q r s u v w y z B E F=>b0j A (b3q A n) a o C G J K L M N b c d e g i j k l m p q r s u v w y z B E F

def c4U (A:Ar) (a n:List D) (B F G J K L M b c d e g i j k l m o:Int) (p q:List D) (r:Int) (s u:List D) (v w:Int) (y z:List D) (C:List (D×D)) (E:List D):Option (Bool×List (D×D)×List D):=b3q A fuel a n B F G J K L M b c d e g i j k l m o p q r s u v w y z C E

def a7B (A:Ar) (x1 x2:List D) (x3 x4 x5 x6 x7 x8 x9 q0 r0 s0 u0 v0 w0 y0 z0 a1 b1 c1 d1:Int) (M a:List D) (e1 g1:Int) (i1 j1 k1 l1 J:List D):(Int×List D×List (D×D))->Option ((Int×List D×List (D×D))⊕((List D×List (D×D))⊕(List D×List (D×D)×List D×List D×Int×Int×Int×Int×Int×Int×Int×Int×Int×Int×Int×Int×Int×Int×Int×Int×Int×Int×List D×List D))):=fun (b,K,L) => bif (A.zlt b (A.len J)) then (gt A (cI .i64) J b).bind fun c => (Z83 A x1 x2 x3 x4 x5 x6 x7 x8 x9 q0 r0 s0 u0 v0 w0 y0 z0 a1 b1 c1 k1 l1).bind fun (P,Q,R,S,U,V,W,X,Y,a0,b0,c0,d0,e0,g0,i0,j0,k0,l0,m0,n0,o0) => (Z84 A c M P Q R S U V W X Y a0 b0 c0 d0 e0 g0 i0 j0 k0 l0 m0 n0 o0).bind fun (d,e,g,i,j,k,l,m,n,o,p,q,r,s,u,v,w,y,z,B,C,E) => (sl A a 0 (A.len a)).bind fun N => (ck (A.zeq (A.len a) (A.len a))).bind fun _ => (ap A N [(.int .i64 c)]).bind fun O => (c4U A d e g i j k l m n o p q r s u v w y z B C E d1 M O e1 g1 i1 j1 L K).bind fun (p0,F,G) => bif p0 then some (.inl ((A.wrp .i64 (A.zadd b 1)),G,F)) else some (.inr (.inr (G,F,d,e,g,i,j,k,l,m,n,o,p,q,r,s,u,v,w,y,z,B,C,E))) else some (.inr (.inl (K,L)))

/--  lineal code.run .all -/
def b7O (A:Ar) (b o:List D) (p s u v w y z c d e g i j k l m n a C:Int) (W E:List D) (F G:Int) (J K L:List D) (M:List (D×D)) (q r:List D):Option (Bool×List D×List (D×D)) := (b1X A b o p s u v w y z c d e g i j k l m n a q r).bind fun B => (( bif (A.zeq (A.len B) 0) then some true else some (A.zeq a C):Option (Bool))).bind fun V => bif V then (Z37 A b o p s u v w y z c d e g i j k l m n a q r E F G J K M L).bind fun (N,O,P) => some (N,P,O) else (iter (a7B A b o p s u v w y z c d e g i j k l m n a C W E F G J K q r B) (0,L,M)).bind (Sum.elim (fun (Q,R) => some (true,Q,R)) (fun (S,U,X,Y,a0,b0,c0,d0,e0,g0,i0,j0,k0,l0,m0,n0,o0,p0,q0,r0,s0,u0,v0,w0) => some (false,S,U)))

/-- lineal code.Break -/
def Z11 (A:Ar) (b c:Int) (d e g i:List D) (j:Int):Option (List D×Int) := (Z33 A b c d e g i).bind fun a => bif (A.zeq a 0) then (Z34 A j).bind fun k => bif k then (Z35 A g i).bind fun (l,m) => (b7O A l m 0 0 0 0 0 0 0 0 0 0 0 0 0 0 0 0 0 0 j [] [] b c d e [] [] [] []).bind fun (n,o,q) => bif n then some ([],5) else (Z39 A o).bind fun p => some (p,0) else some ([],2) else some ([],a)

/-- lineal code.Sound -/
def Z10 (A:Ar) (b c:Int) (d e g i:List D) (j:Int):Option (Bool×Int) := (Z11 A b c d e g i j).bind fun (k,a) => bif (A.zeq a 5) then some (true,0) else some (false,a)

/-- lineal code.Histories$1 -/
def Z41 (A:Ar) (d q:List D) (v w y z B C E e g i j k l m n o p r:Int) (b s u c:List D):Option (List D) := (ap A c [(.list 6 b)]).bind fun a => some a

def b6U (A:Ar) (x1 x2:List D) (x3 x4 x5 x6 x7 x8 x9 o0 p0 q0 r0 s0 u0 v0 w0 y0 z0 a1:Int) (b1 c1:List D) (d1:Int) (K a G:List D) (self202:List D->List D->Int->Int->Int->Int->Int->Int->Int->Int->Int->Int->Int->Int->Int->Int->Int->Int->Int->Int->List D->List D->Int->List D->List D->List D->(Option (Bool×List D))):(Int×List D)->Option ((Int×List D)⊕((List D)⊕(List D×List D×List D×Int×Int×Int×Int×Int×Int×Int×Int×Int×Int×Int×Int×Int×Int×Int×Int×Int×Int×List D×List D))):=fun (b,J) => bif (A.zlt b (A.len G)) then (gt A (cI .i64) G b).bind fun c => (Z83 A x1 x2 x3 x4 x5 x6 x7 x8 x9 o0 p0 q0 r0 s0 u0 v0 w0 y0 z0 a1 b1 c1).bind fun (N,O,P,Q,R,S,U,V,W,X,Y,a0,b0,c0,d0,e0,g0,i0,j0,k0,l0,m0) => (Z84 A c K N O P Q R S U V W X Y a0 b0 c0 d0 e0 g0 i0 j0 k0 l0 m0).bind fun (d,e,g,i,j,k,l,m,n,o,p,q,r,s,u,v,w,y,z,B,C,E) => (sl A a 0 (A.len a)).bind fun L => (ck (A.zeq (A.len a) (A.len a))).bind fun _ => (ap A L [(.int .i64 c)]).bind fun M => (self202 d e g i j k l m n o p q r s u v w y z B C E d1 K M J).bind fun (n0,F) => bif n0 then some (.inl ((A.wrp .i64 (A.zadd b 1)),F)) else some (.inr (.inr (F,d,e,g,i,j,k,l,m,n,o,p,q,r,s,u,v,w,y,z,B,C,E))) else some (.inr (.inl J))

/--  lineal code.run .all -/
def b7P (A:Ar) (self202:List D->List D->Int->Int->Int->Int->Int->Int->Int->Int->Int->Int->Int->Int->Int->Int->Int->Int->Int->Int->List D->List D->Int->List D->List D->List D->(Option (Bool×List D))) (b o:List D) (r s u v w y z c d e g i j k l m n a:Int) (p q:List D) (C:Int) (M E F:List D):Option (Bool×List D) := (b1X A b o r s u v w y z c d e g i j k l m n a p q).bind fun B => (( bif (A.zeq (A.len B) 0) then some true else some (A.zeq a C):Option (Bool))).bind fun L => bif L then (Z41 A b o r s u v w y z c d e g i j k l m n a p q E F).bind fun G => some (true,G) else (iter (b6U A b o r s u v w y z c d e g i j k l m n a p q C M E B self202) (0,F)).bind (Sum.elim (fun J => some (true,J)) (fun (K,N,O,P,Q,R,S,U,V,W,X,Y,a0,b0,c0,d0,e0,g0,i0,j0,k0,l0,m0) => some (false,K)))

def b3r (A:Ar):Nat->List D->List D->Int->Int->Int->Int->Int->Int->Int->Int->Int->Int->Int->Int->Int->Int->Int->Int->Int->Int->List D->List D->Int->List D->List D->List D->(Option (Bool×List D)) | 0=>fun _ _ _ _ _ _ _ _ _ _ _ _ _ _ _ _ _ _ _ _ _ _ _ _ _ _=>none | n+1=>fun a o y z B C E F G b c d e g i j k l m p q r s u v w=>b7P A (b3r A n) a o y z B C E F G b c d e g i j k l m p q r s u v w

def c3d (A:Ar) (a n:List D) (w y z B C E F b c d e g i j k l m o:Int) (p q:List D) (r:Int) (s u v:List D):Option (Bool×List D):=b3r A fuel a n w y z B C E F b c d e g i j k l m o p q r s u v

def b6V (A:Ar) (x1 x2:List D) (x3 x4 x5 x6 x7 x8 x9 o0 p0 q0 r0 s0 u0 v0 w0 y0 z0 a1 b1:Int) (K a c1 d1 G:List D):(Int×List D)->Option ((Int×List D)⊕((List D)⊕(List D×List D×List D×Int×Int×Int×Int×Int×Int×Int×Int×Int×Int×Int×Int×Int×Int×Int×Int×Int×Int×List D×List D))):=fun (b,J) => bif (A.zlt b (A.len G)) then (gt A (cI .i64) G b).bind fun c => (Z83 A x1 x2 x3 x4 x5 x6 x7 x8 x9 o0 p0 q0 r0 s0 u0 v0 w0 y0 z0 a1 c1 d1).bind fun (N,O,P,Q,R,S,U,V,W,X,Y,a0,b0,c0,d0,e0,g0,i0,j0,k0,l0,m0) => (Z84 A c K N O P Q R S U V W X Y a0 b0 c0 d0 e0 g0 i0 j0 k0 l0 m0).bind fun (d,e,g,i,j,k,l,m,n,o,p,q,r,s,u,v,w,y,z,B,C,E) => (sl A a 0 (A.len a)).bind fun L => (ck (A.zeq (A.len a) (A.len a))).bind fun _ => (ap A L [(.int .i64 c)]).bind fun M => (c3d A d e g i j k l m n o p q r s u v w y z B C E b1 K M J).bind fun (n0,F) => bif n0 then some (.inl ((A.wrp .i64 (A.zadd b 1)),F)) else some (.inr (.inr (F,d,e,g,i,j,k,l,m,n,o,p,q,r,s,u,v,w,y,z,B,C,E))) else some (.inr (.inl J))

/--  lineal code.run .all -/
def c2L (A:Ar) (b o:List D) (r s u v w y z c d e g i j k l m n a C:Int) (M E F p q:List D):Option (Bool×List D) := (b1X A b o r s u v w y z c d e g i j k l m n a p q).bind fun B => (( bif (A.zeq (A.len B) 0) then some true else some (A.zeq a C):Option (Bool))).bind fun L => bif L then (Z41 A b o r s u v w y z c d e g i j k l m n a p q E F).bind fun G => some (true,G) else (iter (b6V A b o r s u v w y z c d e g i j k l m n a C M E p q B) (0,F)).bind (Sum.elim (fun J => some (true,J)) (fun (K,N,O,P,Q,R,S,U,V,W,X,Y,a0,b0,c0,d0,e0,g0,i0,j0,k0,l0,m0) => some (false,K)))

def Z42 (A:Ar) (a:List D):Option Unit:=ck (A.zeq (A.len a) 0)

def b3s (A:Ar) (c:List D):Int->Option ((Int)⊕((Unit)⊕(Int))):=fun a => bif (A.zlt a (A.len c)) then (gt A (cI .i64) c a).bind fun b => bif (A.zeq b 0) then some (.inl (A.wrp .i64 (A.zadd a 1))) else some (.inr (.inr b)) else some (.inr (.inl ()))

/-- cmp.Or int  -/
def Z89 (A:Ar) (b:List D):Option (Int) := (iter (b3s A b) 0).bind (Sum.elim (fun _ => some 0) (fun a => some a))

/-- lineal code.compare -/
def Z45 (A:Ar) (b n g i j k l o m c d e:Int):Option (Int) := (Z89 A [(.int .i64 (A.wrp .i64 (A.zsub b l))),(.int .i64 (A.wrp .i64 (A.zsub g m))),(.int .i64 (A.wrp .i64 (A.zsub i c))),(.int .i64 (A.wrp .i64 (A.zsub j d))),(.int .i64 (A.wrp .i64 (A.zsub k e)))]).bind fun a => some a

def b0k (A:Ar) (c d:List D):Int->Option ((Int)⊕((Unit)⊕(Int))):=fun a => bif (A.zlt a (A.len c)) then (gt A (cG (lc (cI .i64) (lc (cI .i64) (lc (cI .i64) (lc (cI .i64) (lc (cI .i64) (l1 (cI .i64)))))))) c a).bind fun (e,g,i,j,k,l) => bif (A.zle (A.len d) a) then some (.inr (.inr 1)) else (gt A (cG (lc (cI .i64) (lc (cI .i64) (lc (cI .i64) (lc (cI .i64) (lc (cI .i64) (l1 (cI .i64)))))))) d a).bind fun (m,n,o,p,q,r) => (Z45 A e g i j k l m n o p q r).bind fun b => bif (A.zeq b 0) then some (.inl (A.wrp .i64 (A.zadd a 1))) else some (.inr (.inr b)) else some (.inr (.inl ()))

/-- slices.CompareFunc   lineal api.Call   lineal api.Call lineal api.Call lineal api.Call  -/
def Z44 (A:Ar) (a b:List D):Option (Int) := (iter (b0k A a b) 0).bind (Sum.elim (fun _ => bif (A.zlt (A.len a) (A.len b)) then some (-1) else some 0) (fun c => some c))

/-- lineal code.Histories$2 -/
def Z43 (A:Ar) (b c:List D):Option (Int) := (Z44 A b c).bind fun a => some a

def b9V (A:Ar) (c d g i:Int) (e:List D):Option (List D):=srt (cL 6) (fun a b=>Z43 A a b) c d e

def b3t (A:Ar) (b q:List D):Int->Option ((Int)⊕((Unit)⊕(Unit))):=fun a => bif (A.zlt a (A.len b)) then (gt A (cG (lc (cI .i64) (lc (cI .i64) (lc (cI .i64) (lc (cI .i64) (lc (cI .i64) (l1 (cI .i64)))))))) b a).bind fun (c,d,e,g,i,j) => (gt A (cG (lc (cI .i64) (lc (cI .i64) (lc (cI .i64) (lc (cI .i64) (lc (cI .i64) (l1 (cI .i64)))))))) q a).bind fun (k,l,m,n,o,p) => bif (A.deq [(.int .i64 c),(.int .i64 d),(.int .i64 e),(.int .i64 g),(.int .i64 i),(.int .i64 j)] [(.int .i64 k),(.int .i64 l),(.int .i64 m),(.int .i64 n),(.int .i64 o),(.int .i64 p)]) then some (.inl (A.wrp .i64 (A.zadd a 1))) else some (.inr (.inr ())) else some (.inr (.inl ()))

/-- slices.Equal   lineal api.Call lineal api.Call  -/
def Z47 (A:Ar) (a b:List D):Option (Bool) := bif (A.zeq (A.len a) (A.len b)) then (iter (b3t A a b) 0).bind (Sum.elim (fun _ => some true) (fun _ => some false)) else some false

def b0l (A:Ar) (e g b:Int):(Int×Int×List D)->Option ((Int×Int×List D)⊕(Int×List D)):=fun (c,a,d) => bif (A.zlt a (A.zsub g b)) then (ck (A.zle 0 a)).bind fun _ => (ck (A.zlt a (A.zsub g b))).bind fun _ => (gc A (cL 6) d (A.nat (A.zadd (A.zadd e b) a))).bind fun i => (ck (A.zle 0 (A.wrp .i64 (A.zsub a 1)))).bind fun _ => (ck (A.zlt (A.wrp .i64 (A.zsub a 1)) (A.zsub g b))).bind fun _ => (gc A (cL 6) d (A.nat (A.zadd (A.zadd e b) (A.wrp .i64 (A.zsub a 1))))).bind fun j => (Z47 A i j).bind fun l => (( bif l then some (c,d) else (ck (A.zle 0 a)).bind fun _ => (ck (A.zlt a (A.zsub g b))).bind fun _ => (gc A (cL 6) d (A.nat (A.zadd (A.zadd e b) a))).bind fun k => (ck (A.zle 0 c)).bind fun _ => (ck (A.zlt c g)).bind fun _ => (A.lget d (A.nat (A.zadd e c))).bind fun o => some ((A.wrp .i64 (A.zadd c 1)),(A.lset d (A.nat (A.zadd e c)) (.list 6 k))):Option (Int×List D))).bind fun (m,n) => some (.inl (m,(A.wrp .i64 (A.zadd a 1)),n)) else some (.inr (c,d))

def b1Y (A:Ar) (d a:Int) (e:List D):Int->Option ((Int)⊕((Unit)⊕(Int×List D))):=fun b => bif (A.zlt b a) then (ck (A.zle 0 b)).bind fun _ => (ck (A.zlt b a)).bind fun _ => (gc A (cL 6) e (A.nat (A.zadd d b))).bind fun i => (ck (A.zle 0 (A.wrp .i64 (A.zsub b 1)))).bind fun _ => (ck (A.zlt (A.wrp .i64 (A.zsub b 1)) a)).bind fun _ => (gc A (cL 6) e (A.nat (A.zadd d (A.wrp .i64 (A.zsub b 1))))).bind fun j => (Z47 A i j).bind fun k => bif k then (ck (A.zle 0 b)).bind fun _ => (ck (A.zle b a)).bind fun _ => (ck (A.zle a a)).bind fun _ => (iter (b0l A d a b) (b,1,e)).bind (fun (c,g) => (ck (A.zle 0 c)).bind fun _ => (ck (A.zle c a)).bind fun _ => (ck (A.zle a a)).bind fun _ => (ck (A.zle (A.zadd (A.zadd d c) (A.zsub a c)) (A.len g))).bind fun _ => (ck (A.zle 0 0)).bind fun _ => (ck (A.zle 0 c)).bind fun _ => (ck (A.zle c a)).bind fun _ => some (.inr (.inr ((A.zsub c 0),(A.fill g (A.zadd d c) (A.zsub a c) (.list 6 [])))))) else some (.inl (A.wrp .i64 (A.zadd b 1))) else some (.inr (.inl ()))

/-- slices.CompactFunc     lineal api.Call   lineal api.Call  -/
def Z46 (A:Ar) (a b g i:Int) (c:List D):Option (Int×Int×List D) := bif (A.zlt b 2) then some (a,b,c) else (iter (b1Y A a b c) 1).bind (Sum.elim (fun _ => some (a,b,c)) (fun (d,e) => some ((A.zadd a 0),d,e)))

def b6W (A:Ar) (b:List D):Int->Option ((Int)⊕(Unit)):=fun a => bif (A.zlt a (A.len b)) then (gt A (cL 6) b a).bind fun c => (gt A (cL 6) b (A.wrp .i64 (A.zsub a 1))).bind fun d => (Z47 A c d).bind fun e => bif e then some (.inl (A.wrp .i64 (A.zadd a 1))) else none else some (.inr ())

def b6X (A:Ar) (a:List D):Int->Option ((Int)⊕(Unit)):=fun b => bif (A.zlt b (A.len a)) then (gt A (cL 6) a b).bind fun c => (gt A (cL 6) a (A.wrp .i64 (A.zsub b 1))).bind fun d => (Z47 A c d).bind fun g => bif g then (sl A a b (A.len a)).bind fun e => (iter (b6W A e) 1).bind (fun _ => (sl A a b (A.len a)).bind fun i => none) else some (.inl (A.wrp .i64 (A.zadd b 1))) else some (.inr ())

/-- slices.CompactFunc     lineal api.Call   lineal api.Call  -/
def c3e (A:Ar) (a:List D):Option (List D) := bif (A.zlt (A.len a) 2) then some a else (iter (b6X A a) 1).bind (fun _ => some a)

/-- lineal code.Histories -/
def Z12 (A:Ar) (c d:List D) (e:Int):Option (List D×Int) := (Z40 A c d).bind fun b => bif (A.zeq b 0) then (Z34 A e).bind fun p => bif p then (Z35 A c d).bind fun (i,j) => (c2L A i j 0 0 0 0 0 0 0 0 0 0 0 0 0 0 0 0 0 0 e [] [] [] [] []).bind fun (q,a) => bif (A.zlt 0 (A.len a)) then (ck (loose a)).bind fun _ => (b9V A 0 (A.len a) 0 (A.len a) a).bind fun k => (Z46 A 0 (A.len a) 0 (A.len a) k).bind fun (l,m,n) => (fz A n l m).bind fun g => some (g,0) else (Z42 A a).bind fun () => (c3e A a).bind fun o => some (o,0) else some ([],2) else some ([],b)

/-- lineal linealref02.For -/
def Z13 (A:Ar) (a d:List D):Option (Bool×Int) := (Z48 A a).bind fun b => bif b then (Z49 A a d).bind fun c => some (c,0) else some (false,10)

def b9q (A:Ar) (e g:Int) (i j c:List D):(Bool×Int)->Option ((Bool×Int)⊕((Bool)⊕(Unit))):=fun (d,a) => bif (A.zlt a (A.len c)) then (gt A (cL 6) c a).bind fun b => (Z13 A [(.agg [(.int .i64 e),(.int .i64 g),(.list 1 i),(.list 1 j)])] b).bind fun (k,l) => (Z14 A [(.agg [(.int .i64 e),(.int .i64 g),(.list 1 i),(.list 1 j)])] b).bind fun (m,n) => (( bif (A.zeq l 0) then bif (A.zeq n 0) then some (!k) else some true else some true:Option (Bool))).bind fun o => bif o then some (.inr (.inr ())) else (( bif d then some m else some false:Option (Bool))).bind fun p => some (.inl (p,(A.wrp .i64 (A.zadd a 1)))) else some (.inr (.inl d))

def b7Q (A:Ar) (c:List D) (q r s p:Int):(List D×Int)->Option ((List D×Int)⊕(List D)):=fun (b,a) => (( bif (A.zlt a (A.len c)) then some (A.zlt a 4) else some false:Option (Bool))).bind fun n => bif n then (( bif (A.zeq a 0) then (gt A (cL 4) c a).bind fun d => (nk (A.zeq (A.len d) 0)).bind fun _ => (ap A b [(.int .i64 (A.rem (A.wrp .i64 q) (A.len d)))]).bind fun j => some j else bif (A.zeq a 1) then (gt A (cL 4) c a).bind fun e => (nk (A.zeq (A.len e) 0)).bind fun _ => (ap A b [(.int .i64 (A.rem (A.wrp .i64 r) (A.len e)))]).bind fun k => some k else bif (A.zeq a 2) then (gt A (cL 4) c a).bind fun g => (nk (A.zeq (A.len g) 0)).bind fun _ => (ap A b [(.int .i64 (A.rem (A.wrp .i64 s) (A.len g)))]).bind fun l => some l else bif (A.zeq a 3) then (gt A (cL 4) c a).bind fun i => (nk (A.zeq (A.len i) 0)).bind fun _ => (ap A b [(.int .i64 (A.rem (A.wrp .i64 p) (A.len i)))]).bind fun m => some m else none:Option (List D))).bind fun o => some (.inl (o,(A.wrp .i64 (A.zadd a 1)))) else some (.inr b)

/-- lineal linealtop.TopCode -/
def Z3 (A:Ar) (c d:Int) (e g a b:List D) (R S U Q k:Int):Option (Bool) := (Z8 A c d e g a b).bind fun m => bif m then (nk (A.zeq 13 0)).bind fun _ => (Z10 A c d e g a b (A.rem (A.wrp .i64 k) 13)).bind fun (i,o) => (Z11 A c d e g a b (A.rem (A.wrp .i64 k) 13)).bind fun (z,j) => (Z12 A a b (A.rem (A.wrp .i64 k) 13)).bind fun (C,E) => (( bif (A.zeq o 0) then bif (A.zeq E 0) then bif (A.zeq j 0) then some (!(A.beq i (A.zeq j 5))) else bif (A.zeq j 5) then some (!(A.beq i (A.zeq j 5))) else some true else some true else some true:Option (Bool))).bind fun N => bif N then some false else (iter (b9q A c d e g C) (true,0)).bind (Sum.elim (fun O => bif (A.beq O i) then jn (fun (_:Unit) => (iter (b7Q A a R S U Q) ([],0)).bind (fun L => (Z16 A c d e g a b L).bind fun (p,q) => (Z17 A a b).bind fun (r,s) => (Z10 A c d e g a b 12).bind fun (u,v) => (( bif (A.zeq q 0) then bif (A.zeq s 0) then bif (A.zeq v 0) then bif p then bif r then bif u then (Z9 A).bind fun w => some w else some false else (Z9 A).bind fun y => some y else (Z9 A).bind fun B => some B else some false else some false else some false:Option (Bool))).bind fun M => some M)) fun l => bif i then l () else (Z15 A a b z).bind fun (F,G) => (Z14 A [(.agg [(.int .i64 c),(.int .i64 d),(.list 1 e),(.list 1 g)])] F).bind fun (J,K) => (( bif (A.zeq G 0) then bif (A.zeq K 0) then some J else some true else some true:Option (Bool))).bind fun P => bif P then some false else l () else some false) (fun _ => some false)) else (Z9 A).bind fun n => some n
end
end Go.Am
