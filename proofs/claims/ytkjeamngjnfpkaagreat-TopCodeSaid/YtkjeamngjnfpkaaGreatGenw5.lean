import Derived.Test.YtkjeamngjnfpkaaGreatGenw4
set_option maxRecDepth 100000
set_option maxHeartbeats 2000000
set_option linter.unusedVariables false
set_option linter.unusedSimpArgs false
namespace Go.Am
open Go Go.Proofs
theorem c5d {A:Ar} (hA:SA A) {g i:List D} {q:Bool} (h:Z49 A g i=some q):a0c Tryz.prog 49 [zl 4 g,zl 6 i] [] (.d (.bool q)) []:=by
 unfold Z49 at h;refine zI Tryz.func49 ?_;refine zs (zA (nT (zs (zs ?_))));obtain ⟨u,c,h⟩:=a0a h;refine zN [0,1,13] [] 0 (fun τ=>τ=⟨[(0,zl 4 g),(1,zl 6 i),(13,.d (.bool u))],[],45⟩) ?_ ?_
 ·refine zn ?_;obtain ⟨F,y,c⟩:=a0a c;refine zC (c3S hA y) ?_;rcases tf F with o | o
  ·replace c:=cT o c;obtain ⟨X,C,c⟩:=a0a c;refine zD (c5L hA C) ?_;refine zF ?_;cases soI c;exact zO
  replace c:=cF o c;refine zF ?_;cases soI c;exact zO
 rintro _ rfl;refine nT ?_;rcases tf u with k | k
 ·replace h:=cT k h;refine zT (zs ?_);refine zB (nT (zr (rT ?_)));cases soI h;exact zq
 replace h:=cF k h;refine zU (zk (nT (zs (zs ?_))));refine zB (nT (zb ?_));obtain ⟨Y,E,v,r,e⟩:=a0z h;refine zM 0 [] [] 0 (fun τ=>v (.inl ())=some q/\τ=⟨[],[],45⟩) ?_ ?_
 ·refine zP E [0,1,5] [] 0 (fun j=>⟨[(0,zl 4 g),(1,zl 6 i),(5,zi j)],[],45⟩) ⟨rfl,zv⟩ ?_;rintro j R a;dsimp only [b3d] at a;refine zs (zs (zA (nT ?_)));rcases tf (A.zlt j (A.len i)) with l | l
  ·replace a:=cT l a;refine zT (zk (nT (zs (zb (zs ?_)))));obtain ⟨s,b,a⟩:=a0a a;refine zN [0,1,5,44] [] 0 (fun τ=>τ=⟨[(0,zl 4 g),(1,zl 6 i),(5,zi j),(44,.d (.bool s))],[],45⟩) ?_ ?_
   ·obtain ⟨⟨G,w,J,K,L,M⟩,z,b⟩:=a0a b;obtain ⟨S,U⟩:=gtI z;rcases tf (A.zle (A.len g) w) with m | m
    ·replace b:=cT m b;refine zH ?_;cases soI b;exact zO
    replace b:=cF m b;obtain ⟨⟨N,O,P,Q⟩,B,b⟩:=a0a b;obtain ⟨V,W⟩:=gtI B;refine zH ?_;cases soI b;exact zO
   rintro _ rfl;refine nT ?_;rcases tf s with p | p
   ·replace a:=cT p a;refine zT (zs ?_);refine zB (nT (zr (rB (rT (rT ?_)))));refine exL a ?_;rintro rfl;refine oxR ?_;replace e:=(eR (r _ e));refine rB (rT ?_);cases soI e;exact zq
   replace a:=cF p a;refine zU (zk (nB (nT ?_)));refine zB ?_;exact nT ⟨_,(soI a).symm,rfl,zv⟩
  replace a:=cF l a;refine zU (AWp.exit (xT (xT ?_)));refine exL a ?_;rintro rfl;exact oxI ⟨rfl,e,zv⟩
 rintro _ ⟨e,rfl⟩;have h:=(eL (r _ e));refine xB (nT (zs (zA (nT (zr ?_)))));cases soI h;exact zq

theorem c5M {A:Ar} (hA:SA A) {e g:List D} {c:Int} (h:Z92 A e g=some c):a0c Tryz.prog 92 [zl 4 e,zl 6 g] [] (zi c) []:=by
 unfold Z92 at h;refine zI Tryz.func92 ?_;refine zs (zA (nT (zs (zs (zn ?_)))));obtain ⟨k,i,h⟩:=a0a h;refine zC (c3S hA i) ?_;refine zE (nT ?_);rcases tf k with a | a
 ·replace h:=cT a h;refine zU (zk (nT (zs (zs (zn ?_)))));obtain ⟨l,j,h⟩:=a0a h;refine zD (c5d hA j) ?_;refine zF (nT ?_);rcases tf l with b | b
  ·replace h:=cT b h;refine zU (zk (nT (zs ?_)));refine zB (nT (zr ?_));cases soI h;exact zq
  replace h:=cF b h;refine zT (zs ?_);refine zB (nT (zr (rT ?_)));cases soI h;exact zq
 replace h:=cF a h;refine zT (zs ?_);refine zB (nT (zr (rT ?_)));cases soI h;exact zq

theorem c0t {A:Ar} (hA:SA A) {g l:List D} {m:Bool} (h:b1U A g l=some m):a0c Tryz.prog 136 [zl 6 g,zl 1 l] [] (.d (.bool m)) []:=by
 unfold b1U at h;refine zI Tryz.func136 ?_;refine zs (zA (nT (zs (zs ?_))));refine zA (nT ?_);rcases tf (A.zlt (A.len g) (A.len l)) with s | s
 ·replace h:=cT s h;refine zT (zs ?_);refine zB (nT (zr (rT ?_)));cases soI h;exact zq
 replace h:=cF s h;refine zU (zk (nT (zs ?_)));obtain ⟨_,Y,h⟩:=a0a h;have f4:=ckI Y;obtain ⟨_,e8,h⟩:=a0a h;have f5:=ckI e8;obtain ⟨_,e9,h⟩:=a0a h;have f6:=ckI e9;refine zB (nT (zs (zs ?_)));refine zB (nT (zb ?_));obtain ⟨l1,b0,J,C,j⟩:=a0z h;refine zM 0 [0,5] [] 1 (fun τ => ∃ k,J (.inl k)=some m/\τ=⟨[(0,zl 6 g),(5,.mref 0 1 0 (A.len g))],[(.arr 1 k)],65⟩) ?_ ?_
 ·refine zP b0 [0,1,5,6] [] 1 (fun (o,z)=>⟨[(0,zl 6 g),(1,zl 1 l),(5,.mref 0 1 0 (A.len g)),(6,zi o)],[(.arr 1 z)],65⟩) ⟨rfl,zv⟩ ?_;rintro ⟨o,z⟩ r0 a;dsimp only [a6p] at a;refine zs (zs (zA (nT ?_)));rcases tf (A.zlt o (A.len l)) with u | u
  ·replace a:=cT u a;refine zT (zk (nT (zs (zb (zs (zs ?_))))));obtain ⟨F,b,a⟩:=a0a a;refine zN [0,1,5,6,39] [] 1 (fun τ=>τ=⟨[(0,zl 6 g),(1,zl 1 l),(5,.mref 0 1 0 (A.len g)),(6,zi o),(39,.d (.bool F))],[(.arr 1 z)],65⟩) ?_ ?_
   ·refine zn ?_;obtain ⟨e0,P,b⟩:=a0a b;obtain ⟨z0,a1⟩:=gtI P;obtain ⟨c0,Q,b⟩:=a0a b;refine zD (b7a hA Q) ?_;rcases tf c0 with v | v
    ·replace b:=cT v b;obtain ⟨_,R,b⟩:=a0a b;have b1:=ckI R;obtain ⟨_,S,b⟩:=a0a b;have c1:=ckI S;obtain ⟨g0,U,b⟩:=a0a b;have d1:=gcI U;refine zF ?_;cases soI b;exact zO
    replace b:=cF v b;refine zF ?_;cases soI b;exact zO
   rintro _ rfl;refine nT ?_;rcases tf F with w | w
   ·replace a:=cT w a;refine zT (zs ?_);refine zB (nT (zr (rT (rB (rT (rT ?_))))));refine exL a ?_;rintro rfl;refine oxR ?_;replace j:=(eR (C _ j));refine rB (rT ?_);cases soI j;exact zq
   replace a:=cF w a;refine zU (zk (nT ?_));obtain ⟨i0,V,a⟩:=a0a a;obtain ⟨e1,g1⟩:=gtI V;obtain ⟨_,W,a⟩:=a0a a;have i1:=ckI W;obtain ⟨_,X,a⟩:=a0a a;have j1:=ckI X;obtain ⟨o0,p0,a⟩:=a0a a;refine zB (nB (nT ?_));refine zB ?_;exact nT ⟨_,(soI a).symm,rfl,zv⟩
  replace a:=cF u a;refine zU (AWp.exit (xT (xT ?_)));refine exL a ?_;rintro rfl;exact oxI ⟨rfl,_,j,zv⟩
 rintro _ ⟨k,j,rfl⟩;have h:=(eL (C _ j));refine xB (nT (zs (zs (zA (nT (zb ?_))))));obtain ⟨k1,a0,G,B,i⟩:=a0z h;refine zM 2 [] [] 1 (fun τ=>G (.inl ())=some m/\τ=⟨[],[(.arr 1 k)],65⟩) ?_ ?_
 ·refine zP a0 [0,5,7] [] 1 (fun p=>⟨[(0,zl 6 g),(5,.mref 0 1 0 (A.len g)),(7,zi p)],[(.arr 1 k)],65⟩) ⟨rfl,zc⟩ ?_;rintro p q0 c;dsimp only [a6q] at c;refine zs (zs (zA (nT ?_)));rcases tf (A.zlt p (A.len g)) with y | y
  ·replace c:=cT y c;refine zT (zk (nT (zs (zb (zs ?_)))));obtain ⟨E,e,c⟩:=a0a c;refine zN [0,5,7,64] [] 1 (fun τ=>τ=⟨[(0,zl 6 g),(5,.mref 0 1 0 (A.len g)),(7,zi p),(64,.d (.bool E))],[(.arr 1 k)],65⟩) ?_ ?_
   ·obtain ⟨⟨j0,k0,l0,m0,n0,K⟩,L,e⟩:=a0a e;obtain ⟨s0,u0⟩:=gtI L;rcases tf (A.zeq K 0) with q | q
    ·replace e:=cT q e;refine zB ?_;cases soI e;exact zO
    replace e:=cF q e;obtain ⟨_,M,e⟩:=a0a e;have v0:=ckI M;obtain ⟨_,N,e⟩:=a0a e;have w0:=ckI N;obtain ⟨d0,O,e⟩:=a0a e;have y0:=gcI O;refine zB ?_;cases soI e;exact zO
   rintro _ rfl;refine nT ?_;rcases tf E with r | r
   ·replace c:=cT r c;refine zT (zs ?_);refine zB (nT (zr (rB (rT (rT ?_)))));refine exL c ?_;rintro rfl;refine oxR ?_;replace i:=(eR (B _ i));refine rB (rT ?_);cases soI i;exact zq
   replace c:=cF r c;refine zU (zk (nB (nT ?_)));refine zB ?_;exact nT ⟨_,(soI c).symm,rfl,zv⟩
  replace c:=cF y c;refine zU (AWp.exit (xT (xT ?_)));refine exL c ?_;rintro rfl;exact oxI ⟨rfl,i,zv⟩
 rintro _ ⟨i,rfl⟩;have h:=(eL (B _ i));refine xB (nT (zs (zA (nT (zr ?_)))));cases soI h;exact zq

theorem c0u {A:Ar} (hA:SA A) {c:List D} {e:Int} {j:Bool} (h:b0h A c e=some j):a0c Tryz.prog 137 [zl 1 c,zi e] [] (.d (.bool j)) []:=by
 unfold b0h at h;refine zI Tryz.func137 ?_;refine zs (zA (nT (zs (zs ?_))));refine zA (nT (zb ?_));obtain ⟨v,q,m,l,b⟩:=a0z h;refine zM 0 [] [] 0 (fun τ=>m (.inl ())=some j/\τ=⟨[],[],18⟩) ?_ ?_
 ·refine zP q [0,1,5] [] 0 (fun k=>⟨[(0,zl 1 c),(1,zi e),(5,zi k)],[],18⟩) ⟨rfl,zc⟩ ?_;rintro k r a;dsimp only [a6r] at a;refine zs (zs (zA (nT ?_)));rcases tf (A.zlt k (A.len c)) with g | g
  ·replace a:=cT g a;refine zT (zk (nT (zs (zb (zs ?_)))));obtain ⟨o,p,a⟩:=a0a a;obtain ⟨s,u⟩:=gtI p;refine zB (nT ?_);rcases tf (A.zeq o e) with i | i
   ·replace a:=cT i a;refine zT (zs ?_);refine zB (nT (zr (rB (rT (rT ?_)))));refine exL a ?_;rintro rfl;refine oxR ?_;replace b:=(eR (l _ b));refine rB (rT ?_);cases soI b;exact zq
   replace a:=cF i a;refine zU (zk (nB (nT ?_)));refine zB ?_;exact nT ⟨_,(soI a).symm,rfl,zv⟩
  replace a:=cF g a;refine zU (AWp.exit (xT (xT ?_)));refine exL a ?_;rintro rfl;exact oxI ⟨rfl,b,zv⟩
 rintro _ ⟨b,rfl⟩;have h:=(eL (l _ b));refine xB (nT (zs (zA (nT (zr ?_)))));cases soI h;exact zq

theorem c0v {A:Ar} (hA:SA A) {e j g:List D} {p:Bool} (h:b0i A e j g=some p):a0c Tryz.prog 138 [zl 4 e,zl 6 j,zl 1 g] [] (.d (.bool p)) []:=by
 unfold b0i at h;refine zI Tryz.func138 ?_;refine zs (zA (nT (zs ?_)));obtain ⟨_,V,h⟩:=a0a h;have f4:=ckI V;obtain ⟨_,X,h⟩:=a0a h;have f5:=ckI X;obtain ⟨_,e9,h⟩:=a0a h;have f6:=ckI e9;refine zB (nT (zs (zs ?_)));refine zA (nT (zb ?_));obtain ⟨q1,d0,v,s,c⟩:=a0z h;refine zM 0 [] [] 1 (fun τ => ∃ o,v (.inl o)=some p/\τ=⟨[],[(.arr 1 o)],70⟩) ?_ ?_
 ·refine zP d0 [0,1,2,7,8] [] 1 (fun (i,q)=>⟨[(0,zl 4 e),(1,zl 6 j),(2,zl 1 g),(7,.mref 0 1 0 (A.len e)),(8,zi i)],[(.arr 1 q)],70⟩) ⟨rfl,zc⟩ ?_;rintro ⟨i,q⟩ p0 a;dsimp only [a5l] at a;refine zs (zs (zA (nT ?_)));rcases tf (A.zlt i (A.len g)) with l | l
  ·replace a:=cT l a;refine zT (zk (nT (zs (zb (zs ?_)))));obtain ⟨l0,W,a⟩:=a0a a;obtain ⟨i1,j1⟩:=gtI W;obtain ⟨⟨w,y,z,B,C,r⟩,Y,a⟩:=a0a a;obtain ⟨k1,l1⟩:=gtI Y;refine zB (nT (zs ?_)) { tk:=[26] };obtain ⟨⟨E,F,G,J⟩,a0,a⟩:=a0a a;obtain ⟨m1,n1⟩:=gtI a0;refine zB (nT (zs (zs ?_))) { tk:=[31] };obtain ⟨u,b,a⟩:=a0a a;refine zN [0,1,2,7,8,9,10,52] [] 1 (fun τ=>τ=⟨[(0,zl 4 e),(1,zl 6 j),(2,zl 1 g),(7,.mref 0 1 0 (A.len e)),(8,zi i),(9,(.lbox [zi w,zi y,zi z,zi B,zi C,zi r])),(10,(.lbox [zi E,zi F,zl 1 G,zl 1 J])),(52,.d (.bool u))],[(.arr 1 q)],70⟩) ?_ ?_
   ·rcases tf (A.zeq r 0) with m | m
    ·replace b:=cT m b;refine zH ?_;cases soI b;exact zO
    replace b:=cF m b;obtain ⟨_,b0,b⟩:=a0a b;have o1:=ckI b0;obtain ⟨_,c0,b⟩:=a0a b;have p1:=ckI c0;obtain ⟨m0,K,b⟩:=a0a b;have q0:=gcI K;obtain ⟨e0,L,b⟩:=a0a b;obtain ⟨r0,s0⟩:=gtI L;obtain ⟨g0,M,b⟩:=a0a b;obtain ⟨u0,v0⟩:=gtI M;refine zH ?_;cases soI b;exact zO
   rintro _ rfl;refine nT ?_;rcases tf u with k | k
   ·replace a:=cT k a;refine zT (zs ?_);refine zB (nT (zr (rT (rB (rT (rT ?_))))));refine exL a ?_;rintro rfl;refine oxR ?_;replace c:=(eR (s _ c));refine rB (rT ?_);cases soI c;exact zq
   replace a:=cF k a;refine zU (zk (nT ?_));obtain ⟨_,N,a⟩:=a0a a;have w0:=ckI N;obtain ⟨_,O,a⟩:=a0a a;have y0:=ckI O;obtain ⟨i0,P,a⟩:=a0a a;have z0:=gcI P;obtain ⟨j0,Q,a⟩:=a0a a;obtain ⟨a1,b1⟩:=gtI Q;obtain ⟨k0,R,a⟩:=a0a a;obtain ⟨c1,d1⟩:=gtI R;obtain ⟨_,S,a⟩:=a0a a;have e1:=ckI S;obtain ⟨_,U,a⟩:=a0a a;have g1:=ckI U;obtain ⟨n0,o0,a⟩:=a0a a;refine zH ?_ { tk:=[68] };refine nB (nT (zB ?_));exact nT ⟨_,(soI a).symm,rfl,zv⟩
  replace a:=cF l a;refine zU (AWp.exit (xT (xT ?_)));refine exL a ?_;rintro rfl;exact oxI ⟨rfl,_,c,zv⟩
 rintro _ ⟨o,c,rfl⟩;have h:=(eL (s _ c));refine xB (nT (zs (zA (nT (zr ?_)))));cases soI h;exact zq

theorem c0w {A:Ar} (hA:SA A) {k g:List D} {r:Bool} (h:b1V A k g=some r):a0c Tryz.prog 139 [zl 6 k,zl 1 g] [] (.d (.bool r)) []:=by
 unfold b1V at h;refine zI Tryz.func139 ?_;refine zs (zA (nT (zs (zs ?_))));refine zA (nT (zb ?_));obtain ⟨m0,L,y,u,j⟩:=a0z h;refine zM 0 [] [] 0 (fun τ=>y (.inl ())=some r/\τ=⟨[],[],54⟩) ?_ ?_
 ·refine zP L [0,1,5] [] 0 (fun e=>⟨[(0,zl 6 k),(1,zl 1 g),(5,zi e)],[],54⟩) ⟨rfl,zc⟩ ?_;rintro e J c;dsimp only [b3f] at c;refine zs (zs (zA (nT ?_)));rcases tf (A.zlt e (A.len g)) with p | p
  ·replace c:=cT p c;refine zT (zk (nT (zs (zb (zs ?_)))));refine zB (nT (zb ?_));obtain ⟨l0,K,w,s,i⟩:=a0z c;refine zM 2 [0,1,5] [] 0 (fun τ=>w (.inl ())=some J/\τ=⟨[(0,zl 6 k),(1,zl 1 g),(5,zi e)],[],54⟩) ?_ ?_
   ·refine zP K [0,1,5,6] [] 0 (fun l=>⟨[(0,zl 6 k),(1,zl 1 g),(5,zi e),(6,zi l)],[],54⟩) ⟨rfl,zv⟩ ?_;rintro l a0 a;dsimp only [b3e] at a;refine zs (zs (zA (nT ?_)));rcases tf (A.zlt l e) with m | m
    ·replace a:=cT m a;refine zT (zk (nT (zs (zb (zs ?_)))));obtain ⟨v,b,a⟩:=a0a a;refine zN [0,1,5,6,53] [] 0 (fun τ=>τ=⟨[(0,zl 6 k),(1,zl 1 g),(5,zi e),(6,zi l),(53,.d (.bool v))],[],54⟩) ?_ ?_
     ·obtain ⟨M,C,b⟩:=a0a b;obtain ⟨b0,c0⟩:=gtI C;obtain ⟨⟨z,N,O,P,Q,R⟩,E,b⟩:=a0a b;obtain ⟨d0,e0⟩:=gtI E;obtain ⟨S,F,b⟩:=a0a b;obtain ⟨g0,i0⟩:=gtI F;obtain ⟨⟨B,U,V,W,X,Y⟩,G,b⟩:=a0a b;obtain ⟨j0,k0⟩:=gtI G;rcases tf (A.zeq z B) with o | o
      ·replace b:=cT o b;refine zH ?_;cases soI b;exact zO
      replace b:=cF o b;refine zH ?_;cases soI b;exact zO
     rintro _ rfl;refine nT ?_;rcases tf v with q | q
     ·replace a:=cT q a;refine zT (zs ?_);refine zB (nT (zr (rB (rT (rT ?_)))));refine exL a ?_;rintro rfl;refine oxR ?_;replace i:=(eR (s _ i));refine rB (rB (rT (rT ?_)));refine exL i ?_;rintro rfl;refine oxR ?_;replace j:=(eR (u _ j));refine rB (rT ?_);cases soI j;exact zq
     replace a:=cF q a;refine zU (zk (nB (nT ?_)));refine zB ?_;exact nT ⟨_,(soI a).symm,rfl,zv⟩
    replace a:=cF m a;refine zU (AWp.exit (xT (xT ?_)));refine exL a ?_;rintro rfl;exact oxI ⟨rfl,i,zv⟩
   rintro _ ⟨i,rfl⟩;have c:=(eL (s _ i));refine xB (nB (nT (zA ?_)));exact nT ⟨_,(soI c).symm,rfl,zc⟩
  replace c:=cF p c;refine zU (AWp.exit (xT (xT ?_)));refine exL c ?_;rintro rfl;exact oxI ⟨rfl,j,zv⟩
 rintro _ ⟨j,rfl⟩;have h:=(eL (u _ j));refine xB (nT (zs (zA (nT (zr ?_)))));cases soI h;exact zq

theorem c0x {A:Ar} (hA:SA A) {j i:List D} {p:Bool} (h:a8Y A j i=some p):a0c Tryz.prog 140 [zl 6 j,zl 1 i] [] (.d (.bool p)) []:=by
 unfold a8Y at h;refine zI Tryz.func140 ?_;refine zs (zA (nT (zs (zs ?_))));refine zA (nT (zb ?_));obtain ⟨m0,F,u,r,e⟩:=a0z h;refine zM 0 [] [] 0 (fun τ=>u (.inl ())=some p/\τ=⟨[],[],33⟩) ?_ ?_
 ·refine zP F [0,1,5] [] 0 (fun g=>⟨[(0,zl 6 j),(1,zl 1 i),(5,zi g)],[],33⟩) ⟨rfl,zc⟩ ?_;rintro g C b;dsimp only [a6t] at b;refine zs (zs (zA (nT ?_)));rcases tf (A.zlt g (A.len i)) with m | m
  ·replace b:=cT m b;refine zT (zk (nT (zs (zb (zs ?_)))));refine zB (nT (zb ?_));obtain ⟨l0,E,s,q,c⟩:=a0z b;refine zM 2 [0,1,5] [] 0 (fun τ=>s (.inl ())=some C/\τ=⟨[(0,zl 6 j),(1,zl 1 i),(5,zi g)],[],33⟩) ?_ ?_
   ·refine zP E [0,1,5,6] [] 0 (fun o=>⟨[(0,zl 6 j),(1,zl 1 i),(5,zi g),(6,zi o)],[],33⟩) ⟨rfl,zv⟩ ?_;rintro o Y a;dsimp only [a6s] at a;refine zs (zs (zA (nT ?_)));rcases tf (A.zlt o g) with k | k
    ·replace a:=cT k a;refine zT (zk (nT (zs (zb (zs ?_)))));refine zQ ?_;obtain ⟨J,v,a⟩:=a0a a;obtain ⟨a0,b0⟩:=gtI v;obtain ⟨⟨K,L,M,N,O,P⟩,w,a⟩:=a0a a;obtain ⟨d0,e0⟩:=gtI w;obtain ⟨Q,y,a⟩:=a0a a;obtain ⟨g0,i0⟩:=gtI y;obtain ⟨⟨R,S,U,V,W,X⟩,z,a⟩:=a0a a;obtain ⟨j0,k0⟩:=gtI z;obtain ⟨G,B,a⟩:=a0a a;refine a1h.c0 hT hA {} rfl zu (b7T hA B) rfl rfl (lb rfl) rfl rfl ?_;refine zJ ?_;refine nT ?_;rcases tf G with l | l
     ·replace a:=cT l a;refine zT (zs ?_);refine zB (nT (zr (rB (rT (rT ?_)))));refine exL a ?_;rintro rfl;refine oxR ?_;replace c:=(eR (q _ c));refine rB (rB (rT (rT ?_)));refine exL c ?_;rintro rfl;refine oxR ?_;replace e:=(eR (r _ e));refine rB (rT ?_);cases soI e;exact zq
     replace a:=cF l a;refine zU (zk (nB (nT ?_)));refine zB ?_;exact nT ⟨_,(soI a).symm,rfl,zv⟩
    replace a:=cF k a;refine zU (AWp.exit (xT (xT ?_)));refine exL a ?_;rintro rfl;exact oxI ⟨rfl,c,zv⟩
   rintro _ ⟨c,rfl⟩;have b:=(eL (q _ c));refine xB (nB (nT (zA ?_)));exact nT ⟨_,(soI b).symm,rfl,zc⟩
  replace b:=cF m b;refine zU (AWp.exit (xT (xT ?_)));refine exL b ?_;rintro rfl;exact oxI ⟨rfl,e,zv⟩
 rintro _ ⟨e,rfl⟩;have h:=(eL (r _ e));refine xB (nT (zs (zA (nT (zr ?_)))));cases soI h;exact zq

theorem c4g {A:Ar} (hA:SA A) {self113:List D->Bool->List D->List D->Bool->Int->List D->(Option (Bool×Int×List D))} (o0 : ∀ {i:List D} {m:Bool} {e c:List D} {o:Bool} {p:Int} {r:List D} {X:Bool} {Y:Int} {y3:List D},self113 i m e c o p r=some (X,Y,y3)->a0c Tryz.prog 93 [.ptr 0 0,zl 1 i,.d (.bool m)] [(.cells [zl 4 e,zl 6 c,.d (.bool o),zi p,zl 1 r])] (.tuple []) [(.cells [zl 4 e,zl 6 c,.d (.bool X),zi Y,zl 1 y3])]) {i:List D} {m:Bool} {e c:List D} {o:Bool} {p:Int} {r:List D} {P:Bool} {Q:Int} {R:List D} (h:b9P A self113 i m e c o p r=some (P,Q,R)):a0c Tryz.prog 93 [.ptr 0 0,zl 1 i,.d (.bool m)] [(.cells [zl 4 e,zl 6 c,.d (.bool o),zi p,zl 1 r])] (.tuple []) [(.cells [zl 4 e,zl 6 c,.d (.bool P),zi Q,zl 1 R])]:=by
 unfold b9P at h;refine zI Tryz.func93 ?_;refine zs (zs (zn ?_));obtain ⟨r9,e8,h⟩:=a0a h;refine zC (c0t hA e8) ?_;refine zE (nT ?_);obtain ⟨⟨w0,y0⟩,l,h⟩:=a0a h;refine zN [0,1,2] [] 1 (fun τ=>τ=⟨[(0,.ptr 0 0),(1,zl 1 i),(2,.d (.bool m))],[(.cells [zl 4 e,zl 6 c,.d (.bool o),zi w0,zl 1 y0])],107⟩) ?_ ?_
 ·rcases tf r9 with w | w
  ·replace l:=cT w l;refine zT (zs (zs ?_));refine zB (nT ?_);obtain ⟨v0,k,l⟩:=a0a l;refine zN [0,1,2] [] 1 (fun τ=>τ=⟨[(0,.ptr 0 0),(1,zl 1 i),(2,.d (.bool m))],[(.cells [zl 4 e,zl 6 c,.d (.bool o),zi p,zl 1 v0])],107⟩) ?_ ?_
   ·rcases tf (A.zeq p 0) with y | y
    ·replace k:=cT y k;refine zT ?_;obtain ⟨l1,b0,k⟩:=a0a k;obtain ⟨d1,e1⟩:=apI b0;refine zB ?_;cases soI k;exact zO
    replace k:=cF y k;refine zU (zk ?_);cases soI k;exact zO
   rintro _ rfl;refine nT (zA ?_);cases soI l;exact zO
  replace l:=cF w l;refine zU (zk ?_);cases soI l;exact zO
 rintro _ rfl;refine nT (zs (zA (nT (zb ?_))));obtain ⟨r1,n0,a0,m0,L⟩:=a0z h;refine zM 0 [] [] 1 (fun τ => ∃ M N O,a0 (M,N,O)=some (P,Q,R)/\τ=⟨[],[(.cells [zl 4 e,zl 6 c,.d (.bool M),zi N,zl 1 O])],107⟩) ?_ ?_
 ·refine zP n0 [0,1,2,6] [] 1 (fun (S,q,s,u,v)=>⟨[(0,.ptr 0 0),(1,zl 1 i),(2,.d (.bool S)),(6,zi q)],[(.cells [zl 4 e,zl 6 c,.d (.bool s),zi u,zl 1 v])],107⟩) ⟨rfl,zc⟩ ?_;rintro ⟨S,q,s,u,v⟩ c1 b;dsimp only [b1W] at b;refine zs (zs ?_);obtain ⟨⟨U,V⟩,g,b⟩:=a0a b;refine zN [0,1,2,6,49] [] 1 (fun τ=>τ=⟨[(0,.ptr 0 0),(1,zl 1 i),(2,.d (.bool U)),(6,zi q),(49,.d (.bool V))],[(.cells [zl 4 e,zl 6 c,.d (.bool s),zi u,zl 1 v])],107⟩) ?_ ?_
  ·rcases tf (A.zlt q (A.len c)) with z | z
   ·replace g:=cT z g;rcases tf S with B | B
    ·replace g:=cT B g;refine zB ?_;cases soI g;exact zO
    replace g:=cF B g;refine zB ?_;cases soI g;exact zO
   replace g:=cF z g;refine zB ?_;cases soI g;exact zO
  rintro _ rfl;refine nT ?_;rcases tf V with C | C
  ·replace b:=cT C b;refine zT (zk (nT (zs (zb (zs ?_)))));obtain ⟨m1,d0,b⟩:=a0a b;obtain ⟨g1,i1⟩:=apI d0;obtain ⟨p0,e0,b⟩:=a0a b;obtain ⟨j1,k1⟩:=apI e0;refine zB (nT (zs ?_));obtain ⟨⟨W,z0⟩,a,b⟩:=a0a b;refine zN [0,1,2,6,7,102] [] 1 (fun τ=>τ=⟨[(0,.ptr 0 0),(1,zl 1 i),(2,.d (.bool U)),(6,zi q),(7,zl 1 p0),(102,.d (.bool W))],[(.cells [zl 4 e,zl 6 c,.d (.bool z0),zi u,zl 1 v])],107⟩) ?_ ?_
   ·refine zQ ?_;obtain ⟨q0,g0,a⟩:=a0a a;refine a1h.c0 hT hA {} rfl zu (c0u hA g0) rfl rfl (lb rfl) rfl rfl ?_;rcases tf q0 with E | E
    ·replace a:=cT E a;refine zJ ?_;cases soI a;exact zO
    replace a:=cF E a;obtain ⟨r0,i0,a⟩:=a0a a;refine a1h.c0 hT hA {} rfl zu (c0v hA i0) rfl rfl (lb rfl) rfl rfl ?_;rcases tf r0 with F | F
    ·replace a:=cT F a;rcases tf s with G | G
     ·replace a:=cT G a;obtain ⟨s0,j0,a⟩:=a0a a;refine a1h.c0 hT hA {} rfl zu (c0w hA j0) rfl rfl (lb rfl) rfl rfl ?_;rcases tf s0 with J | J
      ·replace a:=cT J a;refine zJ ?_;cases soI a;exact zO
      replace a:=cF J a;refine zJ ?_;cases soI a;exact zO
     replace a:=cF G a;obtain ⟨n1,k0,a⟩:=a0a a;refine a1h.c0 hT hA {} rfl zu (c0x hA k0) rfl rfl (lb rfl) rfl rfl ?_;refine zJ ?_;cases soI a;exact zO
    replace a:=cF F a;refine zJ ?_;cases soI a;exact zO
   rintro _ rfl;refine nT ?_;obtain ⟨⟨a1,b1,u0⟩,j,b⟩:=a0a b;refine zN [0,1,2,6] [] 1 (fun τ=>τ=⟨[(0,.ptr 0 0),(1,zl 1 i),(2,.d (.bool U)),(6,zi q)],[(.cells [zl 4 e,zl 6 c,.d (.bool a1),zi b1,zl 1 u0])],107⟩) ?_ ?_
   ·rcases tf W with K | K
    ·replace j:=cT K j;refine zT (zn ?_);obtain ⟨⟨o1,p1,q1⟩,l0,j⟩:=a0a j;refine zD (o0 l0) ?_;refine zF ?_;cases soI j;exact zO
    replace j:=cF K j;refine zU (zk ?_);cases soI j;exact zO
   rintro _ rfl;refine nB (nT (zA ?_));exact nT ⟨_,(soI b).symm,rfl,zc⟩
  replace b:=cF C b;refine zU (AWp.exit (xT (xT ?_)));refine exL b ?_;rintro rfl;exact oxI ⟨rfl,_,_,_,L,zv⟩
 rintro _ ⟨M,N,O,L,rfl⟩;have h:=(m0 _ L);refine xB ?_;cases soI h;exact zq

theorem c0y {A:Ar} (hA:SA A) : ∀ (n:Nat) {i:List D} {j:Bool} {a b:List D} {k:Bool} {l:Int} {m:List D} {c:Bool} {e:Int} {g:List D},b5i A n i j a b k l m=some (c,e,g)->a0c Tryz.prog 93 [.ptr 0 0,zl 1 i,.d (.bool j)] [(.cells [zl 4 a,zl 6 b,.d (.bool k),zi l,zl 1 m])] (.tuple []) [(.cells [zl 4 a,zl 6 b,.d (.bool c),zi e,zl 1 g])]
 | 0,_,_,_,_,_,_,_,_,_,_,h=>by cases h
 | n+1,_,_,_,_,_,_,_,_,_,_,h=>c4g hA (fun h=>c0y hA n h) h

theorem c5N {A:Ar} (hA:SA A) {i:List D} {j:Bool} {a b:List D} {k:Bool} {l:Int} {m:List D} {c:Bool} {e:Int} {g:List D} (h:Z93 A i j a b k l m=some (c,e,g)):a0c Tryz.prog 93 [.ptr 0 0,zl 1 i,.d (.bool j)] [(.cells [zl 4 a,zl 6 b,.d (.bool k),zi l,zl 1 m])] (.tuple []) [(.cells [zl 4 a,zl 6 b,.d (.bool c),zi e,zl 1 g])]:=c0y hA fuel h

theorem c5O {A:Ar} (hA:SA A) {g i c:List D} {e:Int} (h:Z50 A g i=some (c,e)):a0c Tryz.prog 50 [zl 4 g,zl 6 i] [] (.tuple [zl 1 c,zi e]) []:=by
 unfold Z50 at h;refine zI Tryz.func50 ?_;refine zs (zA (nT (zs (zn ?_))));obtain ⟨l,j,h⟩:=a0a h;refine zC (c5M hA j) ?_;refine zE (nT (zs (zs ?_)));refine zA (nT ?_);rcases tf (A.zeq l 0) with b | b
 ·replace h:=cT b h;refine zU (zk (nT (zs ?_)));refine zB (nT (zs (zn ?_))) { esc:=[17] };obtain ⟨⟨n,m,o⟩,k,h⟩:=a0a h;refine zD (c5N hA k) ?_;refine zF (nT (zs (zs ?_)));refine zB (nT ?_);rcases tf (A.zeq m 0) with a | a
  ·replace h:=cT a h;refine zT (zs ?_);refine zB (nT (zr (rT ?_)));cases soI h;exact zq
  replace h:=cF a h;refine zU (zk (nT (zs ?_)));refine zB (nT (zr ?_));cases soI h;exact zq
 replace h:=cF b h;refine zT (zs ?_);refine zB (nT (zr (rT ?_)));cases soI h;exact zq

theorem c5e {A:Ar} (hA:SA A) {e g:List D} {b:Bool} {c:Int} (h:Z14 A e g=some (b,c)):a0c Tryz.prog 14 [zl 4 e,zl 6 g] [] (.tuple [.d (.bool b),zi c]) []:=by
 unfold Z14 at h;refine zI Tryz.func14 ?_;refine zs (zA (nT (zs (zn ?_))));obtain ⟨⟨k,j⟩,i,h⟩:=a0a h;refine zC (c5O hA i) ?_;refine zE (nT (zs (zs ?_)));refine zA (nT ?_);rcases tf (A.zeq j 5) with a | a
 ·replace h:=cT a h;refine zT (zs ?_);refine zB (nT (zr (rT ?_)));cases soI h;exact zq
 replace h:=cF a h;refine zU (zk (nT (zs ?_)));refine zB (nT (zr ?_));cases soI h;exact zq

theorem c4h {A:Ar} (hA:SA A) {i:Int} {v C:List D} {E F G J K L j k l m o p q r s u w y:Int} {z B:List D} {S:Bool} (h:c2E A i v C E F G J K L j k l m o p q r s u w y z B=some S):a0c Tryz.prog 94 [.ptr 0 0,zi i] [.cells [zl 1 v,zl 1 C,zi E,zi F,zi G,zi J,zi K,zi L,zi j,zi k,zi l,zi m,zi o,zi p,zi q,zi r,zi s,zi u,zi w,zi y,zl 6 z,zl 1 B]] (.d (.bool S)) [.cells [zl 1 v,zl 1 C,zi E,zi F,zi G,zi J,zi K,zi L,zi j,zi k,zi l,zi m,zi o,zi p,zi q,zi r,zi s,zi u,zi w,zi y,zl 6 z,zl 1 B]]:=by
 unfold c2E at h;refine zI Tryz.func94 ?_;refine zs (zA (nT (zs ?_)));obtain ⟨i0,a,h⟩:=a0a h;refine zN [4] [] 1 (fun τ=>τ=⟨[(4,.d (.bool i0))],[.cells [zl 1 v,zl 1 C,zi E,zi F,zi G,zi J,zi K,zi L,zi j,zi k,zi l,zi m,zi o,zi p,zi q,zi r,zi s,zi u,zi w,zi y,zl 6 z,zl 1 B]],31⟩) ?_ ?_
 ·refine zQ ?_;obtain ⟨g0,U,a⟩:=a0a a;refine a1h.c0 hT hA { tk:=[30] } rfl zc (b1Z hA U) rfl rfl (lb rfl) rfl rfl ?_;rcases tf g0 with b | b
  ·replace a:=cT b a;rcases tf (A.zeq i 0) with c | c
   ·replace a:=cT c a;obtain ⟨X,Y,M⟩:=ixF hA (n:=2) c (by decide);obtain ⟨j0,V,a⟩:=a0a a;obtain ⟨a0,N⟩:=gtI V;have O:=N;rw [M] at O;refine zJ ?_ { tk:=[30] } (h:=(by (repeat (cbv;simp only [b,X,Y,M,O,a0,N]));try cbv))
    cases soI a;exact (zO (g:=(by first | (cbv;done) | ((repeat (cbv;simp only [b]));try cbv))))
   replace a:=cF c a;rcases tf (A.zeq i 1) with e | e
   ·replace a:=cT e a;obtain ⟨b0,d0,P⟩:=ixF hA (n:=2) e (by decide);obtain ⟨k0,W,a⟩:=a0a a;obtain ⟨e0,Q⟩:=gtI W;have R:=Q;rw [P] at R;refine zJ ?_ { tk:=[30] } (h:=(by (repeat (cbv;simp only [b,b0,d0,P,R,e0,Q]));try cbv))
    cases soI a;exact (zO (g:=(by first | (cbv;done) | ((repeat (cbv;simp only [b]));try cbv))))
   replace a:=cF e a;cases a
  replace a:=cF b a;refine zJ ?_ { tk:=[30] } (h:=(by (repeat (cbv;simp only [b]));try cbv))
  cases soI a;exact (zO (g:=(by first | (cbv;done) | ((repeat (cbv;simp only [b]));try cbv))))
 rintro _ rfl;refine nT (zr ?_);cases soI h;exact zq

theorem a9a {A:Ar} (hA:SA A) {e b:List D} {w y z B C E F g i j k l m o p q r s:Int} {u v N:List D} (h:b1X A e b w y z B C E F g i j k l m o p q r s u v=some N):a0c Tryz.prog 55 [.ptr 0 0] [.cells [zl 1 e,zl 1 b,zi w,zi y,zi z,zi B,zi C,zi E,zi F,zi g,zi i,zi j,zi k,zi l,zi m,zi o,zi p,zi q,zi r,zi s,zl 6 u,zl 1 v]] (.own 1 N) [.cells [zl 1 e,zl 1 b,zi w,zi y,zi z,zi B,zi C,zi E,zi F,zi g,zi i,zi j,zi k,zi l,zi m,zi o,zi p,zi q,zi r,zi s,zl 6 u,zl 1 v]]:=by
 unfold b1X at h;refine zI Tryz.func55 ?_;refine zs (zA (nT (zs ?_)));refine zA (nT (zs (zs ?_)));refine zA (nT (zb ?_));obtain ⟨c0,U,P,S,L⟩:=a0z h;refine zM 0 [3] [] 1 (fun τ => ∃ M,P M=some N/\τ=⟨[(3,(.own 1 M))],[.cells [zl 1 e,zl 1 b,zi w,zi y,zi z,zi B,zi C,zi E,zi F,zi g,zi i,zi j,zi k,zi l,zi m,zi o,zi p,zi q,zi r,zi s,zl 6 u,zl 1 v]],22⟩) ?_ ?_
 ·refine zP U [0,3,9,10] [] 1 (fun (O,G)=>⟨[(0,.ptr 0 0),(3,(.own 1 O)),(9,(.d (.int .i64 (A.len b)))),(10,zi G)],[.cells [zl 1 e,zl 1 b,zi w,zi y,zi z,zi B,zi C,zi E,zi F,zi g,zi i,zi j,zi k,zi l,zi m,zi o,zi p,zi q,zi r,zi s,zl 6 u,zl 1 v]],22⟩) ⟨rfl,zc⟩ ?_;rintro ⟨O,G⟩ X a;dsimp only [b0Z] at a;refine zs (zA (nT (zs ?_)));rcases tf (A.zlt G (A.len b)) with J | J
  ·replace a:=cT J a;refine zT (zk (nT (zs (zb (zs ?_)))));refine zB (nT (zs (zn ?_)));obtain ⟨V,Q,a⟩:=a0a a;refine zD (c4h hA Q) ?_;refine zF (nT ?_);obtain ⟨W,c,a⟩:=a0a a;refine zN [0,3,9,10] [] 1 (fun τ=>τ=⟨[(0,.ptr 0 0),(3,(.own 1 W)),(9,(.d (.int .i64 (A.len b)))),(10,zi G)],[.cells [zl 1 e,zl 1 b,zi w,zi y,zi z,zi B,zi C,zi E,zi F,zi g,zi i,zi j,zi k,zi l,zi m,zi o,zi p,zi q,zi r,zi s,zl 6 u,zl 1 v]],22⟩) ?_ ?_
   ·rcases tf V with K | K
    ·replace c:=cT K c;refine zT ?_;obtain ⟨b0,R,c⟩:=a0a c;obtain ⟨Y,a0⟩:=apI R;refine zB ?_ { tk:=[3,19] };cases soI c;exact zO
    replace c:=cF K c;refine zU (zk ?_);cases soI c;exact zO
   rintro _ rfl;refine nB (nT (zA ?_));exact nT ⟨_,(soI a).symm,rfl,zc⟩
  replace a:=cF J a;refine zU (AWp.exit (xT (xT ?_)));refine exL a ?_;rintro rfl;exact oxI ⟨rfl,_,L,zv⟩
 rintro _ ⟨M,L,rfl⟩;have h:=(S _ L);refine xB (nT (zs (zA (nT (zr ?_)) { tk:=[3,21] })));cases soI h;exact zq

theorem c4i {A:Ar} (hA:SA A) {c e:List D} (h:b9T A c=some e):a0c Tryz.prog 117 [zl 6 c] [] (.own 6 e) []:=by
 unfold b9T at h;refine zI Tryz.func117 ?_;refine zs (zA (nT (zs (zs ?_))));rcases tf (A.zlt 0 (A.len c)) with a | a
 ·replace h:=cT a h;refine zB (nT ?_);refine AWp.cond (b:=false) (by cbv;simp only [a]) ?_;rw [if_neg Bool.false_ne_true];refine zk (nT (zs ?_));obtain ⟨p,g,h⟩:=a0a h;obtain ⟨n,o⟩:=apI g;refine zB (nT (zr ?_)) { tk:=[7] };cases soI h;exact zq
 replace h:=cF a h;refine zB (nT ?_);obtain ⟨j,k⟩:=c0N h;refine AWp.condAny (by cbv;simp only [a]) ?_ ?_
 ·replace h:=j;refine zs (zB (nT (zr (rT ?_))));cases soI h;exact zq
 replace h:=k;refine zk (nT (zs ?_));obtain ⟨q,i,h⟩:=a0a h;obtain ⟨l,m⟩:=apI i;refine zB (nT (zr ?_)) { tk:=[7] };cases soI h;exact zq

theorem c5f {A:Ar} (hA:SA A) {c e:List D} (h:Z39 A c=some e):a0c Tryz.prog 39 [zl 1 c] [] (.own 1 e) []:=by
 unfold Z39 at h;refine zI Tryz.func39 ?_;refine zs (zA (nT (zs (zs ?_))));rcases tf (A.zlt 0 (A.len c)) with a | a
 ·replace h:=cT a h;refine zB (nT ?_);refine AWp.cond (b:=false) (by cbv;simp only [a]) ?_;rw [if_neg Bool.false_ne_true];refine zk (nT (zs ?_));obtain ⟨p,g,h⟩:=a0a h;obtain ⟨n,o⟩:=apI g;refine zB (nT (zr ?_)) { tk:=[7] };cases soI h;exact zq
 replace h:=cF a h;refine zB (nT ?_);obtain ⟨j,k⟩:=c0N h;refine AWp.condAny (by cbv;simp only [a]) ?_ ?_
 ·replace h:=j;refine zs (zB (nT (zr (rT ?_))));cases soI h;exact zq
 replace h:=k;refine zk (nT (zs ?_));obtain ⟨q,i,h⟩:=a0a h;obtain ⟨l,m⟩:=apI i;refine zB (nT (zr ?_)) { tk:=[7] };cases soI h;exact zq

theorem b7b {A:Ar} (hA:SA A) {C Q:List D} {V W X Y x7 x8 x9 E F G J K L M N O P R:Int} {S U a b:List D} {c e g i j k l m n o p q r s u v w y:Int} {z B:List D} (h:Z83 A C Q V W X Y x7 x8 x9 E F G J K L M N O P R S U=some (a,b,c,e,g,i,j,k,l,m,n,o,p,q,r,s,u,v,w,y,z,B)):a0c Tryz.prog 83 [.d (.agg [.list 1 C,.list 1 Q,.int .i64 V,.int .i64 W,.int .i64 X,.int .i64 Y,.int .i64 x7,.int .i64 x8,.int .i64 x9,.int .i64 E,.int .i64 F,.int .i64 G,.int .i64 J,.int .i64 K,.int .i64 L,.int .i64 M,.int .i64 N,.int .i64 O,.int .i64 P,.int .i64 R,.list 6 S,.list 1 U])] [] (.agg [zl 1 a,zl 1 b,zi c,zi e,zi g,zi i,zi j,zi k,zi l,zi m,zi n,zi o,zi p,zi q,zi r,zi s,zi u,zi v,zi w,zi y,.gref 0 6,.gref 3 1]) [.gro 6 z,.dead,.dead,.gro 1 B,.dead,.dead]:=by
 unfold Z83 at h;refine zI Tryz.func83 ?_;refine zs (zA (nT ?_) { esc:=[1,2] });refine AWp.weak (Wk.settle 1 20 rfl rfl rfl) ?_;refine AWp.weak (Wk.settle 1 21 rfl rfl rfl) ?_;refine zs ?_;refine zQ ?_;obtain ⟨g0,a0,h⟩:=a0a h;obtain ⟨_,b0,h⟩:=a0a h;refine a1h.c0 hT hA { tk:=[5,8] } rfl zc (a0c.fresh (c4i hA a0) (ckI b0)) rfl rfl (lb rfl) rfl rfl ?_;obtain ⟨i0,d0,h⟩:=a0a h;obtain ⟨_,e0,h⟩:=a0a h;refine a1h.c0 hT hA { tk:=[5,8] } rfl zc (a0c.fresh (c5f hA d0) (ckI e0)) rfl rfl (lb rfl) rfl rfl ?_;refine a1h.cd hT hA { tk:=[5,8] } rfl zc (by kernel_rfl) ?_;refine nT ?_;refine AWp.weak (Wk.settle 0 20 rfl rfl rfl) ?_;refine AWp.weak (Wk.settle 0 21 rfl rfl rfl) ?_;refine zs (zA (nT ?_) { tk:=[11] });refine AWp.weak (Wk.ren [some 8,some 9,some 10,some 11,some 12,some 13,some 1] [2] rfl rfl) ?_;refine zr ?_;cases soI h;exact zq

theorem c0z {A:Ar} (hA:SA A) {self162:List D->List D->Int->Int->Int->Int->Int->Int->Int->Int->Int->Int->Int->Int->Int->Int->Int->Int->Int->Int->List D->List D->Int->List D->List D->Int->Int->List D->List D->Option (Bool)} (p0 : ∀ {b q:List D} {v w y z B C E c e g i j k l m o p r:Int} {s u:List D} {F:Int} {G J:List D} {K L:Int} {M N:List D} {y1:Bool},self162 b q v w y z B C E c e g i j k l m o p r s u F G J K L M N=some y1->a0c Tryz.prog 36 [.d (.agg [.list 1 b,.list 1 q,.int .i64 v,.int .i64 w,.int .i64 y,.int .i64 z,.int .i64 B,.int .i64 C,.int .i64 E,.int .i64 c,.int .i64 e,.int .i64 g,.int .i64 i,.int .i64 j,.int .i64 k,.int .i64 l,.int .i64 m,.int .i64 o,.int .i64 p,.int .i64 r,.list 6 s,.list 1 u]),zi F,zl 1 G,zl 1 J,(.func 54 [] [.iptr [.int .i64 K,.int .i64 L,.list 1 M,.list 1 N]])] [] (.d (.bool y1)) []) {b q:List D} {v w y z B C E c e g i j k l m o p r:Int} {s u:List D} {F:Int} {G J:List D} {K L:Int} {M N:List D} {X:Bool} (h:b3m A self162 b q v w y z B C E c e g i j k l m o p r s u F G J K L M N=some X):a0c Tryz.prog 36 [.d (.agg [.list 1 b,.list 1 q,.int .i64 v,.int .i64 w,.int .i64 y,.int .i64 z,.int .i64 B,.int .i64 C,.int .i64 E,.int .i64 c,.int .i64 e,.int .i64 g,.int .i64 i,.int .i64 j,.int .i64 k,.int .i64 l,.int .i64 m,.int .i64 o,.int .i64 p,.int .i64 r,.list 6 s,.list 1 u]),zi F,zl 1 G,zl 1 J,(.func 54 [] [.iptr [.int .i64 K,.int .i64 L,.list 1 M,.list 1 N]])] [] (.d (.bool X)) []:=by
 unfold b3m at h;refine zI Tryz.func36 ?_;refine zs (zA (nT (zs (zn ?_))) { esc:=[5] });obtain ⟨Q,m0,h⟩:=a0a h;refine zC (a9a hA m0) ?_;refine zE (nT (zs (zs ?_)));obtain ⟨a0,P,h⟩:=a0a h;refine AWp.cutW (fun τ=>τ=⟨[(1,zi F),(2,zl 1 G),(3,zl 1 J),(4,(.func 54 [] [.iptr [.int .i64 K,.int .i64 L,.list 1 M,.list 1 N]])),(5,.ptr 0 0),(11,zl 1 Q),(24,.d (.bool a0))],[.cells [zl 1 b,zl 1 q,zi v,zi w,zi y,zi z,zi B,zi C,zi E,zi c,zi e,zi g,zi i,zi j,zi k,zi l,zi m,zi o,zi p,zi r,zl 6 s,zl 1 u]],55⟩) ?_ ?_
 ·rcases tf (A.zeq (A.len Q) 0) with U | U
  ·replace P:=cT U P;refine zB ?_;cases soI P;exact oWi ⟨_,zR [some 0] [1,2,3,4,5,11,24],rfl⟩
  replace P:=cF U P;refine zB ?_;cases soI P;exact oWi ⟨_,zR [some 0] [1,2,3,4,5,11,24],rfl⟩
 rintro _ rfl;refine nT ?_;rcases tf a0 with V | V
 ·replace h:=cT V h;refine zT (zs ?_);refine AWp.weak (Wk.freezeObj 0 [5] (ds:=[.list 1 b,.list 1 q,.int .i64 v,.int .i64 w,.int .i64 y,.int .i64 z,.int .i64 B,.int .i64 C,.int .i64 E,.int .i64 c,.int .i64 e,.int .i64 g,.int .i64 i,.int .i64 j,.int .i64 k,.int .i64 l,.int .i64 m,.int .i64 o,.int .i64 p,.int .i64 r,.list 6 s,.list 1 u]) rfl rfl) ?_;refine zn ?_;obtain ⟨j3,n0,h⟩:=a0a h;refine zD (c5c hA n0) ?_ { tk:=[27] };refine zF (nT (zr (rT ?_))) { tk:=[27] };cases soI h;exact zq
 replace h:=cF V h;refine zU (zk (nT (zs (zs ?_))));refine zB (nT (zb ?_));obtain ⟨k3,o0,b0,Y,O⟩:=a0z h;refine zM 0 [] [] 1 (fun τ=>b0 (.inl ())=some X/\τ=⟨[],[.cells [zl 1 b,zl 1 q,zi v,zi w,zi y,zi z,zi B,zi C,zi E,zi c,zi e,zi g,zi i,zi j,zi k,zi l,zi m,zi o,zi p,zi r,zl 6 s,zl 1 u]],55⟩) ?_ ?_
 ·refine zP o0 [1,2,3,4,5,28,29,30] [] 1 (fun W=>⟨[(1,zi F),(2,zl 1 G),(3,zl 1 J),(4,(.func 54 [] [.iptr [.int .i64 K,.int .i64 L,.list 1 M,.list 1 N]])),(5,.ptr 0 0),(28,zl 1 Q),(29,(.d (.int .i64 (A.len Q)))),(30,zi W)],[.cells [zl 1 b,zl 1 q,zi v,zi w,zi y,zi z,zi B,zi C,zi E,zi c,zi e,zi g,zi i,zi j,zi k,zi l,zi m,zi o,zi p,zi r,zl 6 s,zl 1 u]],55⟩) ⟨rfl,zv⟩ ?_;rintro W s1 a;dsimp only [b1a] at a;refine zs (zA (nT (zs ?_)));rcases tf (A.zlt W (A.len Q)) with R | R
  ·replace a:=cT R a;refine zT (zk (nT (zs (zb (zs ?_)))));obtain ⟨r1,d0,a⟩:=a0a a;obtain ⟨u1,v1⟩:=gtI d0;refine zB (nT (zs (zn ?_)));obtain ⟨⟨q0,r0,s0,u0,v0,w0,y0,z0,a1,b1,c1,d1,e1,g1,i1,j1,k1,l1,m1,n1,o1,p1⟩,e0,a⟩:=a0a a;refine zD (a0c.shift (b7b hA e0) rfl rfl [.cells [zl 1 b,zl 1 q,zi v,zi w,zi y,zi z,zi B,zi C,zi E,zi c,zi e,zi g,zi i,zi j,zi k,zi l,zi m,zi o,zi p,zi r,zl 6 s,zl 1 u]] rfl rfl rfl rfl) ?_ { tk:=[35],esc:=[14] };refine zF (nT (zs (zn ?_))) { tk:=[35],esc:=[14] };obtain ⟨⟨j2,k2,l2,m2,n2,o2,p2,q2,r2,s2,u2,v2,w2,y2,z2,a3,b3,c3,d3,e3,g3,i3⟩,g0,a⟩:=a0a a;refine zD (a0c.emb (b5x hA g0) [some 7,some 1,some 2,some 3,some 4,some 5,some 6] [.cells [zl 1 b,zl 1 q,zi v,zi w,zi y,zi z,zi B,zi C,zi E,zi c,zi e,zi g,zi i,zi j,zi k,zi l,zi m,zi o,zi p,zi r,zl 6 s,zl 1 u],.gro 6 o1,.dead,.dead,.gro 1 p1,.dead,.dead,.cells [zl 1 q0,zl 1 r0,zi s0,zi u0,zi v0,zi w0,zi y0,zi z0,zi a1,zi b1,zi c1,zi d1,zi e1,zi g1,zi i1,zi j1,zi k1,zi l1,zi m1,zi n1,.gref 1 6,.gref 4 1]] rfl rfl rfl rfl rfl rfl rfl) ?_;refine zF (nT (zs ?_));refine AWp.weak (Wk.freezeG 7 20 rfl rfl rfl) ?_;refine AWp.weak (Wk.freezeG 7 21 rfl rfl rfl) ?_;refine zQ ?_;obtain ⟨g2,i0,a⟩:=a0a a;obtain ⟨w1,z1,a2,b2⟩:=slI i0;obtain ⟨_,j0,a⟩:=a0a a;have c2:=ckI j0;obtain ⟨i2,k0,a⟩:=a0a a;obtain ⟨d2,e2⟩:=apI k0;obtain ⟨q1,l0,a⟩:=a0a a;refine a1h.c0 hT hA {} rfl zu (p0 l0) rfl rfl (lb rfl) rfl rfl ?_;refine zJ ?_;refine nT ?_;rcases tf q1 with S | S
   ·replace a:=cT S a;refine zU (zk (nB (nT ?_)));refine zB ?_;exact nT ⟨_,(soI a).symm,rfl,zv⟩
   replace a:=cF S a;refine zT (zs ?_);refine zB (nT (zr (rB (rT (rT ?_)))));refine exL a ?_;rintro rfl;refine oxR ?_;replace O:=(eR (Y _ O));refine rB (rT ?_);cases soI O;exact zq
  replace a:=cF R a;refine zU (AWp.exit (xT (xT ?_)));refine exL a ?_;rintro rfl;exact oxI ⟨rfl,O,zv⟩
 rintro _ ⟨O,rfl⟩;have h:=(eL (Y _ O));refine xB (nT (zs (zA (nT (zr ?_)))));cases soI h;exact zq
end Go.Am
