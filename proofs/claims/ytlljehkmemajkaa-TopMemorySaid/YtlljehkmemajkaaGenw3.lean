import Derived.Test.YtlljehkmemajkaaGenw2
set_option maxRecDepth 100000
set_option maxHeartbeats 2000000
set_option linter.unusedVariables false
set_option linter.unusedSimpArgs false
namespace Go.Am
open Go Go.Proofs
theorem c0V {A:Ar} (hA:SA A) {c e:List D} {l:Bool} (h:M25 A c e=some l):a0j Try.prog 25 [zl 1 c,zl 1 e] [] (.d (.bool l)) []:=by
 unfold M25 at h;refine zI Try.func25 ?_;refine zs (zA (nT (zs (zs ?_))));refine zA (nT ?_);rcases tf (A.zeq (A.len c) (A.len e)) with j | j
 ·replace h:=cT j h;refine zU (zk (nT (zs (zs ?_))));refine zB (nT (zb ?_));obtain ⟨F,s,o,m,b⟩:=a0Q h;refine zM 0 [] [] 0 (fun τ=>o (.inl ())=some l/\τ=⟨[],[],27⟩) ?_ ?_
  ·refine zP s [0,1,5] [] 0 (fun k=>⟨[(0,zl 1 c),(1,zl 1 e),(5,zi k)],[],27⟩) ⟨rfl,zv⟩ ?_;rintro k y a;dsimp only [b1t] at a;refine zs (zs (zA (nT ?_)));rcases tf (A.zlt k (A.len c)) with g | g
   ·replace a:=cT g a;refine zT (zk (nT (zs (zb (zs ?_)))));refine zQ ?_;obtain ⟨v,p,a⟩:=a0a a;obtain ⟨z,B⟩:=gtI p;obtain ⟨w,q,a⟩:=a0a a;obtain ⟨C,E⟩:=gtI q;obtain ⟨u,r,a⟩:=a0a a;refine a1t.c0 hT hA {} rfl zu (b9y hA r) rfl rfl (lb rfl) rfl rfl ?_;refine zJ ?_;refine nT ?_;rcases tf (A.zeq u 0) with i | i
    ·replace a:=cT i a;refine zU (zk (nB (nT ?_)));refine zB ?_;exact nT ⟨_,(soI a).symm,rfl,zv⟩
    replace a:=cF i a;refine zT (zs ?_);refine zB (nT (zr (rB (rT (rT ?_)))));refine exL a ?_;rintro rfl;refine oxR ?_;replace b:=(eR (m _ b));refine rB (rT ?_);cases soI b;exact zq
   replace a:=cF g a;refine zU (AWp.exit (xT (xT ?_)));refine exL a ?_;rintro rfl;exact oxI ⟨rfl,b,zv⟩
  rintro _ ⟨b,rfl⟩;have h:=(eL (m _ b));refine xB (nT (zs (zA (nT (zr ?_)))));cases soI h;exact zq
 replace h:=cF j h;refine zT (zs ?_);refine zB (nT (zr (rT ?_)));cases soI h;exact zq

theorem c0W {A:Ar} (hA:SA A) {a b c e:List D} (h:M71 A a=some (b,c,e)):a0j Try.prog 71 [zl 1 a] [] (.ptr 0 0) [.cells [zl 1 b,.gref 1 1,.gref 4 1,zi 0,zi 0,zi 0],.gro 1 c,.dead,.dead,.gro 1 e,.dead,.dead]:=by
 unfold M71 at h;refine zI Try.func71 ?_;refine zs (zA (nT (zs ?_)));obtain ⟨_,l,h⟩:=a0a h;have q:=ckI l;obtain ⟨_,m,h⟩:=a0a h;have r:=ckI m;obtain ⟨_,o,h⟩:=a0a h;have s:=ckI o;obtain ⟨_,i,h⟩:=a0a h;have u:=ckI i;obtain ⟨_,j,h⟩:=a0a h;have v:=ckI j;obtain ⟨_,k,h⟩:=a0a h;have p:=ckI k;refine AWp.re hT hA { tk:=[11],esc:=[11],gr:=[6,9] } rfl (fun σ'=>σ'.ren [some 6,some 0,some 1,some 2,some 3,some 4,some 5] [2]=some ⟨[(2,.ptr 0 0)],[.cells [zl 1 a,.gref 1 1,.gref 4 1,zi 0,zi 0,zi 0],(.gro 1 (A.rep (A.len a) (.int .i64 0))),.dead,.dead,(.gro 1 (A.rep (A.len a) (.list 1 []))),.dead,.dead],12⟩\/σ'.ren [some 6,some 3,some 4,some 5,some 0,some 1,some 2] [2]=some ⟨[(2,.ptr 0 0)],[.cells [zl 1 a,.gref 1 1,.gref 4 1,zi 0,zi 0,zi 0],(.gro 1 (A.rep (A.len a) (.int .i64 0))),.dead,.dead,(.gro 1 (A.rep (A.len a) (.list 1 []))),.dead,.dead],12⟩) ?_ (lb rfl) ?_
 ·iterate 14 ((try cbv);(try simp only [q,r,s,u,v,p,if_true,and_true,true_and,and_self,Bool.true_or,Bool.false_or,Bool.or_true,Bool.true_and,Bool.and_true,↓reduceIte,true_or,or_true]))
 rintro σ' (g | g)
 ·refine nT ?_;refine AWp.weak (Wk.ren _ [2] rfl g) ?_;refine zr ?_;cases soI h;exact zq
 refine nT ?_;refine AWp.weak (Wk.ren _ [2] rfl g) ?_;refine zr ?_;cases soI h;exact zq

theorem c0X {A:Ar} (hA:SA A) {e:Int} {c:List D} {o p q:Int} {g B:List D} {s:Bool} {u v w:Int} {y z:List D} (h:M74 A e c o p q g B=some (s,u,v,w,y,z)):a0j Try.prog 74 [.ptr 0 0,zi e] [.cells [zl 1 c,.gref 1 1,.gref 4 1,zi o,zi p,zi q],.gro 1 g,.dead,.dead,.gro 1 B,.dead,.dead] (.d (.bool s)) [.cells [zl 1 c,.gref 1 1,.gref 4 1,zi u,zi v,zi w],.gro 1 y,.dead,.dead,.gro 1 z,.dead,.dead]:=by
 unfold M74 at h;refine zI Try.func74 ?_;refine zs (zA (nT (zs (zs ?_))));obtain ⟨_,e8,h⟩:=a0a h;have m0:=ckI e8;obtain ⟨_,e9,h⟩:=a0a h;have n0:=ckI e9;obtain ⟨i,G,h⟩:=a0a h;have o0:=gcI G;obtain ⟨C,J,h⟩:=a0a h;obtain ⟨p0,q0⟩:=gtI J;refine zH ?_;refine nT ?_;rcases tf (A.zle (A.len C) i) with k | k
 ·replace h:=cT k h;refine zT (zs ?_);refine zB (nT (zr (rT ?_)));cases soI h;exact zq
 replace h:=cF k h;refine zU (zk (nT (zs ?_)));obtain ⟨_,K,h⟩:=a0a h;have r0:=ckI K;obtain ⟨_,L,h⟩:=a0a h;have s0:=ckI L;obtain ⟨⟨j,E,F⟩,M,h⟩:=a0a h;obtain ⟨u0,v0⟩:=gtI M;refine zH ?_ { tk:=[37] };refine nT (zs ?_);obtain ⟨_,N,h⟩:=a0a h;have w0:=ckI N;obtain ⟨_,O,h⟩:=a0a h;have y0:=ckI O;obtain ⟨_,P,h⟩:=a0a h;have z0:=ckI P;obtain ⟨_,Q,h⟩:=a0a h;have a1:=ckI Q;refine zB (nT (zs (zs ?_))) { tk:=[45] };refine zB (nT ?_);obtain ⟨r,a,h⟩:=a0a h;refine AWp.cutW (fun τ=>τ=⟨[(0,.ptr 0 0),(5,(.lbox [zi j,zi E,zi F]))],[.cells [zl 1 c,.gref 1 1,.gref 4 1,zi o,zi p,zi q],(.gro 1 (A.lset g (A.nat e) (.int .i64 (A.wrp .i64 (A.zadd i 1))))),.dead,.dead,.gro 1 r,.dead,.dead],85⟩) ?_ ?_
 ·rcases tf (A.zeq j 1) with l | l
  ·replace a:=cT l a;refine zT ?_;obtain ⟨_,R,a⟩:=a0a a;have b1:=ckI R;obtain ⟨_,S,a⟩:=a0a a;have c1:=ckI S;obtain ⟨k0,U,a⟩:=a0a a;have d1:=gcI U;obtain ⟨r1,V,a⟩:=a0a a;obtain ⟨e1,g1⟩:=apI V;obtain ⟨_,W,a⟩:=a0a a;have i1:=ckI W;obtain ⟨_,X,a⟩:=a0a a;have j1:=ckI X;obtain ⟨l0,Y,a⟩:=a0a a;have k1:=gcI Y;obtain ⟨s1,a0,a⟩:=a0a a;obtain ⟨l1,m1⟩:=apI a0;obtain ⟨_,b0,a⟩:=a0a a;have n1:=ckI b0;obtain ⟨_,c0,a⟩:=a0a a;have o1:=ckI c0;refine zH ?_ { tk:=[72],vx:=[69] };cases soI a;exact oWi ⟨_,zR [some 0,some 1,some 2,some 3,some 4,some 5,some 6] [0,5],rfl⟩
  replace a:=cF l a;refine zU (zk ?_);cases soI a;exact oWi ⟨_,zR [some 0,some 1,some 2,some 3,some 4,some 5,some 6] [0,5],rfl⟩
 rintro _ rfl;refine nT (zs (zs (zA (nT ?_))));obtain ⟨⟨g0,i0,j0⟩,b,h⟩:=a0a h;refine AWp.cutW (fun τ=>τ=⟨[],[.cells [zl 1 c,.gref 1 1,.gref 4 1,zi g0,zi i0,zi j0],(.gro 1 (A.lset g (A.nat e) (.int .i64 (A.wrp .i64 (A.zadd i 1))))),.dead,.dead,.gro 1 r,.dead,.dead],85⟩) ?_ ?_
 ·rcases tf (A.zeq j 2) with m | m
  ·replace b:=cT m b;refine zT ?_;obtain ⟨_,d0,b⟩:=a0a b;have p1:=ckI d0;obtain ⟨_,e0,b⟩:=a0a b;have q1:=ckI e0;refine zH ?_ { tk:=[81],vx:=[84] };cases soI b;exact oWi ⟨_,zR [some 0,some 1,some 2,some 3,some 4,some 5,some 6] [],rfl⟩
  replace b:=cF m b;refine zU (zk ?_);cases soI b;exact oWi ⟨_,zR [some 0,some 1,some 2,some 3,some 4,some 5,some 6] [],rfl⟩
 rintro _ rfl;refine nT (zs (zA (nT (zr ?_))));cases soI h;exact zq

theorem c0Y {A:Ar} (hA:SA A) {c:List D} {e g i:Int} {j k l:List D} (h:M79 A c e g i j k=some l):a0j Try.prog 79 [.ptr 0 0] [.cells [zl 1 c,.gref 1 1,.gref 4 1,zi e,zi g,zi i],.gro 1 j,.dead,.dead,.gro 1 k,.dead,.dead] (.own 1 l) [.cells [zl 1 c,.gref 1 1,.gref 4 1,zi e,zi g,zi i],.gro 1 j,.dead,.dead,.gro 1 k,.dead,.dead]:=by
 unfold M79 at h;refine zI Try.func79 ?_;refine zs (zA (nT (zs ?_)));refine zA (nT (zs (zs ?_)));refine zA (nT (zb ?_));obtain ⟨l0,P,z,N,p⟩:=a0Q h;refine AWp.cutXW 0 (fun τ => ∃ s,z s=some l/\τ=⟨[(0,.ptr 0 0),(3,(.own 1 s))],[.cells [zl 1 c,.gref 1 1,.gref 4 1,zi e,zi g,zi i],.gro 1 j,.dead,.dead,.gro 1 k,.dead,.dead],38⟩) ?_ ?_
 ·refine AWp.iterW P (fun (w,r)=>⟨[(0,.ptr 0 0),(3,(.own 1 w)),(4,zi r)],[.cells [zl 1 c,.gref 1 1,.gref 4 1,zi e,zi g,zi i],.gro 1 j,.dead,.dead,.gro 1 k,.dead,.dead],38⟩) ⟨_,zR [some 0,some 1,some 2,some 3,some 4,some 5,some 6] [0,3,4],rfl⟩ ?_;rintro ⟨w,r⟩ U a;dsimp only [b0v] at a;refine zs (zs (zA (nT ?_)));rcases tf (A.zlt r (A.len c)) with m | m
  ·replace a:=cT m a;refine zT (zk (nT (zs (zb ?_))));obtain ⟨_,C,a⟩:=a0a a;have W:=ckI C;obtain ⟨_,E,a⟩:=a0a a;have X:=ckI E;obtain ⟨R,F,a⟩:=a0a a;have Y:=gcI F;obtain ⟨j0,G,a⟩:=a0a a;obtain ⟨a0,b0⟩:=apI G;refine zB (nB (nT ?_)) { tk:=[3,23] };refine zB ?_;exact nT ⟨_,(soI a).symm,_,zR [some 0,some 1,some 2,some 3,some 4,some 5,some 6] [0,3,4],rfl⟩
  replace a:=cF m a;refine zU (AWp.exit (xT (xT ?_)));refine exL a ?_;rintro rfl;exact b3z ⟨_,zR [some 0,some 1,some 2,some 3,some 4,some 5,some 6] [0,3],_,p,rfl⟩
 rintro _ ⟨s,p,rfl⟩;have h:=(N _ p);refine xB (nT (zs (zs (zA (nT (zb ?_))))));obtain ⟨m0,Q,B,O,q⟩:=a0Q h;refine AWp.cutXW 2 (fun τ => ∃ v,B v=some l/\τ=⟨[(3,(.own 1 v))],[.cells [zl 1 c,.gref 1 1,.gref 4 1,zi e,zi g,zi i],.gro 1 j,.dead,.dead,.gro 1 k,.dead,.dead],38⟩) ?_ ?_
 ·refine AWp.iterW Q (fun (y,u)=>⟨[(0,.ptr 0 0),(3,(.own 1 y)),(5,zi u)],[.cells [zl 1 c,.gref 1 1,.gref 4 1,zi e,zi g,zi i],.gro 1 j,.dead,.dead,.gro 1 k,.dead,.dead],38⟩) ⟨_,zR [some 0,some 1,some 2,some 3,some 4,some 5,some 6] [0,3,5],rfl⟩ ?_;rintro ⟨y,u⟩ V b;dsimp only [b0w] at b;refine zs (zs (zA (nT ?_)));rcases tf (A.zlt u 3) with o | o
  ·replace b:=cT o b;refine zT (zk (nT (zs (zb ?_))));obtain ⟨_,J,b⟩:=a0a b;have c0:=ckI J;obtain ⟨_,K,b⟩:=a0a b;have d0:=ckI K;obtain ⟨S,L,b⟩:=a0a b;have e0:=gcI L;obtain ⟨k0,M,b⟩:=a0a b;obtain ⟨g0,i0⟩:=apI M;refine zB (nB (nT ?_)) { tk:=[3,36],vx:=[33] };refine zB ?_;exact nT ⟨_,(soI b).symm,_,zR [some 0,some 1,some 2,some 3,some 4,some 5,some 6] [0,3,5],rfl⟩
  replace b:=cF o b;refine zU (AWp.exit (xT (xT ?_)));refine exL b ?_;rintro rfl;exact b3z ⟨_,zR [some 0,some 1,some 2,some 3,some 4,some 5,some 6] [3],_,q,rfl⟩
 rintro _ ⟨v,q,rfl⟩;have h:=(O _ q);refine xB (nT (zs (zA (nT (zr ?_)) { tk:=[3,37] })));cases soI h;exact zq

theorem c0Z {A:Ar} (hA:SA A) {g e m:List D} {o:Int} (h:M34 A g e=some (m,o)):a0j Try.prog 34 [zl 1 g,zl 1 e] [] (.tuple [zl 1 m,zi o]) []:=by
 unfold M34 at h;refine zI Try.func34 ?_;refine zs (zA (nT (zs (zs (zn ?_)))));obtain ⟨r4,W,h⟩:=a0a h;refine zC (b9h hA W) ?_;refine zE (nT ?_);rcases tf r4 with r | r
 ·replace h:=cT r h;refine zU (zk (nT (zs (zn ?_))));obtain ⟨⟨j,J,K⟩,e6,h⟩:=a0a h;refine zD (c0W hA e6) ?_;refine zF (nT (zs ?_));refine zB (nT (zs (zs ?_)));refine zB (nT (zb ?_));obtain ⟨e1,d0,S,c0,w⟩:=a0Q h;refine AWp.cutXW 0 (fun τ => ∃ k,S k=some (m,o)/\τ=⟨[(0,zl 1 g),(1,zl 1 e),(6,.ptr 0 0),(7,zi k)],[.cells [zl 1 j,.gref 1 1,.gref 4 1,zi 0,zi 0,zi 0],.gro 1 J,.dead,.dead,.gro 1 K,.dead,.dead],58⟩) ?_ ?_
  ·refine AWp.iterW d0 (fun (L,y)=>⟨[(0,zl 1 g),(1,zl 1 e),(6,.ptr 0 0),(7,zi L),(8,zi y)],[.cells [zl 1 j,.gref 1 1,.gref 4 1,zi 0,zi 0,zi 0],.gro 1 J,.dead,.dead,.gro 1 K,.dead,.dead],58⟩) ⟨_,zR [some 0,some 1,some 2,some 3,some 4,some 5,some 6] [0,1,6,7,8],rfl⟩ ?_;rintro ⟨L,y⟩ p0 c;dsimp only [a8K] at c;refine zs (zs (zA (nT ?_)));rcases tf (A.zlt y (A.len g)) with p | p
   ·replace c:=cT p c;refine zT (zk (nT (zs (zb ?_))));obtain ⟨n0,V,c⟩:=a0a c;obtain ⟨r0,s0⟩:=gtI V;refine zB (nB (nT ?_));refine zB ?_;exact nT ⟨_,(soI c).symm,_,zR [some 0,some 1,some 2,some 3,some 4,some 5,some 6] [0,1,6,7,8],rfl⟩
   replace c:=cF p c;refine zU (AWp.exit (xT (xT ?_)));refine exL c ?_;rintro rfl;exact b3z ⟨_,zR [some 0,some 1,some 2,some 3,some 4,some 5,some 6] [0,1,6,7],_,w,rfl⟩
  rintro _ ⟨k,w,rfl⟩;have h:=(c0 _ w);refine xB (nT (zs (zs (zA (nT ?_)))));rcases tf (A.zeq (A.len e) k) with q | q
  ·replace h:=cT q h;refine zU (zk (nT (zs (zs ?_))));refine zB (nT (zb ?_));obtain ⟨g1,e0,U,G,i⟩:=a0Q h;refine AWp.cutXW 2 (fun τ => ∃ z B C E F,U (.inl (z,B,C,E,F))=some (m,o)/\τ=⟨[(6,.ptr 0 0)],[.cells [zl 1 j,.gref 1 1,.gref 4 1,zi z,zi B,zi C],.gro 1 E,.dead,.dead,.gro 1 F,.dead,.dead],58⟩) ?_ ?_
   ·refine AWp.iterW e0 (fun (l,M,N,O,P,Q)=>⟨[(0,zl 1 g),(1,zl 1 e),(6,.ptr 0 0),(9,zi l)],[.cells [zl 1 j,.gref 1 1,.gref 4 1,zi M,zi N,zi O],.gro 1 P,.dead,.dead,.gro 1 Q,.dead,.dead],58⟩) ⟨_,zR [some 0,some 1,some 2,some 3,some 4,some 5,some 6] [0,1,6,9],rfl⟩ ?_;rintro ⟨l,M,N,O,P,Q⟩ q0 a;dsimp only [a6t] at a;refine zs (zs (zA (nT ?_)));rcases tf (A.zlt l (A.len e)) with s | s
    ·replace a:=cT s a;refine zT (zk (nT (zs (zb (zs ?_)))));obtain ⟨⟨R,i0,j0,k0,l0,m0⟩,b,a⟩:=a0a a;refine AWp.cutW (fun τ=>τ=⟨[(0,zl 1 g),(1,zl 1 e),(6,.ptr 0 0),(9,zi l),(55,.d (.bool R))],[.cells [zl 1 j,.gref 1 1,.gref 4 1,zi i0,zi j0,zi k0],.gro 1 l0,.dead,.dead,.gro 1 m0,.dead,.dead],58⟩) ?_ ?_
     ·refine zn ?_;obtain ⟨o0,X,b⟩:=a0a b;obtain ⟨u0,v0⟩:=gtI X;obtain ⟨g0,Y,b⟩:=a0a b;refine zD (b7h hA Y) ?_;rcases tf g0 with u | u
      ·replace b:=cT u b;obtain ⟨⟨w0,y0,z0,a1,b1,c1⟩,a0,b⟩:=a0a b;refine zD (c0X hA a0) ?_;refine zF ?_;cases soI b;exact oWi ⟨_,zR [some 0,some 1,some 2,some 3,some 4,some 5,some 6] [0,1,6,9,55],rfl⟩
      replace b:=cF u b;refine zF ?_;cases soI b;exact oWi ⟨_,zR [some 0,some 1,some 2,some 3,some 4,some 5,some 6] [0,1,6,9,55],rfl⟩
     rintro _ rfl;refine nT ?_;rcases tf R with v | v
     ·replace a:=cT v a;refine zT (zs ?_);refine zB (nT ?_);refine AWp.weak (Wk.ren [] [4,5] rfl rfl) ?_;refine zr (rB (rT (rT ?_)));refine exL a ?_;rintro rfl;refine c1t ?_;replace i:=(eR (G _ i));refine rB (rT ?_);cases soI i;exact zq
     replace a:=cF v a;refine zU (zk (nB (nT ?_)));refine zB ?_;exact nT ⟨_,(soI a).symm,_,zR [some 0,some 1,some 2,some 3,some 4,some 5,some 6] [0,1,6,9],rfl⟩
    replace a:=cF s a;refine zU (AWp.exit (xT (xT ?_)));refine exL a ?_;rintro rfl;exact b3z ⟨_,zR [some 0,some 1,some 2,some 3,some 4,some 5,some 6] [6],_,_,_,_,_,i,rfl⟩
   rintro _ ⟨z,B,C,E,F,i,rfl⟩;have h:=(eL (G _ i));refine xB (nT (zs (zn ?_)));obtain ⟨d1,b0,h⟩:=a0a h;refine zC (c0Y hA b0) ?_;refine zE (nT ?_);refine AWp.weak (Wk.ren [] [4,5] rfl rfl) ?_;refine zr ?_;cases soI h;exact zq
  replace h:=cF q h;refine zT (zs ?_);refine zB (nT ?_);refine AWp.weak (Wk.ren [] [4,5] rfl rfl) ?_;refine zr (rT ?_);cases soI h;exact zq
 replace h:=cF r h;refine zT (zs ?_);refine zB (nT (zr (rT ?_)));cases soI h;exact zq

theorem b9A {A:Ar} (hA:SA A) {self52:List D->List D->List D->(List (D×D))->(Option (List D×Bool×List (D×D)))} (g0 : ∀ {b c e:List D} {j:List (D×D)} {E:List D} {F:Bool} {G:List (D×D)},self52 b c e j=some (E,F,G)->a0j Try.prog 70 [(.agg [zl 1 b,zl 1 c,(.map 0)]),.d (.agg e)] [(.map true (.int .u8 :: .int .u8 :: .int .u8 :: .int .i8 :: .int .i8 :: .int .i8 :: .int .i8 :: .int .i8 :: .int .i8 :: .int .i8 :: .int .i8 :: .int .i8 :: .int .i8 :: .int .i8 :: .int .i8 :: .int .i8 :: .int .i8 :: .int .i8 :: .int .i8 :: .int .i8 :: .int .i8 :: .int .i8 :: .int .i8 :: .int .i8 :: .int .i8 :: .int .i8 :: .int .i8 :: .int .i8 :: .int .i8 :: .int .i8 :: .int .i8 :: .int .i8 :: .int .i8 :: .int .i8 :: .int .i8 :: .int .i8 :: .int .i8 :: .int .i8 :: .int .i64 :: .int .i64 :: .int .i64::[]) j)] (.tuple [zl 1 E,.d (.bool F)]) [(.map true (.int .u8 :: .int .u8 :: .int .u8 :: .int .i8 :: .int .i8 :: .int .i8 :: .int .i8 :: .int .i8 :: .int .i8 :: .int .i8 :: .int .i8 :: .int .i8 :: .int .i8 :: .int .i8 :: .int .i8 :: .int .i8 :: .int .i8 :: .int .i8 :: .int .i8 :: .int .i8 :: .int .i8 :: .int .i8 :: .int .i8 :: .int .i8 :: .int .i8 :: .int .i8 :: .int .i8 :: .int .i8 :: .int .i8 :: .int .i8 :: .int .i8 :: .int .i8 :: .int .i8 :: .int .i8 :: .int .i8 :: .int .i8 :: .int .i8 :: .int .i8 :: .int .i64 :: .int .i64 :: .int .i64::[]) G)]) {b c e:List D} {j:List (D×D)} {r:List D} {s:Bool} {u:List (D×D)} (h:b8J A self52 b c e j=some (r,s,u)):a0j Try.prog 70 [(.agg [zl 1 b,zl 1 c,(.map 0)]),.d (.agg e)] [(.map true (.int .u8 :: .int .u8 :: .int .u8 :: .int .i8 :: .int .i8 :: .int .i8 :: .int .i8 :: .int .i8 :: .int .i8 :: .int .i8 :: .int .i8 :: .int .i8 :: .int .i8 :: .int .i8 :: .int .i8 :: .int .i8 :: .int .i8 :: .int .i8 :: .int .i8 :: .int .i8 :: .int .i8 :: .int .i8 :: .int .i8 :: .int .i8 :: .int .i8 :: .int .i8 :: .int .i8 :: .int .i8 :: .int .i8 :: .int .i8 :: .int .i8 :: .int .i8 :: .int .i8 :: .int .i8 :: .int .i8 :: .int .i8 :: .int .i8 :: .int .i8 :: .int .i64 :: .int .i64 :: .int .i64::[]) j)] (.tuple [zl 1 r,.d (.bool s)]) [(.map true (.int .u8 :: .int .u8 :: .int .u8 :: .int .i8 :: .int .i8 :: .int .i8 :: .int .i8 :: .int .i8 :: .int .i8 :: .int .i8 :: .int .i8 :: .int .i8 :: .int .i8 :: .int .i8 :: .int .i8 :: .int .i8 :: .int .i8 :: .int .i8 :: .int .i8 :: .int .i8 :: .int .i8 :: .int .i8 :: .int .i8 :: .int .i8 :: .int .i8 :: .int .i8 :: .int .i8 :: .int .i8 :: .int .i8 :: .int .i8 :: .int .i8 :: .int .i8 :: .int .i8 :: .int .i8 :: .int .i8 :: .int .i8 :: .int .i8 :: .int .i8 :: .int .i64 :: .int .i64 :: .int .i64::[]) u)]:=by
 unfold b8J at h;refine zI Try.func70 ?_;refine zs ?_;obtain ⟨_,R,h⟩:=a0a h;have f5:=ckI R;refine zB (nT (zs (zs (zn ?_)))) { arr:=[3] };obtain ⟨v0,S,h⟩:=a0a h;obtain ⟨f8,f9,n0⟩:=gaI S;obtain ⟨j0,N,h⟩:=a0a h;refine zD (c0n hA N) ?_;refine zF (nT ?_);rcases tf j0 with l | l
 ·replace h:=cT l h;refine zT (zs ?_);refine zQ ?_;obtain ⟨y0,O,h⟩:=a0a h;refine a1t.c0 hT hA {} rfl zu (c0o hA O) rfl rfl (lb rfl) rfl rfl ?_;obtain ⟨z0,P,h⟩:=a0a h;refine a1t.c0 hT hA {} rfl zu (b5F hA P) rfl rfl (lb rfl) rfl rfl ?_;refine zJ ?_;refine nT (zr (rT ?_));cases soI h;exact zq
 replace h:=cF l h;refine zU (zk (nT (zs (zs ?_))));obtain ⟨B,i,h⟩:=a0a h;refine zN [2,3,24] [] 2 (fun τ=>τ=⟨[(2,(.lbox [zl 1 b,zl 1 c,(.map 0)])),(3,.ptr 1 0),(24,.d (.bool B))],[(.map true (.int .u8 :: .int .u8 :: .int .u8 :: .int .i8 :: .int .i8 :: .int .i8 :: .int .i8 :: .int .i8 :: .int .i8 :: .int .i8 :: .int .i8 :: .int .i8 :: .int .i8 :: .int .i8 :: .int .i8 :: .int .i8 :: .int .i8 :: .int .i8 :: .int .i8 :: .int .i8 :: .int .i8 :: .int .i8 :: .int .i8 :: .int .i8 :: .int .i8 :: .int .i8 :: .int .i8 :: .int .i8 :: .int .i8 :: .int .i8 :: .int .i8 :: .int .i8 :: .int .i8 :: .int .i8 :: .int .i8 :: .int .i8 :: .int .i8 :: .int .i8 :: .int .i64 :: .int .i64 :: .int .i64::[]) j),(.arr 1 e)],62⟩) ?_ ?_
 ·obtain ⟨_,Q,i⟩:=a0a i;have p0:=ckI Q;obtain ⟨i0,y,i⟩:=a0a i;rcases i0 with _ | m0
  ·have b0:=lkN y;refine zB ?_;cases soI i;exact zO
  have b0:=lkS y;refine zB ?_;cases soI i;exact zO
 rintro _ rfl;refine nT ?_;rcases tf B with m | m
 ·replace h:=cT m h;refine zT (zs ?_);refine zB (nT (zr (rT ?_)));cases soI h;exact zq
 replace h:=cF m h;refine zU (zk (nT (zs (zs ?_))));refine zB (nT (zb ?_));obtain ⟨d1,e0,K,z,g⟩:=a0Q h;refine zM 0 [2,3] [] 2 (fun τ => ∃ w,K (.inl w)=some (r,s,u)/\τ=⟨[(2,(.lbox [zl 1 b,zl 1 c,(.map 0)])),(3,.ptr 1 0)],[(.map true (.int .u8 :: .int .u8 :: .int .u8 :: .int .i8 :: .int .i8 :: .int .i8 :: .int .i8 :: .int .i8 :: .int .i8 :: .int .i8 :: .int .i8 :: .int .i8 :: .int .i8 :: .int .i8 :: .int .i8 :: .int .i8 :: .int .i8 :: .int .i8 :: .int .i8 :: .int .i8 :: .int .i8 :: .int .i8 :: .int .i8 :: .int .i8 :: .int .i8 :: .int .i8 :: .int .i8 :: .int .i8 :: .int .i8 :: .int .i8 :: .int .i8 :: .int .i8 :: .int .i8 :: .int .i8 :: .int .i8 :: .int .i8 :: .int .i8 :: .int .i8 :: .int .i64 :: .int .i64 :: .int .i64::[]) w),(.arr 1 e)],62⟩) ?_ ?_
 ·refine zP e0 [2,3,27,28] [] 2 (fun (k,C)=>⟨[(2,(.lbox [zl 1 b,zl 1 c,(.map 0)])),(3,.ptr 1 0),(27,(.d (.int .i64 (A.len b)))),(28,zi k)],[(.map true (.int .u8 :: .int .u8 :: .int .u8 :: .int .i8 :: .int .i8 :: .int .i8 :: .int .i8 :: .int .i8 :: .int .i8 :: .int .i8 :: .int .i8 :: .int .i8 :: .int .i8 :: .int .i8 :: .int .i8 :: .int .i8 :: .int .i8 :: .int .i8 :: .int .i8 :: .int .i8 :: .int .i8 :: .int .i8 :: .int .i8 :: .int .i8 :: .int .i8 :: .int .i8 :: .int .i8 :: .int .i8 :: .int .i8 :: .int .i8 :: .int .i8 :: .int .i8 :: .int .i8 :: .int .i8 :: .int .i8 :: .int .i8 :: .int .i8 :: .int .i8 :: .int .i64 :: .int .i64 :: .int .i64::[]) C),(.arr 1 e)],62⟩) ⟨rfl,zv⟩ ?_;rintro ⟨k,C⟩ a0 a;dsimp only [a8J] at a;refine zs (zA (nT (zs ?_)));rcases tf (A.zlt k (A.len b)) with o | o
  ·replace a:=cT o a;refine zT (zk (nT (zs (zb (zs ?_)))));refine zB (nT (zs (zn ?_)));obtain ⟨k0,U,a⟩:=a0a a;refine zD (b9k hA U) ?_;refine zF (nT (zs ?_));obtain ⟨L,V,a⟩:=a0a a;obtain ⟨q0,r0⟩:=gtI V;refine zB (nT ?_);obtain ⟨J,d0,a⟩:=jnI a;refine zN [2,3,27,28] [] 2 (fun τ => ∃ v,J v=some a0/\τ=⟨[(2,(.lbox [zl 1 b,zl 1 c,(.map 0)])),(3,.ptr 1 0),(27,(.d (.int .i64 (A.len b)))),(28,zi k)],[(.map true (.int .u8 :: .int .u8 :: .int .u8 :: .int .i8 :: .int .i8 :: .int .i8 :: .int .i8 :: .int .i8 :: .int .i8 :: .int .i8 :: .int .i8 :: .int .i8 :: .int .i8 :: .int .i8 :: .int .i8 :: .int .i8 :: .int .i8 :: .int .i8 :: .int .i8 :: .int .i8 :: .int .i8 :: .int .i8 :: .int .i8 :: .int .i8 :: .int .i8 :: .int .i8 :: .int .i8 :: .int .i8 :: .int .i8 :: .int .i8 :: .int .i8 :: .int .i8 :: .int .i8 :: .int .i8 :: .int .i8 :: .int .i8 :: .int .i8 :: .int .i8 :: .int .i64 :: .int .i64 :: .int .i64::[]) v),(.arr 1 e)],62⟩) ?_ ?_
   ·rcases tf (A.zlt k0 (A.len L)) with p | p
    ·replace a:=cT p a;refine zT (zs ?_);refine zQ ?_;obtain ⟨a1,W,a⟩:=a0a a;refine a1t.c0 hT hA {} rfl zu (b7m hA W) rfl rfl (lb rfl) rfl rfl ?_;obtain ⟨⟨b1,l0,c1⟩,X,a⟩:=a0a a;refine a1t.cl hT hA {} rfl zu (g0 X) rfl rfl rfl rfl rfl (lb rfl) rfl rfl ?_;refine zJ ?_;refine nT (zs (zB (nT ?_)));rcases tf l0 with q | q
     ·replace a:=cT q a;refine zT (zs ?_);obtain ⟨w0,Y,a⟩:=a0a a;obtain ⟨s0,u0⟩:=apI Y;refine zB (nT (zr ?_));refine oNr ?_;refine rB (rT (rT ?_));refine exL a ?_;rintro rfl;refine oxR ?_;replace g:=(eR (z _ g));refine rB (rT ?_);cases soI g;exact zq
     replace a:=cF q a;refine zU (zk ?_);exact oNi ⟨rfl,_,a,zv⟩
    replace a:=cF p a;refine zU (zk ?_);exact oNi ⟨rfl,_,a,zv⟩
   rintro _ ⟨v,a,rfl⟩;replace a:=d0 _ a;refine nB (nT (zA ?_));exact nT ⟨_,(soI a).symm,rfl,zc⟩
  replace a:=cF o a;refine zU (AWp.exit (xT (xT ?_)));refine exL a ?_;rintro rfl;exact oxI ⟨rfl,_,g,zv⟩
 rintro _ ⟨w,g,rfl⟩;have h:=(eL (z _ g));refine xB (nT (zs ?_));obtain ⟨_,M,h⟩:=a0a h;have o0:=ckI M;refine zB (nT (zs ?_));refine zB (nT (zr ?_));cases soI h;exact zq

theorem b7p {A:Ar} (hA:SA A) : ∀ (n:Nat) {e g i:List D} {j:List (D×D)} {a:List D} {b:Bool} {c:List (D×D)},b6S A n e g i j=some (a,b,c)->a0j Try.prog 70 [(.agg [zl 1 e,zl 1 g,(.map 0)]),.d (.agg i)] [(.map true (.int .u8 :: .int .u8 :: .int .u8 :: .int .i8 :: .int .i8 :: .int .i8 :: .int .i8 :: .int .i8 :: .int .i8 :: .int .i8 :: .int .i8 :: .int .i8 :: .int .i8 :: .int .i8 :: .int .i8 :: .int .i8 :: .int .i8 :: .int .i8 :: .int .i8 :: .int .i8 :: .int .i8 :: .int .i8 :: .int .i8 :: .int .i8 :: .int .i8 :: .int .i8 :: .int .i8 :: .int .i8 :: .int .i8 :: .int .i8 :: .int .i8 :: .int .i8 :: .int .i8 :: .int .i8 :: .int .i8 :: .int .i8 :: .int .i8 :: .int .i8 :: .int .i64 :: .int .i64 :: .int .i64::[]) j)] (.tuple [zl 1 a,.d (.bool b)]) [(.map true (.int .u8 :: .int .u8 :: .int .u8 :: .int .i8 :: .int .i8 :: .int .i8 :: .int .i8 :: .int .i8 :: .int .i8 :: .int .i8 :: .int .i8 :: .int .i8 :: .int .i8 :: .int .i8 :: .int .i8 :: .int .i8 :: .int .i8 :: .int .i8 :: .int .i8 :: .int .i8 :: .int .i8 :: .int .i8 :: .int .i8 :: .int .i8 :: .int .i8 :: .int .i8 :: .int .i8 :: .int .i8 :: .int .i8 :: .int .i8 :: .int .i8 :: .int .i8 :: .int .i8 :: .int .i8 :: .int .i8 :: .int .i8 :: .int .i8 :: .int .i8 :: .int .i64 :: .int .i64 :: .int .i64::[]) c)]
 | 0,_,_,_,_,_,_,_,h=>by cases h
 | n+1,_,_,_,_,_,_,_,h=>b9A hA (fun h=>b7p hA n h) h

theorem c1b {A:Ar} (hA:SA A) {e g i:List D} {j:List (D×D)} {a:List D} {b:Bool} {c:List (D×D)} (h:M70 A e g i j=some (a,b,c)):a0j Try.prog 70 [(.agg [zl 1 e,zl 1 g,(.map 0)]),.d (.agg i)] [(.map true (.int .u8 :: .int .u8 :: .int .u8 :: .int .i8 :: .int .i8 :: .int .i8 :: .int .i8 :: .int .i8 :: .int .i8 :: .int .i8 :: .int .i8 :: .int .i8 :: .int .i8 :: .int .i8 :: .int .i8 :: .int .i8 :: .int .i8 :: .int .i8 :: .int .i8 :: .int .i8 :: .int .i8 :: .int .i8 :: .int .i8 :: .int .i8 :: .int .i8 :: .int .i8 :: .int .i8 :: .int .i8 :: .int .i8 :: .int .i8 :: .int .i8 :: .int .i8 :: .int .i8 :: .int .i8 :: .int .i8 :: .int .i8 :: .int .i8 :: .int .i8 :: .int .i64 :: .int .i64 :: .int .i64::[]) j)] (.tuple [zl 1 a,.d (.bool b)]) [(.map true (.int .u8 :: .int .u8 :: .int .u8 :: .int .i8 :: .int .i8 :: .int .i8 :: .int .i8 :: .int .i8 :: .int .i8 :: .int .i8 :: .int .i8 :: .int .i8 :: .int .i8 :: .int .i8 :: .int .i8 :: .int .i8 :: .int .i8 :: .int .i8 :: .int .i8 :: .int .i8 :: .int .i8 :: .int .i8 :: .int .i8 :: .int .i8 :: .int .i8 :: .int .i8 :: .int .i8 :: .int .i8 :: .int .i8 :: .int .i8 :: .int .i8 :: .int .i8 :: .int .i8 :: .int .i8 :: .int .i8 :: .int .i8 :: .int .i8 :: .int .i8 :: .int .i64 :: .int .i64 :: .int .i64::[]) c)]:=b7p hA fuel h

theorem c1c {A:Ar} (hA:SA A) {g i c:List D} {e:Int} (h:M28 A g i=some (c,e)):a0j Try.prog 28 [zl 1 g,zl 1 i] [] (.tuple [zl 1 c,zi e]) []:=by
 unfold M28 at h;refine zI Try.func28 ?_;refine zs (zA (nT (zs (zs (zn ?_)))));obtain ⟨l,j,h⟩:=a0a h;refine zC (b8M hA j) ?_;refine zE (nT ?_);rcases tf l with b | b
 ·replace h:=cT b h;refine zU (zk (nT (zs (zn ?_))));obtain ⟨⟨n,m,o⟩,k,h⟩:=a0a h;refine zD (c1b hA k) ?_;refine zF (nT (zs (zs ?_)));refine zB (nT ?_);rcases tf m with a | a
  ·replace h:=cT a h;refine zU (zk (nT (zs ?_)));refine zB (nT (zr ?_));cases soI h;exact zq
  replace h:=cF a h;refine zT (zs ?_);refine zB (nT (zr (rT ?_)));cases soI h;exact zq
 replace h:=cF b h;refine zT (zs ?_);refine zB (nT (zr (rT ?_)));cases soI h;exact zq

theorem c1d {A:Ar} (hA:SA A) {p:List D} {u v:Int} {a0:Bool} (h:M16 A p u v=some a0):a0j Try.prog 16 [zl 1 p,.d (.agg [.int .u8 u,.int .u8 v])] [] (.d (.bool a0)) []:=by
 unfold M16 at h;refine zI Try.func16 ?_;refine zs (zA (nT (zs (zs ?_))));obtain ⟨v9,B,h⟩:=a0a h;refine zN [0,3,26] [] 0 (fun τ=>τ=⟨[(0,zl 1 p),(3,(.lbox [.d (.int .u8 u),.d (.int .u8 v)])),(26,.d (.bool v9))],[],159⟩) ?_ ?_
 ·refine zn ?_;obtain ⟨r5,e4,B⟩:=a0a B;refine zC (c0D hA e4) ?_;rcases tf r5 with L | L
  ·replace B:=cT L B;refine zE ?_ (h:=(by (repeat (cbv;simp only [L]));try cbv))
   cases soI B;exact (zO (g:=(by first | (cbv;done) | ((repeat (cbv;simp only [L]));try cbv))))
  replace B:=cF L B;obtain ⟨r8,e7,B⟩:=a0a B;refine zC (b9h hA e7) ?_ (h:=(by (repeat (cbv;simp only [L]));try cbv))
  refine zE ?_ (h:=(by (repeat (cbv;simp only [L]));try cbv))
  cases soI B;exact (zO (g:=(by first | (cbv;done) | ((repeat (cbv;simp only [L]));try cbv))))
 rintro _ rfl;refine nT ?_;rcases tf v9 with j | j
 ·replace h:=cT j h;refine zT ?_ (hb:=(by first | rfl | simp only [j,zqa,zqb,zqc,zqd]))
  refine zs (zn ?_);obtain ⟨p2,w0,h⟩:=a0a h;refine zC (b9x hA w0) ?_ { tk:=[27] } (h:=(by (repeat (cbv;simp only [j]));try cbv))
  refine zE ?_ { tk:=[27] } (h:=(by (repeat (cbv;simp only [j]));try cbv))
  refine nT (zr (rT ?_));cases soI h;exact zq
 replace h:=cF j h;refine zU ?_ (hb:=(by first | rfl | simp only [j,zqa,zqb,zqc,zqd]))
 refine zk (nT (zs (zn ?_)));obtain ⟨⟨Q,b2⟩,c1,h⟩:=a0a h;refine zC (c0M hA c1) ?_ (h:=(by (repeat (cbv;simp only [j]));try cbv))
 refine zE ?_ (h:=(by (repeat (cbv;simp only [j]));try cbv))
 refine nT (zs (zs ?_));obtain ⟨l0,P,h⟩:=a0a h;refine zN [0,3,5,39] [] 0 (fun τ=>τ=⟨[(0,zl 1 p),(3,(.lbox [.d (.int .u8 u),.d (.int .u8 v)])),(5,zl 1 Q),(39,.d (.bool l0))],[],159⟩) ?_ ?_
 ·refine zn ?_;rcases tf (A.zeq b2 0) with J | J
  ·replace P:=cT J P;obtain ⟨s2,e1,P⟩:=a0a P;refine zC (b9h hA e1) ?_ (h:=(by (repeat (cbv;simp only [j,J]));try cbv))
   refine zE ?_ (h:=(by (repeat (cbv;simp only [j,J]));try cbv))
   cases soI P;exact (zO (g:=(by first | (cbv;done) | ((repeat (cbv;simp only [j,J]));try cbv))))
  replace P:=cF J P;refine zE ?_ (h:=(by (repeat (cbv;simp only [j,J]));try cbv))
  cases soI P;exact (zO (g:=(by first | (cbv;done) | ((repeat (cbv;simp only [j,J]));try cbv))))
 rintro _ rfl;refine nT ?_;rcases tf l0 with r | r
 ·replace h:=cT r h;refine zT ?_ (hb:=(by first | rfl | simp only [r,zqa,zqb,zqc,zqd]))
  refine zs ?_;refine zA ?_ (h:=(by (repeat (cbv;simp only [r]));try cbv))
  refine nT (zr (rT ?_));cases soI h;exact zq
 replace h:=cF r h;refine zU ?_ (hb:=(by first | rfl | simp only [r,zqa,zqb,zqc,zqd]))
 refine zk (nT (zs (zn ?_)));obtain ⟨⟨y,c2⟩,g1,h⟩:=a0a h;refine zC (b8N hA g1) ?_ (h:=(by (repeat (cbv;simp only [r]));try cbv))
 refine zE ?_ (h:=(by (repeat (cbv;simp only [r]));try cbv))
 refine nT (zs (zs ?_));obtain ⟨m0,X,h⟩:=a0a h;refine zN [0,3,5,7,51] [] 0 (fun τ=>τ=⟨[(0,zl 1 p),(3,(.lbox [.d (.int .u8 u),.d (.int .u8 v)])),(5,zl 1 Q),(7,zl 1 y),(51,.d (.bool m0))],[],159⟩) ?_ ?_
 ·rcases tf (A.zeq c2 0) with U | U
  ·replace X:=cT U X;refine zA ?_ (h:=(by (repeat (cbv;simp only [r,U]));try cbv))
   cases soI X;exact (zO (g:=(by first | (cbv;done) | ((repeat (cbv;simp only [r,U]));try cbv))))
  replace X:=cF U X;refine zA ?_ (h:=(by (repeat (cbv;simp only [r,U]));try cbv))
  cases soI X;exact (zO (g:=(by first | (cbv;done) | ((repeat (cbv;simp only [r,U]));try cbv))))
 rintro _ rfl;refine nT ?_;rcases tf m0 with K | K
 ·replace h:=cT K h;refine zT ?_ (hb:=(by first | rfl | simp only [K,zqa,zqb,zqc,zqd]))
  refine zs ?_;refine zA ?_ (h:=(by (repeat (cbv;simp only [K]));try cbv))
  refine nT (zr (rT ?_));cases soI h;exact zq
 replace h:=cF K h;refine zU ?_ (hb:=(by first | rfl | simp only [K,zqa,zqb,zqc,zqd]))
 refine zk (nT (zs (zs ?_)));refine zA ?_ (h:=(by (repeat (cbv;simp only [K]));try cbv))
 refine nT (zb ?_);obtain ⟨y2,s1,q0,Y,s⟩:=a0Q h;refine zM 0 [0,3,7] [] 0 (fun τ=>q0 (.inl ())=some a0/\τ=⟨[(0,zl 1 p),(3,(.lbox [.d (.int .u8 u),.d (.int .u8 v)])),(7,zl 1 y)],[],159⟩) ?_ ?_
 ·refine zP s1 [0,3,5,7,8] [] 0 (fun C=>⟨[(0,zl 1 p),(3,(.lbox [.d (.int .u8 u),.d (.int .u8 v)])),(5,zl 1 Q),(7,zl 1 y),(8,zi C)],[],159⟩) ⟨rfl,(by first | (cbv;done) | ((repeat (cbv;simp only [K]));try cbv))⟩ ?_
  rintro C c0 a;dsimp only [b0z] at a;refine zs (zs (zA (nT ?_)));rcases tf (A.zle C 3) with e | e
  ·replace a:=cT e a;refine zT ?_ (hb:=(by first | rfl | simp only [e,zqa,zqb,zqc,zqd]))
   refine zk (nT (zs (zb (zs (zn ?_)))));obtain ⟨⟨i0,d2⟩,i1,a⟩:=a0a a;refine zC (b8N hA i1) ?_ (h:=(by (repeat (cbv;simp only [e]));try cbv))
   refine zE ?_ (h:=(by (repeat (cbv;simp only [e]));try cbv))
   refine nT (zs (zn ?_));obtain ⟨⟨u2,e2⟩,j1,a⟩:=a0a a;refine zC (b8N hA j1) ?_ (h:=(by (repeat (cbv;simp only [e]));try cbv))
   refine zE ?_ (h:=(by (repeat (cbv;simp only [e]));try cbv))
   refine nT (zs (zs ?_));obtain ⟨n0,o,a⟩:=a0a a;refine zN [0,3,5,7,8,9,79] [] 0 (fun τ=>τ=⟨[(0,zl 1 p),(3,(.lbox [.d (.int .u8 u),.d (.int .u8 v)])),(5,zl 1 Q),(7,zl 1 y),(8,zi C),(9,zl 1 i0),(79,.d (.bool n0))],[],159⟩) ?_ ?_
   ·refine zn ?_;rcases tf (A.zeq d2 0) with z | z
    ·replace o:=cT z o;rcases tf (A.zeq e2 0) with M | M
     ·replace o:=cT M o;obtain ⟨v2,k1,o⟩:=a0a o;refine zC (c0V hA k1) ?_ (h:=(by (repeat (cbv;simp only [e,z,M]));try cbv))
      refine zE ?_ (h:=(by (repeat (cbv;simp only [e,z,M]));try cbv))
      cases soI o;exact (zO (g:=(by first | (cbv;done) | ((repeat (cbv;simp only [e,z,M]));try cbv))))
     replace o:=cF M o;refine zE ?_ (h:=(by (repeat (cbv;simp only [e,z,M]));try cbv))
     cases soI o;exact (zO (g:=(by first | (cbv;done) | ((repeat (cbv;simp only [e,z,M]));try cbv))))
    replace o:=cF z o;refine zE ?_ (h:=(by (repeat (cbv;simp only [e,z]));try cbv))
    cases soI o;exact (zO (g:=(by first | (cbv;done) | ((repeat (cbv;simp only [e,z]));try cbv))))
   rintro _ rfl;refine nT ?_;rcases tf n0 with N | N
   ·replace a:=cT N a;refine zT ?_ (hb:=(by first | rfl | simp only [N,zqa,zqb,zqc,zqd]))
    refine zs ?_;refine zA ?_ (h:=(by (repeat (cbv;simp only [N]));try cbv))
    refine nT (zr (rT (rB (rT (rT ?_)))));refine exL a ?_;rintro rfl;refine oxR ?_;replace s:=(eR (Y _ s));refine rB (rT ?_);cases soI s;exact zq
   replace a:=cF N a;refine zU ?_ (hb:=(by first | rfl | simp only [N,zqa,zqb,zqc,zqd]))
   refine zk (nT (zs (zs ?_)));refine zA ?_ (h:=(by (repeat (cbv;simp only [N]));try cbv))
   refine nT (zb ?_);obtain ⟨w2,r1,o0,g0,V⟩:=a0Q a;refine zM 2 [0,3,5,7,8] [] 0 (fun τ=>o0 (.inl ())=some c0/\τ=⟨[(0,zl 1 p),(3,(.lbox [.d (.int .u8 u),.d (.int .u8 v)])),(5,zl 1 Q),(7,zl 1 y),(8,zi C)],[],159⟩) ?_ ?_
   ·refine zP r1 [0,3,5,7,8,9,13] [] 0 (fun b0=>⟨[(0,zl 1 p),(3,(.lbox [.d (.int .u8 u),.d (.int .u8 v)])),(5,zl 1 Q),(7,zl 1 y),(8,zi C),(9,zl 1 i0),(13,zi b0)],[],159⟩) ⟨rfl,(by first | (cbv;done) | ((repeat (cbv;simp only [N]));try cbv))⟩ ?_
    rintro b0 k2 i;dsimp only [b0y] at i;refine zs (zs (zA (nT ?_)));rcases tf (A.zlt b0 (A.len y)) with m | m
    ·replace i:=cT m i;refine zT ?_ (hb:=(by first | rfl | simp only [m,zqa,zqb,zqc,zqd]))
     refine zk (nT (zs (zb (zs (zn ?_)))));obtain ⟨j2,l1,i⟩:=a0a i;obtain ⟨d0,e0⟩:=gtI l1;obtain ⟨u1,m1,i⟩:=a0a i;refine zC (c0R hA m1) ?_ (h:=(by (repeat (cbv;simp only [m,d0,e0]));try cbv))
     refine zE ?_ (h:=(by (repeat (cbv;simp only [m,d0,e0]));try cbv))
     refine nT ?_;rcases tf u1 with E | E
     ·replace i:=cT E i;refine zU ?_ (hb:=(by first | rfl | simp only [m,E,zqa,zqb,zqc,zqd]))
      refine zk (nB (nT ?_));refine zA ?_ (h:=(by (repeat (cbv;simp only [m,E]));try cbv))
      exact nT ⟨_,(soI i).symm,rfl,(by first | (cbv;done) | ((repeat (cbv;simp only [m,E]));try cbv))⟩
     replace i:=cF E i;refine zT ?_ (hb:=(by first | rfl | simp only [m,E,zqa,zqb,zqc,zqd]))
     refine zs ?_;refine zA ?_ (h:=(by (repeat (cbv;simp only [m,E]));try cbv))
     refine nT (zr (rB (rT (rT ?_))));refine exL i ?_;rintro rfl;refine oxR ?_;replace V:=(eR (g0 _ V));refine rB (rT (rB (rT (rT ?_))));refine exL V ?_;rintro rfl;refine oxR ?_;replace s:=(eR (Y _ s));refine rB (rT ?_);cases soI s;exact zq
    replace i:=cF m i;refine zU ?_ (hb:=(by first | rfl | simp only [m,zqa,zqb,zqc,zqd]))
    refine AWp.exit (xT (xT ?_));refine exL i ?_;rintro rfl;exact oxI ⟨rfl,V,(by first | (cbv;done) | ((repeat (cbv;simp only [m]));try cbv))⟩
   rintro _ ⟨V,rfl⟩;have a:=(eL (g0 _ V));refine xB (nT (zs (zA (nT ?_))));obtain ⟨p0,q1,a⟩:=jnI a;refine zN [0,3,5,7,8] [] 0 (fun τ=>p0 ()=some c0/\τ=⟨[(0,zl 1 p),(3,(.lbox [.d (.int .u8 u),.d (.int .u8 v)])),(5,zl 1 Q),(7,zl 1 y),(8,zi C)],[],159⟩) ?_ ?_
   ·rcases tf (A.zlt C 3) with q | q
    ·replace a:=cT q a;refine zT ?_ (hb:=(by first | rfl | simp only [q,zqa,zqb,zqc,zqd]))
     refine zs (zn ?_);obtain ⟨⟨l2,v1⟩,r0,a⟩:=a0a a;refine zC (c0Q hA r0) ?_ (h:=(by (repeat (cbv;simp only [q]));try cbv))
     refine zE ?_ (h:=(by (repeat (cbv;simp only [q]));try cbv))
     refine nT (zs ?_);obtain ⟨j0,W,a⟩:=a0a a;refine zN [0,3,5,7,8,109] [] 0 (fun τ=>τ=⟨[(0,zl 1 p),(3,(.lbox [.d (.int .u8 u),.d (.int .u8 v)])),(5,zl 1 Q),(7,zl 1 y),(8,zi C),(109,.d (.bool j0))],[],159⟩) ?_ ?_
     ·rcases tf (A.zeq v1 0) with R | R
      ·replace W:=cT R W;refine zA ?_ (h:=(by (repeat (cbv;simp only [q,R]));try cbv))
       cases soI W;exact (zO (g:=(by first | (cbv;done) | ((repeat (cbv;simp only [q,R]));try cbv))))
      replace W:=cF R W;refine zA ?_ (h:=(by (repeat (cbv;simp only [q,R]));try cbv))
      cases soI W;exact (zO (g:=(by first | (cbv;done) | ((repeat (cbv;simp only [q,R]));try cbv))))
     rintro _ rfl;refine nT ?_;rcases tf j0 with S | S
     ·replace a:=cT S a;refine zT ?_ (hb:=(by first | rfl | simp only [S,zqa,zqb,zqc,zqd]))
      refine zs ?_;refine zA ?_ (h:=(by (repeat (cbv;simp only [S]));try cbv))
      refine nT (zr ?_);refine oNr ?_;refine rB (rT (rT ?_));refine exL a ?_;rintro rfl;refine oxR ?_;replace s:=(eR (Y _ s));refine rB (rT ?_);cases soI s;exact zq
     replace a:=cF S a;refine zU ?_ (hb:=(by first | rfl | simp only [S,zqa,zqb,zqc,zqd]))
     refine zk ?_;exact oNi ⟨rfl,a,(by first | (cbv;done) | ((repeat (cbv;simp only [S]));try cbv))⟩
    replace a:=cF q a;refine zU ?_ (hb:=(by first | rfl | simp only [q,zqa,zqb,zqc,zqd]))
    refine zk ?_;exact oNi ⟨rfl,a,(by first | (cbv;done) | ((repeat (cbv;simp only [q]));try cbv))⟩
   rintro _ ⟨a,rfl⟩;replace a:=q1 _ a;refine nB (nT (zA ?_));exact nT ⟨_,(soI a).symm,rfl,zc⟩
  replace a:=cF e a;refine zU ?_ (hb:=(by first | rfl | simp only [e,zqa,zqb,zqc,zqd]))
  refine AWp.exit (xT (xT ?_));refine exL a ?_;rintro rfl;exact oxI ⟨rfl,s,(by first | (cbv;done) | ((repeat (cbv;simp only [e]));try cbv))⟩
 rintro _ ⟨s,rfl⟩;have h:=(eL (Y _ s));refine xB (nT (zs ?_));obtain ⟨_,s0,h⟩:=a0a h;have n1:=nkI s0;obtain ⟨i2,u0,h⟩:=a0a h;obtain ⟨o1,p1⟩:=gtI u0;refine zA ?_ (h:=(by (repeat (cbv;simp only [n1,o1,p1]));try cbv))
 refine nT (zs (zn ?_));obtain ⟨⟨m2,w1⟩,v0,h⟩:=a0a h;refine zC (c1c hA v0) ?_;refine zE (nT (zs (zs ?_)));refine zA (nT ?_);rcases tf (A.zeq w1 0) with k | k
 ·replace h:=cT k h;refine zU ?_ (hb:=(by first | rfl | simp only [k,zqa,zqb,zqc,zqd]))
  refine zk (nT (zs (zn ?_)));obtain ⟨⟨n2,y1⟩,y0,h⟩:=a0a h;refine zC (c0Z hA y0) ?_ (h:=(by (repeat (cbv;simp only [k]));try cbv))
  refine zE ?_ (h:=(by (repeat (cbv;simp only [k]));try cbv))
  refine nT (zs (zs ?_));obtain ⟨k0,O,h⟩:=a0a h;refine zN [0,7,140] [] 0 (fun τ=>τ=⟨[(0,zl 1 p),(7,zl 1 y),(140,.d (.bool k0))],[],159⟩) ?_ ?_
  ·refine zn ?_;rcases tf (A.zeq y1 0) with F | F
   ·replace O:=cT F O;obtain ⟨o2,z0,O⟩:=a0a O;refine zC (b9y hA z0) ?_ (h:=(by (repeat (cbv;simp only [k,F]));try cbv))
    refine zE ?_ (h:=(by (repeat (cbv;simp only [k,F]));try cbv))
    cases soI O;exact (zO (g:=(by first | (cbv;done) | ((repeat (cbv;simp only [k,F]));try cbv))))
   replace O:=cF F O;refine zE ?_ (h:=(by (repeat (cbv;simp only [k,F]));try cbv))
   cases soI O;exact (zO (g:=(by first | (cbv;done) | ((repeat (cbv;simp only [k,F]));try cbv))))
  rintro _ rfl;refine nT ?_;rcases tf k0 with c | c
  ·replace h:=cT c h;refine zT ?_ (hb:=(by first | rfl | simp only [c,zqa,zqb,zqc,zqd]))
   refine zs ?_;refine zA ?_ (h:=(by (repeat (cbv;simp only [c]));try cbv))
   refine nT (zr (rT ?_));cases soI h;exact zq
  replace h:=cF c h;refine zU ?_ (hb:=(by first | rfl | simp only [c,zqa,zqb,zqc,zqd]))
  refine zk (nT (zs (zn ?_)));obtain ⟨⟨z1,a2⟩,a1,h⟩:=a0a h;refine zC (c0U hA a1) ?_ (h:=(by (repeat (cbv;simp only [c]));try cbv))
  refine zE ?_ (h:=(by (repeat (cbv;simp only [c]));try cbv))
  refine nT (zs ?_);obtain ⟨g2,b,h⟩:=a0a h;refine zN [4] [] 0 (fun τ=>τ=⟨[(4,.d (.bool g2))],[],159⟩) ?_ ?_
  ·refine zn ?_;rcases tf (A.zeq a2 0) with l | l
   ·replace b:=cT l b;rcases tf z1 with w | w
    ·replace b:=cT w b;obtain ⟨q2,b1,b⟩:=a0a b;refine zC (b9x hA b1) ?_ { tk:=[158] } (h:=(by (repeat (cbv;simp only [c,l,w]));try cbv))
     refine zE ?_ { tk:=[158] } (h:=(by (repeat (cbv;simp only [c,l,w]));try cbv))
     cases soI b;exact (zO (g:=(by first | (cbv;done) | ((repeat (cbv;simp only [c,l,w]));try cbv))))
    replace b:=cF w b;rcases tf (A.zeq (A.len y) 1) with G | G
    ·replace b:=cT G b;obtain ⟨r2,d1,b⟩:=a0a b;refine zC (b9x hA d1) ?_ { tk:=[158] } (h:=(by (repeat (cbv;simp only [c,l,w,G]));try cbv))
     refine zE ?_ { tk:=[158] } (h:=(by (repeat (cbv;simp only [c,l,w,G]));try cbv))
     cases soI b;exact (zO (g:=(by first | (cbv;done) | ((repeat (cbv;simp only [c,l,w,G]));try cbv))))
    replace b:=cF G b;refine zE ?_ { tk:=[158] } (h:=(by (repeat (cbv;simp only [c,l,w,G]));try cbv))
    cases soI b;exact (zO (g:=(by first | (cbv;done) | ((repeat (cbv;simp only [c,l,w,G]));try cbv))))
   replace b:=cF l b;refine zE ?_ { tk:=[158] } (h:=(by (repeat (cbv;simp only [c,l]));try cbv))
   cases soI b;exact (zO (g:=(by first | (cbv;done) | ((repeat (cbv;simp only [c,l]));try cbv))))
  rintro _ rfl;refine nT (zr ?_);cases soI h;exact zq
 replace h:=cF k h;refine zT ?_ (hb:=(by first | rfl | simp only [k,zqa,zqb,zqc,zqd]))
 refine zs ?_;refine zA ?_ (h:=(by (repeat (cbv;simp only [k]));try cbv))
 refine nT (zr (rT ?_));cases soI h;exact zq
end Go.Am
