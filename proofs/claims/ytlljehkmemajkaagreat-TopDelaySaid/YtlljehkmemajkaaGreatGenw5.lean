import Derived.Test.YtlljehkmemajkaaGreatGenw4
set_option maxRecDepth 100000
set_option maxHeartbeats 2000000
set_option linter.unusedVariables false
set_option linter.unusedSimpArgs false
namespace Go.Am
open Go Go.Proofs
theorem c5e {A:Ar} (hA:SA A) {b c e:Int} {a:Bool} (h:N98 A b c e=some a):a0e Tryz.prog 98 [.d (.agg [.int .i64 b,.int .i64 c,.int .i64 e])] [] (.d (.bool a)) []:=by
 unfold N98 at h;refine zI Tryz.func98 ?_;refine zs (zA (nT (zs ?_)));refine zA (nT (zr ?_)) { tk:=[5] };cases soI h;exact zq

theorem b7O {A:Ar} (hA:SA A) {b:List D} {l:Int} (h:b7M A b=some l):a0e Tryz.prog 95 [zl 3 b,(.func 98 [] [])] [] (zi l) []:=by
 unfold b7M at h;refine zI Tryz.func95 ?_;refine zs (zA (nT (zs ?_)));refine zA (nT (zs (zs ?_)));refine zA (nT (zb ?_));obtain ⟨F,s,o,r,j⟩:=a0m h;refine zM 0 [5] [] 0 (fun τ => ∃ k,o k=some l/\τ=⟨[(5,zi k)],[],21⟩) ?_ ?_
 ·refine zP s [1,5,8,9,10] [] 0 (fun (m,e)=>⟨[(1,(.func 98 [] [])),(5,zi m),(8,zl 3 b),(9,(.d (.int .i64 (A.len b)))),(10,zi e)],[],21⟩) ⟨rfl,zc⟩ ?_;rintro ⟨m,e⟩ B a;dsimp only [a7V] at a;refine zs (zA (nT (zs ?_)));rcases tf (A.zlt e (A.len b)) with g | g
  ·replace a:=cT g a;refine zT (zk (nT (zs (zb (zs ?_)))));obtain ⟨⟨w,y,z⟩,p,a⟩:=a0a a;obtain ⟨C,E⟩:=gtI p;refine zB (nT (zs (zn ?_))) { tk:=[13] };obtain ⟨u,q,a⟩:=a0a a;refine zD (c5e hA q) ?_;refine zF (nT ?_);obtain ⟨v,c,a⟩:=a0a a;refine zN [1,5,8,9,10] [] 0 (fun τ=>τ=⟨[(1,(.func 98 [] [])),(5,zi v),(8,zl 3 b),(9,(.d (.int .i64 (A.len b)))),(10,zi e)],[],21⟩) ?_ ?_
   ·rcases tf u with i | i
    ·replace c:=cT i c;refine zT ?_;refine zB ?_ { tk:=[18] };cases soI c;exact zO
    replace c:=cF i c;refine zU (zk ?_);cases soI c;exact zO
   rintro _ rfl;refine nB (nT (zA ?_));exact nT ⟨_,(soI a).symm,rfl,zc⟩
  replace a:=cF g a;refine zU (AWp.exit (xT (xT ?_)));refine exL a ?_;rintro rfl;exact oxI ⟨rfl,_,j,zv⟩
 rintro _ ⟨k,j,rfl⟩;have h:=(r _ j);refine xB (nT (zs (zA (nT (zr ?_)) { tk:=[5,20] })));cases soI h;exact zq

theorem c5f {A:Ar} (hA:SA A) {c d:Int} {a b:List D} (h:N99 A c d a=some b):a0e Tryz.prog 99 [.mref 0 1 c d] [(.arr 1 a)] (.own 1 b) [(.arr 1 a)]:=by
 unfold N99 at h;refine zI Tryz.func99 ?_;refine zs (zA (nT (zs (zs ?_))));refine zA (nT ?_);refine zU (zk (nT (zs ?_)));obtain ⟨_,g,h⟩:=a0a h;have k:=ckI g;obtain ⟨l,e,h⟩:=a0a h;obtain ⟨i,j⟩:=apI e;refine zB (nT (zr ?_)) { tk:=[7] };cases soI h;exact zq

theorem c5g {A:Ar} (hA:SA A) {g c e:List D} (h:N59 A g c=some e):a0e Tryz.prog 59 [.d (.agg g),zl 1 c] [] (.own 1 e) []:=by
 unfold N59 at h;refine zI Tryz.func59 ?_;refine zs ?_;obtain ⟨_,N,h⟩:=a0a h;have f3:=ckI N;refine zB (nT (zs ?_)) { arr:=[2] };refine zA (nT (zs ?_));refine zA (nT (zs (zs ?_)));refine zA (nT (zb ?_));obtain ⟨a1,V,v,S,k⟩:=a0m h;refine zM 0 [2,5,6] [] 1 (fun τ => ∃ p,v p=some e/\τ=⟨[(2,.ptr 0 0),(5,(.own 1 [])),(6,zi p)],[(.arr 1 g)],41⟩) ?_ ?_
 ·refine zP V [2,5,6,11,12,13] [] 1 (fun (s,o)=>⟨[(2,.ptr 0 0),(5,(.own 1 [])),(6,zi s),(11,zl 1 c),(12,(.d (.int .i64 (A.len c)))),(13,zi o)],[(.arr 1 g)],41⟩) ⟨rfl,zc⟩ ?_;rintro ⟨s,o⟩ a0 a;dsimp only [b2D] at a;refine zs (zA (nT (zs ?_)));rcases tf (A.zlt o (A.len c)) with i | i
  ·replace a:=cT i a;refine zT (zk (nT (zs (zb (zs ?_)))));obtain ⟨X,y,a⟩:=a0a a;obtain ⟨c0,d0⟩:=gtI y;refine zB (nT (zn ?_));obtain ⟨y0,z,a⟩:=a0a a;refine zD (b7O hA z) ?_;refine zF (nB (nT ?_));refine zB ?_;exact nT ⟨_,(soI a).symm,rfl,zv⟩
  replace a:=cF i a;refine zU (AWp.exit (xT (xT ?_)));refine exL a ?_;rintro rfl;exact oxI ⟨rfl,_,k,zv⟩
 rintro _ ⟨p,k,rfl⟩;have h:=(S _ k);refine xB (nT (zs (zs ?_)));refine zQ ?_;obtain ⟨_,B,h⟩:=a0a h;have e0:=ckI B;obtain ⟨_,C,h⟩:=a0a h;have g0:=ckI C;obtain ⟨_,E,h⟩:=a0a h;have i0:=ckI E;obtain ⟨_,F,h⟩:=a0a h;have j0:=ckI F;obtain ⟨z0,G,h⟩:=a0a h;refine a0W.cp hT hA {} rfl zu (c5f hA G) rfl rfl rfl rfl (lb rfl) rfl rfl ?_;obtain ⟨_,J,h⟩:=a0a h;have k0:=ckI J;obtain ⟨_,K,h⟩:=a0a h;have l0:=ckI K;obtain ⟨_,L,h⟩:=a0a h;have m0:=ckI L;obtain ⟨_,M,h⟩:=a0a h;have n0:=ckI M;obtain ⟨_,P,h⟩:=a0a h;have q0:=ckI P;obtain ⟨m,O,h⟩:=a0a h;obtain ⟨o0,p0⟩:=apI O;refine zJ ?_;refine nT (zb ?_);refine AWp.weak (Wk.ren [] [5,28,29,30] rfl rfl) ?_;obtain ⟨b1,W,w,U,l⟩:=a0m h;refine zM 2 [5] [] 0 (fun τ => ∃ r,w r=some e/\τ=⟨[(5,(.own 1 r))],[],41⟩) ?_ ?_
 ·refine zP W [5,28,29,30] [] 0 (fun (u,q)=>⟨[(5,(.own 1 u)),(28,(.own 1 m)),(29,(.d (.int .i64 (A.len m)))),(30,zi q)],[],41⟩) ⟨rfl,zc⟩ ?_;rintro ⟨u,q⟩ b0 b;dsimp only [b2E] at b;refine zs (zA (nT (zs ?_)));rcases tf (A.zlt q (A.len m)) with j | j
  ·replace b:=cT j b;refine zT (zk (nT (zs (zb (zs ?_)))));obtain ⟨Y,Q,b⟩:=a0a b;obtain ⟨r0,s0⟩:=gtI Q;refine zB (nT ?_);obtain ⟨w0,R,b⟩:=a0a b;obtain ⟨u0,v0⟩:=apI R;refine zB (nB (nT ?_)) { tk:=[5,38] };refine zB ?_;exact nT ⟨_,(soI b).symm,rfl,zv⟩
  replace b:=cF j b;refine zU (AWp.exit (xT (xT ?_)));refine exL b ?_;rintro rfl;exact oxI ⟨rfl,_,l,zv⟩
 rintro _ ⟨r,l,rfl⟩;have h:=(U _ l);refine xB (nT (zs (zA (nT (zr ?_)) { tk:=[5,40] })));cases soI h;exact zq

theorem c3d {A:Ar} (hA:SA A) {b:List D} {k j:Int} (h:b9J A b k=some j):a0e Tryz.prog 156 [.d (.agg b),zi k] [] (zi j) []:=by
 unfold b9J at h;refine zI Tryz.func156 ?_;refine zs ?_;obtain ⟨_,s,h⟩:=a0a h;have E:=ckI s;refine zB (nT (zs ?_)) { arr:=[2] };refine zA (nT (zs (zb ?_)));obtain ⟨F,v,l,u,e⟩:=a0m h;refine zM 0 [5] [] 1 (fun τ => ∃ i,l i=some j/\τ=⟨[(5,zi i)],[(.arr 1 b)],17⟩) ?_ ?_
 ·refine zP v [1,2,5] [] 1 (fun g=>⟨[(1,zi k),(2,.ptr 0 0),(5,zi g)],[(.arr 1 b)],17⟩) ⟨rfl,zc⟩ ?_;rintro g w a;dsimp only [b0g] at a;refine zs (zs ?_);obtain ⟨_,o,a⟩:=a0a a;have y:=ckI o;obtain ⟨_,p,a⟩:=a0a a;have z:=ckI p;obtain ⟨m,q,a⟩:=a0a a;have B:=gcI q;obtain ⟨_,r,a⟩:=a0a a;have C:=nkI r;refine zB (nT ?_);rcases tf (A.zeq (A.bits .and .u8 (A.shr .u8 m g) 1) 1) with c | c
  ·replace a:=cT c a;refine zT (zk (nT (zb ?_)));refine zB (nB ?_) { tk:=[15] };exact nT ⟨_,(soI a).symm,rfl,zv⟩
  replace a:=cF c a;refine zU (AWp.exit (xT (xT ?_)));refine exL a ?_;rintro rfl;exact oxI ⟨rfl,_,e,zv⟩
 rintro _ ⟨i,e,rfl⟩;have h:=(u _ e);refine xB (nT (zs (zA (nT (zr ?_)) { tk:=[5,16] })));cases soI h;exact zq

theorem c3e {A:Ar} (hA:SA A) {l:List D} {m o j:Int} (h:b9K A l m o=some j):a0e Tryz.prog 159 [zl 1 l,zi m,zi o] [] (zi j) []:=by
 unfold b9K at h;refine zI Tryz.func159 ?_;refine zs (zA (nT (zs (zn ?_))));obtain ⟨C,v,h⟩:=a0a h;obtain ⟨R,S⟩:=gtI v;obtain ⟨U,w,h⟩:=a0a h;obtain ⟨F,G,J,K⟩:=slI w;obtain ⟨V,q,h⟩:=a0a h;refine zD (b7O hA q) ?_ { tk:=[16] };refine zF (nT (zs (zs ?_))) { tk:=[16] };obtain ⟨e,r,h⟩:=a0a h;obtain ⟨L,M,N,O⟩:=slI r;refine zB (nT (zb ?_));obtain ⟨X,z,p,y,c⟩:=a0m h;refine zM 0 [7] [] 0 (fun τ => ∃ i,p i=some j/\τ=⟨[(7,zi i)],[],31⟩) ?_ ?_
 ·refine zP z [7,19,20,21] [] 0 (fun (k,g)=>⟨[(7,zi k),(19,zl 1 e),(20,(.d (.int .i64 (A.len e)))),(21,zi g)],[],31⟩) ⟨rfl,zc⟩ ?_;rintro ⟨k,g⟩ E a;dsimp only [a7W] at a;refine zs (zA (nT (zs ?_)));rcases tf (A.zlt g (A.len e)) with b | b
  ·replace a:=cT b a;refine zT (zk (nT (zs (zb (zs ?_)))));obtain ⟨B,s,a⟩:=a0a a;obtain ⟨P,Q⟩:=gtI s;refine zB (nT (zn ?_));obtain ⟨W,u,a⟩:=a0a a;refine zD (b7O hA u) ?_ { tk:=[28] };refine zF (nB (nT ?_)) { tk:=[28] };refine zB ?_;exact nT ⟨_,(soI a).symm,rfl,zv⟩
  replace a:=cF b a;refine zU (AWp.exit (xT (xT ?_)));refine exL a ?_;rintro rfl;exact oxI ⟨rfl,_,c,zv⟩
 rintro _ ⟨i,c,rfl⟩;have h:=(y _ c);refine xB (nT (zs (zA (nT (zr ?_)) { tk:=[7,30] })));cases soI h;exact zq

theorem c0e {A:Ar} (hA:SA A) {j k:List D} {l m:Int} {i:List D} (h:b9v A j k l m=some i):a0e Tryz.prog 158 [.d (.agg j),zl 1 k,zi l,zi m] [] (.d (.agg i)) []:=by
 unfold b9v at h;refine zI Tryz.func158 ?_;refine zs ?_;obtain ⟨_,J,h⟩:=a0a h;have f5:=ckI J;refine zB (nT (zs ?_)) { arr:=[4,8] };obtain ⟨_,O,h⟩:=a0a h;have f9:=ckI O;obtain ⟨_,P,h⟩:=a0a h;have i0:=ckI P;obtain ⟨S,o,h⟩:=a0a h;have j0:=gcI o;obtain ⟨_,p,h⟩:=a0a h;have k0:=nkI p;obtain ⟨_,q,h⟩:=a0a h;have l0:=ckI q;obtain ⟨_,r,h⟩:=a0a h;have m0:=ckI r;obtain ⟨Y,d0,h⟩:=a0a h;refine zH ?_ { tk:=[16] };refine nT (zs (zs ?_));obtain ⟨U,s,h⟩:=a0a h;obtain ⟨n0,o0⟩:=gtI s;obtain ⟨⟨g,V,W⟩,u,h⟩:=a0a h;obtain ⟨p0,q0⟩:=gtI u;refine zB (nT (zs ?_)) { tk:=[25] };refine zA (nT (zb (zs ?_)));refine zA (nT ?_);obtain ⟨R,a,h⟩:=a0a h;refine zN [4,8] [] 2 (fun τ=>τ=⟨[(4,.ptr 0 0),(8,.ptr 1 0)],[(.arr 1 R),(.arr 1 (zz0))],51⟩) ?_ ?_
 ·rcases tf (A.zeq g 1) with c | c
  ·replace a:=cT c a;refine zT ?_;refine zQ ?_;obtain ⟨k1,v,a⟩:=a0a a;refine a0W.c0 hT hA { tk:=[38] } rfl zu (c3e hA v) rfl rfl (lb rfl) rfl rfl ?_;obtain ⟨_,w,a⟩:=a0a a;have r0:=ckI w;obtain ⟨_,y,a⟩:=a0a a;have s0:=ckI y;obtain ⟨X,z,a⟩:=a0a a;have u0:=gcI z;obtain ⟨_,B,a⟩:=a0a a;have v0:=ckI B;obtain ⟨_,C,a⟩:=a0a a;have w0:=ckI C;obtain ⟨a0,e0,a⟩:=a0a a;refine zJ ?_ { tk:=[38] };cases soI a;exact zO
  replace a:=cF c a;refine zU (zs ?_);refine zB (nT ?_);obtain ⟨Q,b,a⟩:=a0a a;refine zN [4,8] [] 2 (fun τ=>τ=⟨[(4,.ptr 0 0),(8,.ptr 1 0)],[(.arr 1 Q),(.arr 1 (zz0))],51⟩) ?_ ?_
  ·rcases tf (A.zeq g 2) with e | e
   ·replace b:=cT e b;refine zT ?_;obtain ⟨_,E,b⟩:=a0a b;have y0:=ckI E;obtain ⟨_,F,b⟩:=a0a b;have z0:=ckI F;obtain ⟨b0,g0,b⟩:=a0a b;refine zB ?_ { tk:=[47] };cases soI b;exact zO
   replace b:=cF e b;refine zU (zk ?_);cases soI b;exact zO
  rintro _ rfl;cases soI a;exact zO
 rintro _ rfl;refine nB (nT (zs ?_));obtain ⟨j1,G,h⟩:=a0a h;obtain ⟨a1,b1,c1⟩:=gaI G;obtain ⟨_,L,h⟩:=a0a h;have e1:=ckI L;obtain ⟨_,K,h⟩:=a0a h;have d1:=ckI K;refine zB (nT ?_) { tk:=[50] };obtain ⟨_,M,h⟩:=a0a h;have g1:=ckI M;obtain ⟨_,N,h⟩:=a0a h;have i1:=ckI N;refine zr ?_;cases soI h;exact ⟨(rs1 (c3k rfl rfl rfl rfl (lnN hA (by assumption)) (onN hA (by assumption)))),rfl,rfl,lb rfl,_,rfl⟩

theorem c3Z {A:Ar} (hA:SA A) {g:List D} {i:List (D×D)} {c j:List D} {m:List (D×D)} {o:List D} (h:N60 A g i c j=some (m,o)):a0e Tryz.prog 60 [.d (.agg g),.ptr 0 0,.ptr 2 0] [(.cells [(.map 1)]),(.map true (zz1) i),.cells [.gref 7 41],.dead,.dead,.dead,(.arr 1 c),.gro 41 j,.dead,.dead] (.tuple []) [(.cells [(.map 1)]),(.map true (zz1) m),.cells [.gref 10 41],.dead,.dead,.dead,(.arr 1 c),.dead,.dead,.dead,.gro 41 o,.dead,.dead]:=by
 unfold N60 at h;refine zI Tryz.func60 ?_;refine zs ?_;obtain ⟨_,v,h⟩:=a0a h;have P:=ckI v;refine zB (nT (zs ?_)) { arr:=[3] };obtain ⟨l,b,h⟩:=a0a h;refine AWp.cutW (fun τ=>τ=⟨[(1,.ptr 0 0),(2,.ptr 2 0),(3,.ptr 10 0),(5,.d (.bool l))],[(.cells [(.map 1)]),(.map true (zz1) i),.cells [.gref 7 41],.dead,.dead,.dead,(.arr 1 c),.gro 41 j,.dead,.dead,(.arr 1 g)],21⟩) ?_ ?_
 ·obtain ⟨S,w,b⟩:=a0a b;obtain ⟨Q,R,E⟩:=gaI w;obtain ⟨_,p,b⟩:=a0a b;have F:=ckI p;obtain ⟨z,k,b⟩:=a0a b;rcases z with _ | _
  ·have y:=lkN k;replace b:=noE b;refine zB ?_ { tk:=[10] };cases soI b;exact oWi ⟨_,zR zy2 [1,2,3,5],rfl⟩
  have y:=lkS k;replace b:=soE b;refine zB ?_ { tk:=[10] };cases soI b;exact oWi ⟨_,zR zy2 [1,2,3,5],rfl⟩
 rintro _ rfl;refine nT (zs (zA (nT ?_)));obtain ⟨⟨B,C⟩,a,h⟩:=a0a h;refine AWp.cutW (fun τ=>τ=⟨[],[(.cells [(.map 1)]),(.map true (zz1) B),.cells [.gref 10 41],.dead,.dead,.dead,(.arr 1 c),.dead,.dead,.dead,.gro 41 C,.dead,.dead],21⟩) ?_ ?_
 ·rcases tf l with e | e
  ·replace a:=cT e a;refine zU (zk ?_);cases soI a;exact oWi ⟨_,zR [some 0,some 1,some 2,some 3,some 4,some 5,some 6,none,none,none,some 7,some 8,some 9] [],rfl⟩
  replace a:=cF e a;refine zT (zs ?_);obtain ⟨U,q,a⟩:=a0a a;obtain ⟨G,J,K⟩:=gaI q;obtain ⟨_,r,a⟩:=a0a a;have L:=ckI r;refine zB (nT ?_);obtain ⟨_,s,a⟩:=a0a a;have M:=ckI s;obtain ⟨V,u,a⟩:=a0a a;obtain ⟨N,O⟩:=apI u;refine zB ?_ { tk:=[17,20] };cases soI a;exact oWi ⟨_,(Wk.trans (Wk.settle 2 0 rfl rfl rfl) (zR [some 0,some 1,some 2,some 3,some 4,some 5,some 6,some 7,some 8,some 9,some 11,some 12,some 13] [])),rfl⟩
 rintro _ rfl;cases soI h;exact zq

theorem c3f {A:Ar} (hA:SA A) {k m:List D} {w:List (D×D)} {y:List D} {r:List (D×D)} {s:List D} (h:b9L A k m w y=some (r,s)):a0e Tryz.prog 157 [.d (.agg []),zl 1 k,.d (.agg m),(.func 60 [] [.ptr 0 0,.ptr 2 0])] [(.cells [(.map 1)]),(.map true (zz1) w),.cells [.gref 3 41],.gro 41 y,.dead,.dead] (.tuple []) [(.cells [(.map 1)]),(.map true (zz1) r),.cells [.gref 6 41],.dead,.dead,.dead,.gro 41 s,.dead,.dead]:=by
 unfold b9L at h;refine zI Tryz.func157 ?_;refine zs ?_;obtain ⟨_,K,h⟩:=a0a h;have N:=ckI K;refine zA ?_ { arr:=[6] } (h:=(by (repeat (cbv;simp only [N]));try cbv))
 refine nT (zs (zA (nT (zb ?_))));refine AWp.weak (Wk.ren [some 0,some 1,some 2,none,none,none,some 6,some 3,some 4,some 5] [1,3,6,11,12] rfl rfl) ?_;obtain ⟨a0,P,z,O,o⟩:=a0m h;refine AWp.cutXW 0 (fun τ => ∃ p q,z (p,q)=some (r,s)/\τ=⟨[],[(.cells [(.map 1)]),(.map true (zz1) p),.cells [.gref 6 41],.dead,.dead,.dead,.gro 41 q,.dead,.dead],33⟩) ?_ ?_
 ·refine AWp.iterW P (fun (l,u,v)=>⟨[(1,zl 1 k),(3,(.func 60 [] [.ptr 0 0,.ptr 2 0])),(6,.ptr 6 0),(11,(.d (.int .i64 (A.len k)))),(12,zi l)],[(.cells [(.map 1)]),(.map true (zz1) u),.cells [.gref 7 41],.dead,.dead,.dead,(.arr 1 m),.gro 41 v,.dead,.dead],33⟩) ⟨_,zR zy3 [1,3,6,11,12],rfl⟩ ?_;rintro ⟨l,u,v⟩ U g;dsimp only [a7X] at g;refine zs (zA (nT (zs ?_)));rcases tf (A.zlt l (A.len k)) with a | a
  ·replace g:=cT a g;refine zT ?_ (hb:=(by first | rfl | simp only [a,zqa,zqb,zqc,zqd]))
   refine zk (nT (zs (zb (zs ?_))));refine zA ?_ (h:=(by (repeat (cbv;simp only [a]));try cbv))
   refine nT (zs (zn ?_));obtain ⟨V,C,g⟩:=a0a g;obtain ⟨b,c,e⟩:=gaI C;obtain ⟨Q,E,g⟩:=a0a g;refine zC (c3d hA E) ?_ (h:=(by (repeat (cbv;simp only [a,b,c,e,b,c,e]));try cbv))
   refine zE ?_ (h:=(by (repeat (cbv;simp only [a,b,c,e,b,c,e]));try cbv))
   refine nT (zs ?_);obtain ⟨B,F,g⟩:=a0a g;obtain ⟨L,M⟩:=gtI F;refine zA ?_ (h:=(by (repeat (cbv;simp only [a,b,c,e,L,M]));try cbv))
   refine nT ?_;obtain ⟨⟨R,S⟩,j,g⟩:=a0a g;refine AWp.cutW (fun τ=>τ=⟨[(1,zl 1 k),(3,(.func 60 [] [.ptr 0 0,.ptr 2 0])),(6,.ptr 6 0),(11,(.d (.int .i64 (A.len k)))),(12,zi l)],[(.cells [(.map 1)]),(.map true (zz1) R),.cells [.gref 7 41],.dead,.dead,.dead,(.arr 1 m),.gro 41 S,.dead,.dead],33⟩) ?_ ?_
   ·rcases tf (A.zlt Q (A.len B)) with i | i
    ·replace j:=cT i j;refine zT ?_ (hb:=(by first | rfl | simp only [a,b,c,e,i,zqa,zqb,zqc,zqd]))
     refine zn ?_;obtain ⟨W,G,j⟩:=a0a j;refine zC (c0e hA G) ?_ (h:=(by (repeat (cbv;simp only [a,b,c,e,i,b,c,e]));try cbv))
     obtain ⟨⟨X,Y⟩,J,j⟩:=a0a j;refine zC (c3Z hA J) ?_ (h:=(by (repeat (cbv;simp only [a,b,c,e,i,b,c,e]));try cbv))
     refine zE ?_ (h:=(by (repeat (cbv;simp only [a,b,c,e,i,b,c,e]));try cbv))
     cases soI j;exact oWi ⟨_,(zR zy1 [1,3,6,11,12] (h:=(by first | (cbv;done) | ((repeat (cbv;simp only [a,b,c,e,i]));try cbv)))),rfl⟩
    replace j:=cF i j;refine zU ?_ (hb:=(by first | rfl | simp only [a,b,c,e,i,zqa,zqb,zqc,zqd]))
    refine zk ?_;cases soI j;exact oWi ⟨_,(zR zy3 [1,3,6,11,12] (h:=(by first | (cbv;done) | ((repeat (cbv;simp only [a,b,c,e,i]));try cbv)))),rfl⟩
   rintro _ rfl;refine nB (nT (zA ?_));exact nT ⟨_,(soI g).symm,_,zR zy3 [1,3,6,11,12],rfl⟩
  replace g:=cF a g;refine zU ?_ (hb:=(by first | rfl | simp only [a,zqa,zqb,zqc,zqd]))
  refine AWp.exit (xT (xT ?_));refine exL g ?_;rintro rfl;exact b1i ⟨_,(zR zy6 [] (h:=(by first | (cbv;done) | ((repeat (cbv;simp only [a]));try cbv)))),_,_,o,rfl⟩
 rintro _ ⟨p,q,o,rfl⟩;have h:=(O _ o);refine xB ?_;cases soI h;exact zq

theorem c3g {A:Ar} (hA:SA A) {c r:List D} {x3:List (D×D)} {x4:List D} {X:List (D×D)} {Y:List D} (h:b9M A c r x3 x4=some (X,Y)):a0e Tryz.prog 163 [.d (.agg []),zl 1 c,.d (.agg r),(.func 60 [] [.ptr 0 0,.ptr 2 0])] [(.cells [(.map 1)]),(.map true (zz1) x3),.cells [.gref 3 41],.gro 41 x4,.dead,.dead] (.tuple []) [(.cells [(.map 1)]),(.map true (zz1) X),.cells [.gref 6 41],.dead,.dead,.dead,.gro 41 Y,.dead,.dead]:=by
 unfold b9M at h;refine zI Tryz.func163 ?_;refine zs ?_;obtain ⟨_,e6,h⟩:=a0a h;have f5:=ckI e6;refine zA ?_ { arr:=[6] } (h:=(by (repeat (cbv;simp only [f5]));try cbv))
 refine nT (zs (zA (nT (zb ?_))));refine AWp.weak (Wk.ren [some 0,some 1,some 2,none,none,none,some 6,some 3,some 4,some 5] [1,3,6,16,17] rfl rfl) ?_;obtain ⟨v2,d2,j0,a2,R⟩:=a0m h;refine AWp.cutXW 0 (fun τ => ∃ V W,j0 (V,W)=some (X,Y)/\τ=⟨[],[(.cells [(.map 1)]),(.map true (zz1) V),.cells [.gref 6 41],.dead,.dead,.dead,.gro 41 W,.dead,.dead],91⟩) ?_ ?_
 ·refine AWp.iterW d2 (fun (e,c0,d0)=>⟨[(1,zl 1 c),(3,(.func 60 [] [.ptr 0 0,.ptr 2 0])),(6,.ptr 6 0),(16,(.d (.int .i64 (A.len c)))),(17,zi e)],[(.cells [(.map 1)]),(.map true (zz1) c0),.cells [.gref 7 41],.dead,.dead,.dead,(.arr 1 r),.gro 41 d0,.dead,.dead],91⟩) ⟨_,zR zy3 [1,3,6,16,17],rfl⟩ ?_;rintro ⟨e,c0,d0⟩ d1 m;dsimp only [a7Z] at m;refine zs (zA (nT (zs ?_)));rcases tf (A.zlt e (A.len c)) with s | s
  ·replace m:=cT s m;refine zT ?_ (hb:=(by first | rfl | simp only [s,zqa,zqb,zqc,zqd]))
   refine zk (nT (zs (zb (zs ?_))));refine zA ?_ (h:=(by (repeat (cbv;simp only [s]));try cbv))
   refine nT (zs ?_);obtain ⟨g,l0,m⟩:=a0a m;obtain ⟨a0,b0⟩:=gtI l0;refine zA ?_ (h:=(by (repeat (cbv;simp only [s,a0,b0]));try cbv))
   refine nT (zb ?_);obtain ⟨u2,c2,i0,z1,Q⟩:=a0m m;refine AWp.cutXW 2 (fun τ => ∃ S U,i0 (S,U)=some d1/\τ=⟨[(1,zl 1 c),(3,(.func 60 [] [.ptr 0 0,.ptr 2 0])),(6,.ptr 6 0),(16,(.d (.int .i64 (A.len c)))),(17,zi e)],[(.cells [(.map 1)]),(.map true (zz1) S),.cells [.gref 7 41],.dead,.dead,.dead,(.arr 1 r),.gro 41 U,.dead,.dead],91⟩) ?_ ?_
   ·refine AWp.iterW c2 (fun (l,F,G)=>⟨[(1,zl 1 c),(3,(.func 60 [] [.ptr 0 0,.ptr 2 0])),(6,.ptr 6 0),(8,zi e),(16,(.d (.int .i64 (A.len c)))),(17,zi e),(23,zl 3 g),(24,(.d (.int .i64 (A.len g)))),(25,zi l)],[(.cells [(.map 1)]),(.map true (zz1) F),.cells [.gref 7 41],.dead,.dead,.dead,(.arr 1 r),.gro 41 G,.dead,.dead],91⟩) ⟨_,zR zy3 [1,3,6,8,16,17,23,24,25] (h:=(by first | (cbv;done) | ((repeat (cbv;simp only [s]));try cbv))),rfl⟩ ?_
    rintro ⟨l,F,G⟩ c1 a;dsimp only [a7Y] at a;refine zs (zA (nT (zs ?_)));rcases tf (A.zlt l (A.len g)) with p | p
    ·replace a:=cT p a;refine zT ?_ (hb:=(by first | rfl | simp only [p,zqa,zqb,zqc,zqd]))
     refine zk (nT (zs (zb (zs ?_))));obtain ⟨⟨K,N,O⟩,m0,a⟩:=a0a a;obtain ⟨e1,g1⟩:=gtI m0;refine zA ?_ { tk:=[29] } (h:=(by (repeat (cbv;simp only [p,e1,g1]));try cbv))
     refine nT (zs ?_);obtain ⟨_,n0,a⟩:=a0a a;have i1:=ckI n0;obtain ⟨_,o0,a⟩:=a0a a;have j1:=ckI o0;obtain ⟨j2,p0,a⟩:=a0a a;have k1:=gcI p0;obtain ⟨_,q0,a⟩:=a0a a;have l1:=nkI q0;refine zA ?_ (h:=(by (repeat (cbv;simp only [p,i1,j1,k1,l1]));try cbv))
     refine nT (zs (zs ?_));obtain ⟨E,r0,a⟩:=a0a a;obtain ⟨m1,n1,o1,p1⟩:=slI r0;refine zA ?_ (h:=(by (repeat (cbv;simp only [p,a0,b0,m1,n1,o1,p1]));try cbv))
     refine nT (zb ?_);obtain ⟨s2,b2,g0,y1,P⟩:=a0m a;refine AWp.cutXW 4 (fun τ => ∃ M,g0 M=some c1/\τ=⟨[(1,zl 1 c),(3,(.func 60 [] [.ptr 0 0,.ptr 2 0])),(6,.ptr 6 0),(8,zi e),(9,zi l),(11,.d (.bool M)),(16,(.d (.int .i64 (A.len c)))),(17,zi e),(23,zl 3 g),(24,(.d (.int .i64 (A.len g)))),(25,zi l)],[(.cells [(.map 1)]),(.map true (zz1) F),.cells [.gref 7 41],.dead,.dead,.dead,(.arr 1 r),.gro 41 G,.dead,.dead],91⟩) ?_ ?_
     ·refine AWp.iterW b2 (fun (L,J)=>⟨[(1,zl 1 c),(3,(.func 60 [] [.ptr 0 0,.ptr 2 0])),(6,.ptr 6 0),(8,zi e),(9,zi l),(10,(.lbox [zi K,zi N,zi O])),(11,.d (.bool L)),(16,(.d (.int .i64 (A.len c)))),(17,zi e),(23,zl 3 g),(24,(.d (.int .i64 (A.len g)))),(25,zi l),(43,zl 3 E),(44,(.d (.int .i64 (A.len E)))),(45,zi J)],[(.cells [(.map 1)]),(.map true (zz1) F),.cells [.gref 7 41],.dead,.dead,.dead,(.arr 1 r),.gro 41 G,.dead,.dead],91⟩) ⟨_,zR zy3 [1,3,6,8,9,10,11,16,17,23,24,25,43,44,45] (h:=(by first | (cbv;done) | ((repeat (cbv;simp only [p]));try cbv))),rfl⟩ ?_
      rintro ⟨L,J⟩ n2 j;dsimp only [a6z] at j;refine zs (zA (nT (zs ?_)));rcases tf (A.zlt J (A.len E)) with i | i
      ·replace j:=cT i j;refine zT ?_ (hb:=(by first | rfl | simp only [i,zqa,zqb,zqc,zqd]))
       refine zk (nT (zs (zb (zs ?_))));obtain ⟨⟨k0,k2,l2⟩,s0,j⟩:=a0a j;obtain ⟨q1,r1⟩:=gtI s0;refine zA ?_ { tk:=[49] } (h:=(by (repeat (cbv;simp only [i,q1,r1]));try cbv))
       refine nT (zs ?_);obtain ⟨e0,o,j⟩:=a0a j;refine AWp.cutW (fun τ=>τ=⟨[(1,zl 1 c),(3,(.func 60 [] [.ptr 0 0,.ptr 2 0])),(6,.ptr 6 0),(8,zi e),(9,zi l),(10,(.lbox [zi K,zi N,zi O])),(11,.d (.bool L)),(12,zi J),(14,.d (.bool e0)),(16,(.d (.int .i64 (A.len c)))),(17,zi e),(23,zl 3 g),(24,(.d (.int .i64 (A.len g)))),(25,zi l),(43,zl 3 E),(44,(.d (.int .i64 (A.len E)))),(45,zi J)],[(.cells [(.map 1)]),(.map true (zz1) F),.cells [.gref 7 41],.dead,.dead,.dead,(.arr 1 r),.gro 41 G,.dead,.dead],91⟩) ?_ ?_
       ·rcases tf (A.zeq K 3) with u | u
        ·replace o:=cT u o;refine zA ?_ (h:=(by (repeat (cbv;simp only [i,u]));try cbv))
         cases soI o;exact oWi ⟨_,(zR zy3 [1,3,6,8,9,10,11,12,14,16,17,23,24,25,43,44,45] (h:=(by first | (cbv;done) | ((repeat (cbv;simp only [i,u]));try cbv)))),rfl⟩
        replace o:=cF u o;rcases tf (A.zeq k0 3) with w | w
        ·replace o:=cT w o;refine zA ?_ (h:=(by (repeat (cbv;simp only [i,u,w]));try cbv))
         cases soI o;exact oWi ⟨_,(zR zy3 [1,3,6,8,9,10,11,12,14,16,17,23,24,25,43,44,45] (h:=(by first | (cbv;done) | ((repeat (cbv;simp only [i,u,w]));try cbv)))),rfl⟩
        replace o:=cF w o;refine zA ?_ (h:=(by (repeat (cbv;simp only [i,u,w]));try cbv))
        cases soI o;exact oWi ⟨_,(zR zy3 [1,3,6,8,9,10,11,12,14,16,17,23,24,25,43,44,45] (h:=(by first | (cbv;done) | ((repeat (cbv;simp only [i,u,w]));try cbv)))),rfl⟩
       rintro _ rfl;refine nT ?_;obtain ⟨e2,b,j⟩:=a0a j;refine AWp.cutW (fun τ=>τ=⟨[(1,zl 1 c),(3,(.func 60 [] [.ptr 0 0,.ptr 2 0])),(6,.ptr 6 0),(8,zi e),(9,zi l),(10,(.lbox [zi K,zi N,zi O])),(11,.d (.bool e2)),(16,(.d (.int .i64 (A.len c)))),(17,zi e),(23,zl 3 g),(24,(.d (.int .i64 (A.len g)))),(25,zi l),(43,zl 3 E),(44,(.d (.int .i64 (A.len E)))),(45,zi J)],[(.cells [(.map 1)]),(.map true (zz1) F),.cells [.gref 7 41],.dead,.dead,.dead,(.arr 1 r),.gro 41 G,.dead,.dead],91⟩) ?_ ?_
       ·rcases tf L with v | v
        ·replace b:=cT v b;rcases tf e0 with y | y
         ·replace b:=cT y b;obtain ⟨_,u0,b⟩:=a0a b;have s1:=ckI u0;obtain ⟨_,v0,b⟩:=a0a b;have u1:=ckI v0;obtain ⟨m2,w0,b⟩:=a0a b;have v1:=gcI w0;obtain ⟨_,y0,b⟩:=a0a b;have w1:=nkI y0;refine zA ?_ (h:=(by (repeat (cbv;simp only [v,y,s1,u1,v1,w1]));try cbv))
          cases soI b;exact oWi ⟨_,(zR zy3 [1,3,6,8,9,10,11,16,17,23,24,25,43,44,45] (h:=(by first | (cbv;done) | ((repeat (cbv;simp only [v,y]));try cbv)))),rfl⟩
         replace b:=cF y b;refine zA ?_ (h:=(by (repeat (cbv;simp only [v,y]));try cbv))
         cases soI b;exact oWi ⟨_,(zR zy3 [1,3,6,8,9,10,11,16,17,23,24,25,43,44,45] (h:=(by first | (cbv;done) | ((repeat (cbv;simp only [v,y]));try cbv)))),rfl⟩
        replace b:=cF v b;refine zA ?_ (h:=(by (repeat (cbv;simp only [v]));try cbv))
        cases soI b;exact oWi ⟨_,(zR zy3 [1,3,6,8,9,10,11,16,17,23,24,25,43,44,45] (h:=(by first | (cbv;done) | ((repeat (cbv;simp only [v]));try cbv)))),rfl⟩
       rintro _ rfl;refine nB (nT (zA ?_));exact nT ⟨_,(soI j).symm,_,zR zy3 [1,3,6,8,9,10,11,16,17,23,24,25,43,44,45],rfl⟩
      replace j:=cF i j;refine zU ?_ (hb:=(by first | rfl | simp only [i,zqa,zqb,zqc,zqd]))
      refine AWp.exit (xT (xT ?_));refine exL j ?_;rintro rfl;exact b1i ⟨_,(zR zy3 [1,3,6,8,9,11,16,17,23,24,25] (h:=(by first | (cbv;done) | ((repeat (cbv;simp only [i]));try cbv)))),_,P,rfl⟩
     rintro _ ⟨M,P,rfl⟩;have a:=(y1 _ P);refine xB (nT (zs (zA (nT ?_))));obtain ⟨⟨g2,i2⟩,k,a⟩:=a0a a;refine AWp.cutW (fun τ=>τ=⟨[(1,zl 1 c),(3,(.func 60 [] [.ptr 0 0,.ptr 2 0])),(6,.ptr 6 0),(8,zi e),(16,(.d (.int .i64 (A.len c)))),(17,zi e),(23,zl 3 g),(24,(.d (.int .i64 (A.len g)))),(25,zi l)],[(.cells [(.map 1)]),(.map true (zz1) g2),.cells [.gref 7 41],.dead,.dead,.dead,(.arr 1 r),.gro 41 i2,.dead,.dead],91⟩) ?_ ?_
     ·rcases tf M with q | q
      ·replace k:=cT q k;refine zT ?_ (hb:=(by first | rfl | simp only [q,zqa,zqb,zqc,zqd]))
       refine zn ?_;obtain ⟨o2,z0,k⟩:=a0a k;obtain ⟨z,B,C⟩:=gaI z0;obtain ⟨p2,a1,k⟩:=a0a k;refine zC (c0e hA a1) ?_ (h:=(by (repeat (cbv;simp only [q,z,B,C,z,B,C]));try cbv))
       obtain ⟨⟨q2,r2⟩,b1,k⟩:=a0a k;refine zC (c3Z hA b1) ?_ (h:=(by (repeat (cbv;simp only [q,z,B,C,z,B,C]));try cbv))
       refine zE ?_ (h:=(by (repeat (cbv;simp only [q,z,B,C,z,B,C]));try cbv))
       cases soI k;exact oWi ⟨_,(zR zy1 [1,3,6,8,16,17,23,24,25] (h:=(by first | (cbv;done) | ((repeat (cbv;simp only [q,z,B,C]));try cbv)))),rfl⟩
      replace k:=cF q k;refine zU ?_ (hb:=(by first | rfl | simp only [q,zqa,zqb,zqc,zqd]))
      refine zk ?_;cases soI k;exact oWi ⟨_,(zR zy3 [1,3,6,8,16,17,23,24,25] (h:=(by first | (cbv;done) | ((repeat (cbv;simp only [q]));try cbv)))),rfl⟩
     rintro _ rfl;refine nB (nT (zA ?_));exact nT ⟨_,(soI a).symm,_,zR zy3 [1,3,6,8,16,17,23,24,25],rfl⟩
    replace a:=cF p a;refine zU ?_ (hb:=(by first | rfl | simp only [p,zqa,zqb,zqc,zqd]))
    refine AWp.exit (xT (xT ?_));refine exL a ?_;rintro rfl;exact b1i ⟨_,(zR zy3 [1,3,6,16,17] (h:=(by first | (cbv;done) | ((repeat (cbv;simp only [p]));try cbv)))),_,_,Q,rfl⟩
   rintro _ ⟨S,U,Q,rfl⟩;have m:=(z1 _ Q);refine xB (nB (nT (zA ?_)));exact nT ⟨_,(soI m).symm,_,zR zy3 [1,3,6,16,17],rfl⟩
  replace m:=cF s m;refine zU ?_ (hb:=(by first | rfl | simp only [s,zqa,zqb,zqc,zqd]))
  refine AWp.exit (xT (xT ?_));refine exL m ?_;rintro rfl;exact b1i ⟨_,(zR zy6 [] (h:=(by first | (cbv;done) | ((repeat (cbv;simp only [s]));try cbv)))),_,_,R,rfl⟩
 rintro _ ⟨V,W,R,rfl⟩;have h:=(a2 _ R);refine xB ?_;cases soI h;exact zq

theorem c5h {A:Ar} (hA:SA A) {a b:Int} {d r:List D} (h:N61 A a b d=some r):a0e Tryz.prog 61 [.mref 0 1 a b,(.func 62 [] [])] [(.arr 1 d)] (.tuple []) [(.arr 1 r)] :=
 a0e.sortOne Tryz.sort61 rfl (c:=(cL 1)) (fun _=>rfl) (g:=62) (caps:=[]) rfl (fun _ _ _ h=>c3X hA h) rfl rfl h (i:=0) rfl rfl

theorem c4a {A:Ar} (hA:SA A) {c e:List D} {l:Bool} (h:N64 A c e=some l):a0e Tryz.prog 64 [zl 1 c,zl 1 e] [] (.d (.bool l)) []:=by
 unfold N64 at h;refine zI Tryz.func64 ?_;refine zs (zA (nT (zs (zs ?_))));refine zA (nT ?_);rcases tf (A.zeq (A.len c) (A.len e)) with j | j
 ·replace h:=cT j h;refine zU (zk (nT (zs (zs ?_))));refine zB (nT (zb ?_));obtain ⟨C,u,o,m,b⟩:=a0m h;refine zM 0 [] [] 0 (fun τ=>o (.inl ())=some l/\τ=⟨[],[],26⟩) ?_ ?_
  ·refine zP u [0,1,12,13] [] 0 (fun k=>⟨[(0,zl 1 c),(1,zl 1 e),(12,(.d (.int .i64 (A.len c)))),(13,zi k)],[],26⟩) ⟨rfl,zv⟩ ?_;rintro k v a;dsimp only [b2F] at a;refine zs (zA (nT (zs ?_)));rcases tf (A.zlt k (A.len c)) with g | g
   ·replace a:=cT g a;refine zT (zk (nT (zs (zb (zs ?_)))));refine zB (nT (zs ?_));obtain ⟨p,r,a⟩:=a0a a;obtain ⟨w,y⟩:=gtI r;obtain ⟨q,s,a⟩:=a0a a;obtain ⟨z,B⟩:=gtI s;refine zH ?_;refine nT ?_;rcases tf (A.zeq p q) with i | i
    ·replace a:=cT i a;refine zU (zk (nB (nT ?_)));refine zB ?_;exact nT ⟨_,(soI a).symm,rfl,zv⟩
    replace a:=cF i a;refine zT (zs ?_);refine zB (nT (zr (rB (rT (rT ?_)))));refine exL a ?_;rintro rfl;refine oxR ?_;replace b:=(eR (m _ b));refine rB (rT ?_);cases soI b;exact zq
   replace a:=cF g a;refine zU (AWp.exit (xT (xT ?_)));refine exL a ?_;rintro rfl;exact oxI ⟨rfl,b,zv⟩
  rintro _ ⟨b,rfl⟩;have h:=(eL (m _ b));refine xB (nT (zs (zA (nT (zr ?_)))));cases soI h;exact zq
 replace h:=cF j h;refine zT (zs ?_);refine zB (nT (zr (rT ?_)));cases soI h;exact zq

theorem c5i {A:Ar} (hA:SA A) {m j:Int} {s:List D} {y z:Int} {B:List D} (h:N63 A m j s=some (y,z,B)):a0e Tryz.prog 63 [.mref 0 1 m j,(.func 64 [] [])] [(.arr 1 s)] (.mref 0 1 y z) [(.arr 1 B)]:=by
 unfold N63 at h;refine zI Tryz.func63 ?_;refine zs (zA (nT (zs (zs ?_))));refine zA (nT ?_);rcases tf (A.zlt j 2) with o | o
 ·replace h:=cT o h;refine zT ?_ (hb:=(by first | rfl | simp only [o,zqa,zqb,zqc,zqd]))
  refine zs ?_;refine zA ?_ { tk:=[0,11] } (h:=(by (repeat (cbv;simp only [o]));try cbv))
  refine nT (zr (rT ?_));cases soI h;exact zq
 replace h:=cF o h;refine zU ?_ (hb:=(by first | rfl | simp only [o,zqa,zqb,zqc,zqd]))
 refine zk (nT (zs (zs ?_)));refine zA ?_ (h:=(by (repeat (cbv;simp only [o]));try cbv))
 refine nT (zb ?_);obtain ⟨s2,d2,W,R,q⟩:=a0m h;refine zM 0 [0] [] 1 (fun τ=>W (.inl ())=some (y,z,B)/\τ=⟨[(0,.mref 0 1 m j)],[(.arr 1 s)],66⟩) ?_ ?_
 ·refine zP d2 [0,1,5] [] 1 (fun p=>⟨[(0,.mref 0 1 m j),(1,(.func 64 [] [])),(5,zi p)],[(.arr 1 s)],66⟩) ⟨rfl,(by first | (cbv;done) | ((repeat (cbv;simp only [o]));try cbv))⟩ ?_
  rintro p j1 a;dsimp only [b1J] at a;refine zs (zs (zA (nT ?_)));rcases tf (A.zlt p j) with e | e
  ·replace a:=cT e a;refine zT ?_ (hb:=(by first | rfl | simp only [e,zqa,zqb,zqc,zqd]))
   refine zk (nT (zs (zb (zs ?_))));refine zQ ?_;obtain ⟨_,X,a⟩:=a0a a;have C:=ckI X;obtain ⟨_,Y,a⟩:=a0a a;have E:=ckI Y;obtain ⟨k2,a0,a⟩:=a0a a;have F:=gcI a0;obtain ⟨_,b0,a⟩:=a0a a;have G:=ckI b0;obtain ⟨_,d0,a⟩:=a0a a;have J:=ckI d0;obtain ⟨l2,e0,a⟩:=a0a a;have K:=gcI e0;obtain ⟨e2,g0,a⟩:=a0a a;refine a0W.c0 hT hA {} rfl (by (repeat (cbv;simp only [e,C,E,F,G,J,K]));try cbv) (c4a hA g0) rfl rfl (lb rfl) rfl rfl ?_
   refine zJ ?_ (h:=(by (repeat (cbv;simp only [e,C,E,F,G,J,K]));try cbv))
   refine nT ?_;rcases tf e2 with k | k
   ·replace a:=cT k a;refine zT ?_ (hb:=(by first | rfl | simp only [e,k,zqa,zqb,zqc,zqd]))
    refine zs ?_;obtain ⟨_,i0,a⟩:=a0a a;have k1:=ckI i0;obtain ⟨_,j0,a⟩:=a0a a;have l1:=ckI j0;obtain ⟨_,k0,a⟩:=a0a a;have m1:=ckI k0;refine zA ?_ (h:=(by (repeat (cbv;simp only [e,k,k1,l1,m1]));try cbv))
    refine nT (zs (zs ?_));refine zA ?_ (h:=(by (repeat (cbv;simp only [e,k]));try cbv))
    refine nT (zb ?_);obtain ⟨r2,c2,V,b2,u⟩:=a0m a;refine zM 2 [0,5] [] 1 (fun τ => ∃ v w,V (v,w)=some j1/\τ=⟨[(0,.mref 0 1 m j),(5,zi v)],[(.arr 1 w)],66⟩) ?_ ?_
    ·refine zP c2 [0,1,5,6,7] [] 1 (fun (S,r,U)=>⟨[(0,.mref 0 1 m j),(1,(.func 64 [] [])),(5,zi S),(6,.mref 0 1 (A.zadd m p) (A.zsub j p)),(7,zi r)],[(.arr 1 U)],66⟩) ⟨rfl,(by first | (cbv;done) | ((repeat (cbv;simp only [e,k]));try cbv))⟩ ?_
     rintro ⟨S,r,U⟩ q2 b;dsimp only [a9i] at b;refine zs (zs (zA (nT ?_)));rcases tf (A.zlt r (A.zsub j p)) with i | i
     ·replace b:=cT i b;refine zT ?_ (hb:=(by first | rfl | simp only [i,zqa,zqb,zqc,zqd]))
      refine zk (nT (zs (zb (zs ?_))));refine zQ ?_;obtain ⟨_,l0,b⟩:=a0a b;have L:=ckI l0;obtain ⟨_,m0,b⟩:=a0a b;have M:=ckI m0;obtain ⟨m2,n0,b⟩:=a0a b;have N:=gcI n0;obtain ⟨_,o0,b⟩:=a0a b;have O:=ckI o0;obtain ⟨_,p0,b⟩:=a0a b;have P:=ckI p0;obtain ⟨n2,q0,b⟩:=a0a b;have Q:=gcI q0;obtain ⟨g2,r0,b⟩:=a0a b;refine a0W.c0 hT hA {} rfl (by (repeat (cbv;simp only [i,L,M,N,O,P,Q]));try cbv) (c4a hA r0) rfl rfl (lb rfl) rfl rfl ?_
      refine zJ ?_ (h:=(by (repeat (cbv;simp only [i,L,M,N,O,P,Q]));try cbv))
      refine nT ?_;obtain ⟨⟨i2,j2⟩,c,b⟩:=a0a b;refine zN [0,1,5,6,7] [] 1 (fun τ=>τ=⟨[(0,.mref 0 1 m j),(1,(.func 64 [] [])),(5,zi i2),(6,.mref 0 1 (A.zadd m p) (A.zsub j p)),(7,zi r)],[(.arr 1 j2)],66⟩) ?_ ?_
      ·rcases tf g2 with l | l
       ·replace c:=cT l c;refine zU ?_ (hb:=(by first | rfl | simp only [i,l,zqa,zqb,zqc,zqd]))
        refine zk ?_;cases soI c;exact (zO (g:=(by first | (cbv;done) | ((repeat (cbv;simp only [i,l]));try cbv))))
       replace c:=cF l c;refine zT ?_ (hb:=(by first | rfl | simp only [i,l,zqa,zqb,zqc,zqd]))
       refine zs ?_;obtain ⟨_,s0,c⟩:=a0a c;have n1:=ckI s0;obtain ⟨_,u0,c⟩:=a0a c;have o1:=ckI u0;obtain ⟨o2,v0,c⟩:=a0a c;have p1:=gcI v0;obtain ⟨_,w0,c⟩:=a0a c;have q1:=ckI w0;obtain ⟨_,y0,c⟩:=a0a c;have r1:=ckI y0;obtain ⟨p2,z0,c⟩:=a0a c;refine zA ?_ { tk:=[55] } (h:=(by (repeat (cbv;simp only [i,l,n1,o1,p1,q1,r1,z0]));try cbv))
       refine nT ?_;refine zA ?_ (h:=(by (repeat (cbv;simp only [i,l]));try cbv))
       cases soI c;exact (zO (g:=(by first | (cbv;done) | ((repeat (cbv;simp only [i,l]));try cbv))))
      rintro _ rfl;refine nB (nT (zA ?_));exact nT ⟨_,(soI b).symm,rfl,zc⟩
     replace b:=cF i b;refine zU ?_ (hb:=(by first | rfl | simp only [i,zqa,zqb,zqc,zqd]))
     refine AWp.exit (xT (xT ?_));refine exL b ?_;rintro rfl;exact oxI ⟨rfl,_,_,u,(by first | (cbv;done) | ((repeat (cbv;simp only [i]));try cbv))⟩
    rintro _ ⟨v,w,u,rfl⟩;have a:=(b2 _ u);refine xB (nT (zs ?_));obtain ⟨_,a1,a⟩:=a0a a;have s1:=ckI a1;obtain ⟨_,b1,a⟩:=a0a a;have u1:=ckI b1;obtain ⟨_,c1,a⟩:=a0a a;have v1:=ckI c1;obtain ⟨_,d1,a⟩:=a0a a;have w1:=ckI d1;refine zA ?_ (h:=(by (repeat (cbv;simp only [s1,u1,v1,w1]));try cbv))
    refine nT (zs ?_);obtain ⟨_,e1,a⟩:=a0a a;have y1:=ckI e1;obtain ⟨_,g1,a⟩:=a0a a;have z1:=ckI g1;obtain ⟨_,i1,a⟩:=a0a a;have a2:=ckI i1;refine zA ?_ { tk:=[64] } (h:=(by (repeat (cbv;simp only [y1,z1,a2]));try cbv))
    refine nT (zr (rB (rT (rT ?_))));refine exL a ?_;rintro rfl;refine oxR ?_;replace q:=(eR (R _ q));refine rB (rT ?_);cases soI q;exact zq
   replace a:=cF k a;refine zU ?_ (hb:=(by first | rfl | simp only [e,k,zqa,zqb,zqc,zqd]))
   refine zk (nB (nT ?_));refine zA ?_ (h:=(by (repeat (cbv;simp only [e,k]));try cbv))
   exact nT ⟨_,(soI a).symm,rfl,(by first | (cbv;done) | ((repeat (cbv;simp only [e,k]));try cbv))⟩
  replace a:=cF e a;refine zU ?_ (hb:=(by first | rfl | simp only [e,zqa,zqb,zqc,zqd]))
  refine AWp.exit (xT (xT ?_));refine exL a ?_;rintro rfl;exact oxI ⟨rfl,q,(by first | (cbv;done) | ((repeat (cbv;simp only [e]));try cbv))⟩
 rintro _ ⟨q,rfl⟩;have h:=(eL (R _ q));refine xB (nT (zs (zA (nT (zr ?_)) { tk:=[0,65] })));cases soI h;exact zq

theorem c5j {A:Ar} (hA:SA A) {g:List D} {i w y:Int} {z:List D} (h:N30 A g i=some (w,y,z)):a0e Tryz.prog 30 [zl 1 g,.d (.iface i)] [] (.mref 0 1 w y) [(.arr 1 z)]:=by
 unfold N30 at h;refine zI Tryz.func30 ?_;refine zs (zA (nT (zs ?_)));obtain ⟨_,L,h⟩:=a0a h;have f4:=ckI L;refine zB (nT (zs ?_)) { tk:=[9,12],esc:=[5] };have f5:=lnF hA (l:=(zz0)) (n:=41) rfl;refine zB (nT (zs ?_)) { tk:=[14],esc:=[6],gr:=[14] };refine zA (nT (zs (zb ?_)));refine AWp.weak (Wk.settleS 7 rfl (lb rfl)) ?_;refine AWp.weak (Wk.ren [some 0,some 1,some 5,some 2,some 3,some 4,some 6,some 7,some 8] [0,1,5,6,7] rfl rfl) ?_;obtain ⟨g1,a0,E,Y,v⟩:=a0m h;refine AWp.cutXW 0 (fun τ => ∃ p,E p=some (w,y,z)/\τ=⟨[(7,.gref 0 1)],[.gro 1 p,.dead,.dead],47⟩) ?_ ?_
 ·refine AWp.iterW a0 (fun (j,e,C)=>⟨[(0,zl 1 g),(1,.d (.iface i)),(5,.ptr 1 0),(6,.ptr 2 0),(7,.gref 6 1)],[(.map true (zz1) j),(.cells [(.map 0)]),.cells [.gref 3 41],.gro 41 e,.dead,.dead,.gro 1 C,.dead,.dead],47⟩) ⟨_,zR zy4 [0,1,5,6,7],rfl⟩ ?_;rintro ⟨j,e,C⟩ e0 a;dsimp only [a8a] at a;refine zs (zs (zA (nT ?_)));rcases tf (A.zlt 0 (A.len e)) with s | s
  ·replace a:=cT s a;refine zT (zk (nT (zb (zs ?_))));obtain ⟨_,M,a⟩:=a0a a;have g0:=ckI M;obtain ⟨_,N,a⟩:=a0a a;have i0:=ckI N;obtain ⟨r,O,a⟩:=a0a a;have j0:=gcI O;obtain ⟨_,Q,a⟩:=a0a a;have l0:=ckI Q;obtain ⟨_,P,a⟩:=a0a a;have k0:=ckI P;refine zB (nT (zs ?_)) { tk:=[23],arr:=[8] };obtain ⟨_,R,a⟩:=a0a a;have m0:=ckI R;obtain ⟨_,S,a⟩:=a0a a;have n0:=ckI S;refine zB (nT ?_) { tk:=[28] };refine AWp.weak (Wk.settle 2 0 rfl rfl rfl) ?_;refine zs (zs (zn ?_));obtain ⟨B,U,a⟩:=a0a a;obtain ⟨o0,p0,q0⟩:=gaI U;obtain ⟨b0,V,a⟩:=a0a a;refine zD (c5d hA V) ?_;refine zF (nT ?_);obtain ⟨q,c,a⟩:=a0a a;refine AWp.cutW (fun τ=>τ=⟨[(0,zl 1 g),(1,.d (.iface i)),(5,.ptr 1 0),(6,.ptr 2 0),(7,.gref 7 1),(8,.ptr 3 0)],[(.map true (zz1) j),(.cells [(.map 0)]),.cells [.gref 4 41],(.arr 1 (A.spl (zz0) (A.zadd 0 (Int.ofNat 0)) r)),(.gro 41 (A.sub e 0 (A.wrp .i64 (A.zsub (A.len e) 1)))),.dead,.dead,.gro 1 q,.dead,.dead],47⟩) ?_ ?_
   ·rcases tf b0 with u | u
    ·replace c:=cT u c;refine zT (zn ?_);obtain ⟨e1,W,c⟩:=a0a c;refine zD (c5g hA W) ?_ { tk:=[7,37] };obtain ⟨u0,X,c⟩:=a0a c;obtain ⟨r0,s0⟩:=apI X;refine zF ?_ { tk:=[7,37],gr:=[37] };cases soI c;exact oWi ⟨_,zR [some 0,some 1,some 2,some 9,some 10,some 11,some 12,some 13,some 14,some 15] [0,1,5,6,7,8],rfl⟩
    replace c:=cF u c;refine zU (zk ?_);cases soI c;exact oWi ⟨_,zR [some 0,some 1,some 2,some 9,some 10,some 11,some 12,some 6,some 7,some 8] [0,1,5,6,7,8],rfl⟩
   rintro _ rfl;refine nT ?_;obtain ⟨⟨c0,d0⟩,b,a⟩:=a0a a;refine AWp.cutW (fun τ=>τ=⟨[(0,zl 1 g),(1,.d (.iface i)),(5,.ptr 1 0),(6,.ptr 2 0),(7,.gref 6 1)],[(.map true (zz1) c0),(.cells [(.map 0)]),.cells [.gref 3 41],.gro 41 d0,.dead,.dead,.gro 1 q,.dead,.dead],47⟩) ?_ ?_
   ·refine zn ?_;rcases tf (A.zeq i (Int.ofNat 151)) with k | k
    ·replace b:=cT k b;rw [ifF hA (n:=151) k];obtain ⟨⟨v0,w0⟩,F,b⟩:=a0a b;refine zD (a0e.emb (args':=[.d (.agg []),zl 1 g,.d (.agg B),(.func 60 [] [.ptr 1 0,.ptr 2 0])]) (c3f hA F) [some 1,some 0,some 2,some 4,some 5,some 6] [(.map true (zz1) j),(.cells [(.map 0)]),.cells [.gref 4 41],(.arr 1 (A.spl (zz0) (A.zadd 0 (Int.ofNat 0)) r)),(.gro 41 (A.sub e 0 (A.wrp .i64 (A.zsub (A.len e) 1)))),.dead,.dead,.gro 1 q,.dead,.dead] rfl rfl rfl rfl rfl rfl rfl) ?_;refine zF ?_;cases soI b;exact oWi ⟨_,zR zy0 [0,1,5,6,7],rfl⟩
    replace b:=cF k b;rcases tf (A.zeq i (Int.ofNat 153)) with m | m
    ·replace b:=cT m b;rw [ifF hA (n:=153) m];obtain ⟨⟨y0,z0⟩,G,b⟩:=a0a b;refine zD (a0e.emb (args':=[.d (.agg []),zl 1 g,.d (.agg B),(.func 60 [] [.ptr 1 0,.ptr 2 0])]) (c3g hA G) [some 1,some 0,some 2,some 4,some 5,some 6] [(.map true (zz1) j),(.cells [(.map 0)]),.cells [.gref 4 41],(.arr 1 (A.spl (zz0) (A.zadd 0 (Int.ofNat 0)) r)),(.gro 41 (A.sub e 0 (A.wrp .i64 (A.zsub (A.len e) 1)))),.dead,.dead,.gro 1 q,.dead,.dead] rfl rfl rfl rfl rfl rfl rfl) ?_;refine zF ?_;cases soI b;exact oWi ⟨_,zR zy0 [0,1,5,6,7],rfl⟩
    replace b:=cF m b;cases b
   rintro _ rfl;refine nB ?_;exact nT ⟨_,(soI a).symm,_,zR zy4 [0,1,5,6,7],rfl⟩
  replace a:=cF s a;refine zU (AWp.exit (xT (xT ?_)));refine exL a ?_;rintro rfl;exact b1i ⟨_,zR [some 6,some 7,some 8] [7],_,v,rfl⟩
 rintro _ ⟨p,v,rfl⟩;have h:=(Y _ v);refine xB (nT (zs ?_));rcases tf (A.zlt 0 (A.len p)) with o | o
 ·replace h:=cT o h;refine AWp.weak (Wk.groArr 7 rfl rfl (neL hA o) (c3l hA)) ?_;refine zn ?_;obtain ⟨a1,J,h⟩:=a0a h;refine zD (c5h hA J) ?_;refine zF (nT (zs (zn ?_)));obtain ⟨⟨b1,c1,d1⟩,K,h⟩:=a0a h;refine zD (c5i hA K) ?_ { tk:=[46] };refine zF (nT ?_) { tk:=[46] };refine AWp.weak (Wk.ren [some 0] [4] rfl rfl) ?_;refine zr ?_;cases soI h;exact zq
 replace h:=cF o h;cases h
end Go.Am
