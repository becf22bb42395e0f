import Derived.Test.YtlljehkmemajkaaGenw0
set_option maxRecDepth 100000
set_option maxHeartbeats 2000000
set_option linter.unusedVariables false
set_option linter.unusedSimpArgs false
namespace Go.Am
open Go Go.Proofs
theorem c1p {A:Ar} (hA:SA A) {c g:List D} {s:List (D×D)} {u:List D} {o:List (D×D)} {p:List D} (h:b8Q A c g s u=some (o,p)):a0h Try.prog 176 [.d (.agg []),zl 1 c,.d (.agg g),(.func 96 [] [.ptr 0 0,.ptr 2 0])] [(.cells [(.map 1)]),(.map true (zz1) s),.cells [.gref 3 41],.gro 41 u,.dead,.dead] (.tuple []) [(.cells [(.map 1)]),(.map true (zz1) o),.cells [.gref 6 41],.dead,.dead,.dead,.gro 41 p,.dead,.dead]:=by
 unfold b8Q at h;refine zI Try.func176 ?_;refine zs ?_;obtain ⟨_,F,h⟩:=a0a h;have U:=ckI F;refine zB (nT (zs ?_)) { arr:=[6] };refine zA (nT (zb ?_));refine AWp.weak (Wk.ren [some 0,some 1,some 2,none,none,none,some 6,some 3,some 4,some 5] [1,3,6,11,12] rfl rfl) ?_;obtain ⟨a0,J,v,G,k⟩:=a0Q h;refine AWp.cutXW 0 (fun τ => ∃ l m,v (l,m)=some (o,p)/\τ=⟨[],[(.cells [(.map 1)]),(.map true (zz1) l),.cells [.gref 6 41],.dead,.dead,.dead,.gro 41 m,.dead,.dead],33⟩) ?_ ?_
 ·refine AWp.iterW J (fun (e,q,r)=>⟨[(1,zl 1 c),(3,(.func 96 [] [.ptr 0 0,.ptr 2 0])),(6,.ptr 6 0),(11,(.d (.int .i64 (A.len c)))),(12,zi e)],[(.cells [(.map 1)]),(.map true (zz1) q),.cells [.gref 7 41],.dead,.dead,.dead,(.arr 1 g),.gro 41 r,.dead,.dead],33⟩) ⟨_,zR zy6 [1,3,6,11,12],rfl⟩ ?_;rintro ⟨e,q,r⟩ N a;dsimp only [a8f] at a;refine zs (zA (nT (zs ?_)));rcases tf (A.zlt e (A.len c)) with i | i
  ·replace a:=cT i a;refine zT (zk (nT (zs (zb (zs ?_)))));refine zB (nT (zs (zn ?_)));obtain ⟨V,y,a⟩:=a0a a;obtain ⟨O,P,Q⟩:=gaI y;obtain ⟨K,z,a⟩:=a0a a;refine zD (c2r hA z) ?_;refine zF (nT (zs ?_));obtain ⟨w,B,a⟩:=a0a a;obtain ⟨R,S⟩:=gtI B;refine zB (nT ?_);obtain ⟨⟨L,M⟩,b,a⟩:=a0a a;refine AWp.cutW (fun τ=>τ=⟨[(1,zl 1 c),(3,(.func 96 [] [.ptr 0 0,.ptr 2 0])),(6,.ptr 6 0),(11,(.d (.int .i64 (A.len c)))),(12,zi e)],[(.cells [(.map 1)]),(.map true (zz1) L),.cells [.gref 7 41],.dead,.dead,.dead,(.arr 1 g),.gro 41 M,.dead,.dead],33⟩) ?_ ?_
   ·rcases tf (A.zlt K (A.len w)) with j | j
    ·replace b:=cT j b;refine zT (zn ?_);obtain ⟨W,C,b⟩:=a0a b;refine zD (c0M hA C) ?_;obtain ⟨⟨X,Y⟩,E,b⟩:=a0a b;refine zD (b9f hA E) ?_;refine zF ?_;cases soI b;exact oWi ⟨_,zR zy1 [1,3,6,11,12],rfl⟩
    replace b:=cF j b;refine zU (zk ?_);cases soI b;exact oWi ⟨_,zR zy6 [1,3,6,11,12],rfl⟩
   rintro _ rfl;refine nB (nT (zA ?_));exact nT ⟨_,(soI a).symm,_,zR zy6 [1,3,6,11,12],rfl⟩
  replace a:=cF i a;refine zU (AWp.exit (xT (xT ?_)));refine exL a ?_;rintro rfl;exact a7Z ⟨_,zR zy8 [],_,_,k,rfl⟩
 rintro _ ⟨l,m,k,rfl⟩;have h:=(G _ k);refine xB ?_;cases soI h;exact zq

theorem c1q {A:Ar} (hA:SA A) {b:List D} {c:Int} {a:List D} (h:b8R A b c=some a):a0h Try.prog 178 [.d (.agg b),zi c] [] (.d (.agg a)) []:=by
 unfold b8R at h;refine zI Try.func178 ?_;refine zs ?_;obtain ⟨_,w,h⟩:=a0a h;have f3:=ckI w;refine zB (nT (zs ?_)) { arr:=[2,4] };obtain ⟨_,G,h⟩:=a0a h;have f7:=ckI G;obtain ⟨_,N,h⟩:=a0a h;have f8:=ckI N;obtain ⟨⟨i0,j0⟩,e9,h⟩:=a0a h;obtain ⟨q0,u0,v0⟩:=gdI e9;refine zB (nT (zs ?_)) { tk:=[10] };obtain ⟨_,g,h⟩:=a0a h;have w0:=ckI g;obtain ⟨_,i,h⟩:=a0a h;have y0:=ckI i;obtain ⟨m0,o0,h⟩:=a0a h;refine zB (nT (zs ?_)) { tk:=[14] };obtain ⟨_,j,h⟩:=a0a h;have z0:=ckI j;obtain ⟨_,k,h⟩:=a0a h;have a1:=ckI k;obtain ⟨_,m,h⟩:=a0a h;have b1:=ckI m;obtain ⟨_,o,h⟩:=a0a h;have c1:=ckI o;obtain ⟨_,p,h⟩:=a0a h;have d1:=ckI p;obtain ⟨_,q,h⟩:=a0a h;have e1:=ckI q;obtain ⟨_,r,h⟩:=a0a h;have g1:=ckI r;obtain ⟨_,s,h⟩:=a0a h;have i1:=ckI s;obtain ⟨_,u,h⟩:=a0a h;have j1:=ckI u;obtain ⟨_,v,h⟩:=a0a h;have k1:=ckI v;obtain ⟨_,y,h⟩:=a0a h;have l1:=ckI y;obtain ⟨_,z,h⟩:=a0a h;have m1:=ckI z;obtain ⟨_,B,h⟩:=a0a h;have n1:=ckI B;obtain ⟨_,C,h⟩:=a0a h;have o1:=ckI C;obtain ⟨_,E,h⟩:=a0a h;have p1:=ckI E;obtain ⟨_,F,h⟩:=a0a h;have q1:=ckI F;obtain ⟨_,J,h⟩:=a0a h;have r1:=ckI J;obtain ⟨_,K,h⟩:=a0a h;have s1:=ckI K;obtain ⟨_,L,h⟩:=a0a h;have u1:=ckI L;refine zH ?_;refine nT (zs ?_);obtain ⟨_,M,h⟩:=a0a h;have v1:=ckI M;obtain ⟨_,O,h⟩:=a0a h;have w1:=ckI O;obtain ⟨k0,P,h⟩:=a0a h;have y1:=gcI P;obtain ⟨_,Q,h⟩:=a0a h;have z1:=ckI Q;obtain ⟨_,R,h⟩:=a0a h;have a2:=ckI R;obtain ⟨n0,p0,h⟩:=a0a h;refine zB (nT (zs ?_)) { tk:=[30] };obtain ⟨_,S,h⟩:=a0a h;have b2:=ckI S;obtain ⟨_,U,h⟩:=a0a h;have c2:=ckI U;obtain ⟨l0,V,h⟩:=a0a h;have d2:=gcI V;obtain ⟨_,W,h⟩:=a0a h;have e2:=ckI W;obtain ⟨_,X,h⟩:=a0a h;have g2:=ckI X;obtain ⟨_,Y,h⟩:=a0a h;have i2:=ckI Y;obtain ⟨_,a0,h⟩:=a0a h;have j2:=ckI a0;have l2:=lnF hA (l:=[.int .i8 0,.int .i8 0]) (n:=2) rfl;obtain ⟨_,b0,h⟩:=a0a h;have k2:=ckI b0;refine zH ?_ { tk:=[38] };refine nT (zs ?_);obtain ⟨r2,c0,h⟩:=a0a h;obtain ⟨m2,n2,o2⟩:=gaI c0;obtain ⟨_,e0,h⟩:=a0a h;have q2:=ckI e0;obtain ⟨_,d0,h⟩:=a0a h;have p2:=ckI d0;refine zB (nT ?_) { tk:=[42] };obtain ⟨_,g0,h⟩:=a0a h;have r0:=ckI g0;obtain ⟨_,e,h⟩:=a0a h;have s0:=ckI e;refine zr ?_;cases soI h;exact ⟨(rs1 (b7q rfl rfl rfl rfl (lnN hA (by assumption)) (onN hA (by assumption)))),rfl,rfl,lb rfl,_,rfl⟩

theorem c1r {A:Ar} (hA:SA A) {g j:List D} {c k:Int} {q:List D} (h:b8S A g j c k=some q):a0h Try.prog 179 [.d (.agg g),zl 1 j,zi c,zi k] [] (.d (.agg q)) []:=by
 unfold b8S at h;refine zI Try.func179 ?_;refine zs ?_;obtain ⟨_,W,h⟩:=a0a h;have f5:=ckI W;refine zB (nT (zs (zn ?_))) { arr:=[4,8] };obtain ⟨g2,X,h⟩:=a0a h;obtain ⟨f8,f9,u0⟩:=gaI X;obtain ⟨j2,F,h⟩:=a0a h;refine zD (c0M hA F) ?_ { tk:=[16],arr:=[9] };obtain ⟨_,J,h⟩:=a0a h;have i1:=ckI J;obtain ⟨_,G,h⟩:=a0a h;have g1:=ckI G;refine zF (nT (zs (zs ?_))) { tk:=[16],arr:=[9] };obtain ⟨_,K,h⟩:=a0a h;have j1:=ckI K;obtain ⟨_,L,h⟩:=a0a h;have k1:=ckI L;obtain ⟨_,M,h⟩:=a0a h;have l1:=ckI M;obtain ⟨_,N,h⟩:=a0a h;have m1:=ckI N;obtain ⟨e,O,h⟩:=a0a h;have n1:=gcI O;obtain ⟨_,P,h⟩:=a0a h;have o1:=ckI P;obtain ⟨_,Q,h⟩:=a0a h;have p1:=ckI Q;obtain ⟨_,R,h⟩:=a0a h;have q1:=ckI R;obtain ⟨_,S,h⟩:=a0a h;have r1:=ckI S;obtain ⟨_,U,h⟩:=a0a h;have s1:=ckI U;obtain ⟨_,V,h⟩:=a0a h;have u1:=ckI V;refine zH ?_;refine nT (zb ?_);obtain ⟨l2,k0,s,j0,o⟩:=a0Q h;refine zM 0 [8,9] [] 3 (fun τ => ∃ p,s p=some q/\τ=⟨[(8,.ptr 1 0),(9,.ptr 2 0)],[(.arr 1 g),(.arr 1 (zz0)),(.arr 1 p)],52⟩) ?_ ?_
 ·refine zP k0 [1,2,3,8,9,24,25,26] [] 3 (fun (i,r)=>⟨[(1,zl 1 j),(2,zi c),(3,zi k),(8,.ptr 1 0),(9,.ptr 2 0),(24,(.mref 0 2 (A.zadd (A.quo .i64 (A.zadd (A.zadd 0 (A.zmul c (Int.ofNat 8))) (Int.ofNat 14)) (Int.ofNat 2)) 0) (A.zsub e 0))),(25,(.d (.int .i64 (A.zsub e 0)))),(26,zi i)],[(.arr 1 g),(.arr 1 (zz0)),(.arr 1 r)],52⟩) ⟨rfl,zv⟩ ?_;rintro ⟨i,r⟩ s0 a;dsimp only [a8g] at a;refine zs (zA (nT (zs ?_)));rcases tf (A.zlt i (A.zsub e 0)) with l | l
  ·replace a:=cT l a;refine zT (zk (nT (zs (zb (zs ?_)))));obtain ⟨_,Y,a⟩:=a0a a;have v1:=ckI Y;obtain ⟨_,a0,a⟩:=a0a a;have w1:=ckI a0;obtain ⟨⟨u,m0⟩,b0,a⟩:=a0a a;obtain ⟨y1,z1,a2⟩:=gdI b0;refine zB (nT (zs ?_)) { tk:=[29] };obtain ⟨n0,d0,a⟩:=a0a a;obtain ⟨b2,c2⟩:=gtI d0;obtain ⟨⟨o0,v,p0⟩,e0,a⟩:=a0a a;obtain ⟨d2,e2⟩:=gtI e0;refine zH ?_;refine nT ?_;obtain ⟨l0,b,a⟩:=a0a a;refine zN [1,2,3,8,9,24,25,26] [] 3 (fun τ=>τ=⟨[(1,zl 1 j),(2,zi c),(3,zi k),(8,.ptr 1 0),(9,.ptr 2 0),(24,(.mref 0 2 (A.zadd (A.quo .i64 (A.zadd (A.zadd 0 (A.zmul c (Int.ofNat 8))) (Int.ofNat 14)) (Int.ofNat 2)) 0) (A.zsub e 0))),(25,(.d (.int .i64 (A.zsub e 0)))),(26,zi i)],[(.arr 1 g),(.arr 1 (zz0)),(.arr 1 l0)],52⟩) ?_ ?_
   ·rcases tf (A.zeq (A.wrp .i64 u) v) with m | m
    ·replace b:=cT m b;refine zT ?_;refine zQ ?_;obtain ⟨k2,g0,b⟩:=a0a b;refine a1N.c0 hT hA { tk:=[47] } rfl zu (b9e hA g0) rfl rfl (lb rfl) rfl rfl ?_;obtain ⟨_,i0,b⟩:=a0a b;have v0:=ckI i0;obtain ⟨_,w,b⟩:=a0a b;have w0:=ckI w;obtain ⟨q0,r0,b⟩:=a0a b;refine zJ ?_ { tk:=[47] };cases soI b;exact zO
    replace b:=cF m b;refine zU (zk ?_);cases soI b;exact zO
   rintro _ rfl;refine nB (nT (zA ?_));exact nT ⟨_,(soI a).symm,rfl,zc⟩
  replace a:=cF l a;refine zU (AWp.exit (xT (xT ?_)));refine exL a ?_;rintro rfl;exact oxI ⟨rfl,_,o,zv⟩
 rintro _ ⟨p,o,rfl⟩;have h:=(j0 _ o);refine xB (nT (zs ?_));obtain ⟨i2,y,h⟩:=a0a h;obtain ⟨y0,z0,a1⟩:=gaI y;obtain ⟨_,B,h⟩:=a0a h;have c1:=ckI B;obtain ⟨_,z,h⟩:=a0a h;have b1:=ckI z;refine zB (nT ?_) { tk:=[51] };obtain ⟨_,C,h⟩:=a0a h;have d1:=ckI C;obtain ⟨_,E,h⟩:=a0a h;have e1:=ckI E;refine zr ?_;cases soI h;exact ⟨(rs1 (b7q rfl rfl rfl rfl (lnN hA (by assumption)) (onN hA (by assumption)))),rfl,rfl,lb rfl,_,rfl⟩

theorem c1s {A:Ar} (hA:SA A) {i:List D} {j:List (D×D)} {c k e:List D} {o:List (D×D)} {p q:List D} (h:b8T A i j c k e=some (o,p,q)):a0h Try.prog 96 [.d (.agg i),.ptr 0 0,.ptr 2 0] [(.cells [(.map 1)]),(.map true (zz1) j),.cells [.gref 7 41],.dead,.dead,.dead,(.arr 1 c),.gro 41 k,.dead,.dead,(.arr 1 e)] (.tuple []) [(.cells [(.map 1)]),(.map true (zz1) o),.cells [.gref 11 41],.dead,.dead,.dead,(.arr 1 c),.dead,.dead,.dead,(.arr 1 p),.gro 41 q,.dead,.dead]:=by
 unfold b8T at h;refine zI Try.func96 ?_;refine zs ?_;obtain ⟨_,y,h⟩:=a0a h;have S:=ckI y;refine zB (nT (zs ?_)) { arr:=[3] };obtain ⟨m,b,h⟩:=a0a h;refine AWp.cutW (fun τ=>τ=⟨[(1,.ptr 0 0),(2,.ptr 2 0),(3,.ptr 11 0),(5,.d (.bool m))],[(.cells [(.map 1)]),(.map true (zz1) j),.cells [.gref 7 41],.dead,.dead,.dead,(.arr 1 c),.gro 41 k,.dead,.dead,(.arr 1 e),(.arr 1 i)],21⟩) ?_ ?_
 ·obtain ⟨V,z,b⟩:=a0a b;obtain ⟨U,G,J⟩:=gaI z;obtain ⟨_,r,b⟩:=a0a b;have K:=ckI r;obtain ⟨C,l,b⟩:=a0a b;rcases C with _ | _
  ·have B:=lkN l;refine zB ?_ { tk:=[10] };cases soI b;exact oWi ⟨_,zR zy4 [1,2,3,5],rfl⟩
  have B:=lkS l;refine zB ?_ { tk:=[10] };cases soI b;exact oWi ⟨_,zR zy4 [1,2,3,5],rfl⟩
 rintro _ rfl;refine nT (zs (zA (nT ?_)));obtain ⟨⟨E,F⟩,a,h⟩:=a0a h;refine AWp.cutW (fun τ=>τ=⟨[],[(.cells [(.map 1)]),(.map true (zz1) E),.cells [.gref 11 41],.dead,.dead,.dead,(.arr 1 c),.dead,.dead,.dead,(.arr 1 e),.gro 41 F,.dead,.dead],21⟩) ?_ ?_
 ·rcases tf m with g | g
  ·replace a:=cT g a;refine zU (zk ?_);cases soI a;exact oWi ⟨_,zR [some 0,some 1,some 2,some 3,some 4,some 5,some 6,none,none,none,some 10,some 7,some 8,some 9] [],rfl⟩
  replace a:=cF g a;refine zT (zs ?_);obtain ⟨W,s,a⟩:=a0a a;obtain ⟨L,M,N⟩:=gaI s;obtain ⟨_,u,a⟩:=a0a a;have O:=ckI u;refine zB (nT ?_);obtain ⟨_,v,a⟩:=a0a a;have P:=ckI v;obtain ⟨X,w,a⟩:=a0a a;obtain ⟨Q,R⟩:=apI w;refine zB ?_ { tk:=[17,20] };cases soI a;exact oWi ⟨_,(Wk.trans (Wk.settle 2 0 rfl rfl rfl) (zR [some 0,some 1,some 2,some 3,some 4,some 5,some 6,some 7,some 8,some 9,some 10,some 12,some 13,some 14] [])),rfl⟩
 rintro _ rfl;cases soI h;exact zq

theorem c1t {A:Ar} (hA:SA A) {m B:List D} {W:List (D×D)} {X:List D} {P:List (D×D)} {Q:List D} (h:b8U A m B W X=some (P,Q)):a0h Try.prog 177 [.d (.agg []),zl 1 m,.d (.agg B),(.func 96 [] [.ptr 0 0,.ptr 2 0])] [(.cells [(.map 1)]),(.map true (zz1) W),.cells [.gref 3 41],.gro 41 X,.dead,.dead] (.tuple []) [(.cells [(.map 1)]),(.map true (zz1) P),.cells [.gref 6 41],.dead,.dead,.dead,.gro 41 Q,.dead,.dead]:=by
 unfold b8U at h;refine zI Try.func177 ?_;refine zs ?_;obtain ⟨_,e6,h⟩:=a0a h;have f5:=ckI e6;refine zA ?_ { arr:=[6] } (h:=(by (repeat (cbv;simp only [f5]));try cbv))
 refine nT (zs (zA (nT (zb ?_))));refine AWp.weak (Wk.ren [some 0,some 1,some 2,none,none,none,some 6,some 3,some 4,some 5] [1,3,6,13,14] rfl rfl) ?_;obtain ⟨d5,o3,Y,n3,M⟩:=a0Q h;refine AWp.cutXW 0 (fun τ => ∃ N O,Y (N,O)=some (P,Q)/\τ=⟨[],[(.cells [(.map 1)]),(.map true (zz1) N),.cells [.gref 6 41],.dead,.dead,.dead,.gro 41 O,.dead,.dead],107⟩) ?_ ?_
 ·refine AWp.iterW o3 (fun (y,U,V)=>⟨[(1,zl 1 m),(3,(.func 96 [] [.ptr 0 0,.ptr 2 0])),(6,.ptr 6 0),(13,(.d (.int .i64 (A.len m)))),(14,zi y)],[(.cells [(.map 1)]),(.map true (zz1) U),.cells [.gref 7 41],.dead,.dead,.dead,(.arr 1 B),.gro 41 V,.dead,.dead],107⟩) ⟨_,zR zy6 [1,3,6,13,14],rfl⟩ ?_;rintro ⟨y,U,V⟩ l4 z;dsimp only [a8h] at z;refine zs (zA (nT (zs ?_)));rcases tf (A.zlt y (A.len m)) with o | o
  ·replace z:=cT o z;refine zT ?_ (hb:=(by first | rfl | simp only [o,zqa,zqb,zqc,zqd]))
   refine zk (nT (zs ?_));obtain ⟨⟨c4,d4⟩,k,z⟩:=a0a z;refine AWp.cutW (fun τ=>τ=⟨[(1,zl 1 m),(3,(.func 96 [] [.ptr 0 0,.ptr 2 0])),(6,.ptr 6 0),(13,(.d (.int .i64 (A.len m)))),(14,zi y)],[(.cells [(.map 1)]),(.map true (zz1) c4),.cells [.gref 7 41],.dead,.dead,.dead,(.arr 1 B),.gro 41 d4,.dead,.dead],107⟩) ?_ ?_
   ·refine zb (zs ?_);refine zA ?_ (h:=(by (repeat (cbv;simp only [o]));try cbv))
    refine nT (zs (zs ?_));obtain ⟨_,g0,k⟩:=a0a k;have d2:=ckI g0;obtain ⟨_,i0,k⟩:=a0a k;have e2:=ckI i0;obtain ⟨a0,j0,k⟩:=a0a k;have g2:=gcI j0;refine zA ?_ (h:=(by (repeat (cbv;simp only [o,d2,e2,g2]));try cbv))
    refine nT ?_;obtain ⟨⟨q3,r3⟩,r,k⟩:=a0a k;refine AWp.cutW (fun τ=>τ=⟨[(1,zl 1 m),(3,(.func 96 [] [.ptr 0 0,.ptr 2 0])),(6,.ptr 6 0),(8,zi y),(13,(.d (.int .i64 (A.len m)))),(14,zi y)],[(.cells [(.map 1)]),(.map true (zz1) q3),.cells [.gref 7 41],.dead,.dead,.dead,(.arr 1 B),.gro 41 r3,.dead,.dead],107⟩) ?_ ?_
    ·rcases tf (A.zlt 0 a0) with u | u
     ·replace r:=cT u r;refine zT ?_ (hb:=(by first | rfl | simp only [o,u,zqa,zqb,zqc,zqd]))
      refine zn ?_;obtain ⟨m4,k0,r⟩:=a0a r;obtain ⟨C,E,F⟩:=gaI k0;obtain ⟨p4,l0,r⟩:=a0a r;refine zC (c1q hA l0) ?_ (h:=(by (repeat (cbv;simp only [o,u,C,E,F,C,E,F]));try cbv))
      obtain ⟨⟨q4,r4⟩,m0,r⟩:=a0a r;refine zC (b9f hA m0) ?_ (h:=(by (repeat (cbv;simp only [o,u,C,E,F,C,E,F]));try cbv))
      refine zE ?_ (h:=(by (repeat (cbv;simp only [o,u,C,E,F,C,E,F]));try cbv))
      cases soI r;exact oWi ⟨_,(zR zy1 [1,3,6,8,13,14] (h:=(by first | (cbv;done) | ((repeat (cbv;simp only [o,u,C,E,F]));try cbv)))),rfl⟩
     replace r:=cF u r;refine zU ?_ (hb:=(by first | rfl | simp only [o,u,zqa,zqb,zqc,zqd]))
     refine zk ?_;cases soI r;exact oWi ⟨_,(zR zy6 [1,3,6,8,13,14] (h:=(by first | (cbv;done) | ((repeat (cbv;simp only [o,u]));try cbv)))),rfl⟩
    rintro _ rfl;refine nT (zs (zn ?_));obtain ⟨n4,n0,k⟩:=a0a k;obtain ⟨b,c,e⟩:=gaI n0;obtain ⟨p3,o0,k⟩:=a0a k;refine zC (c2r hA o0) ?_ (h:=(by (repeat (cbv;simp only [b,c,e,b,c,e]));try cbv))
    refine zE ?_ (h:=(by (repeat (cbv;simp only [b,c,e,b,c,e]));try cbv))
    refine nT (zs (zs ?_));obtain ⟨b0,p0,k⟩:=a0a k;obtain ⟨R,S⟩:=gtI p0;refine zA ?_ (h:=(by (repeat (cbv;simp only [b,c,e,R,S]));try cbv))
    refine nT ?_;rcases tf (A.zeq p3 (A.len b0)) with g | g
    ·replace k:=cT g k;refine zT ?_ (hb:=(by first | rfl | simp only [b,c,e,g,zqa,zqb,zqc,zqd]))
     refine AWp.exit (xT (xB ?_));cases soI k;exact oWi ⟨_,(zR zy6 [1,3,6,13,14] (h:=(by first | (cbv;done) | ((repeat (cbv;simp only [b,c,e,g]));try cbv)))),rfl⟩
    replace k:=cF g k;refine zU ?_ (hb:=(by first | rfl | simp only [b,c,e,g,zqa,zqb,zqc,zqd]))
    refine zk (nT (zs ?_));obtain ⟨⟨L,c0,d0⟩,q0,k⟩:=a0a k;obtain ⟨i2,j2⟩:=gtI q0;refine zA ?_ { tk:=[43] } (h:=(by (repeat (cbv;simp only [b,c,e,g,R,S,i2,j2]));try cbv))
    refine nT (zs ?_);refine zA ?_ (h:=(by (repeat (cbv;simp only [b,c,e,g]));try cbv))
    refine nT (zb (zs ?_));refine zA ?_ (h:=(by (repeat (cbv;simp only [b,c,e,g]));try cbv))
    refine nT ?_;obtain ⟨⟨a4,b4⟩,s,k⟩:=a0a k;refine AWp.cutW (fun τ=>τ=⟨[(1,zl 1 m),(3,(.func 96 [] [.ptr 0 0,.ptr 2 0])),(6,.ptr 6 0),(13,(.d (.int .i64 (A.len m)))),(14,zi y)],[(.cells [(.map 1)]),(.map true (zz1) a4),.cells [.gref 7 41],.dead,.dead,.dead,(.arr 1 B),.gro 41 b4,.dead,.dead],107⟩) ?_ ?_
    ·rcases tf (A.zeq L 1) with i | i
     ·replace s:=cT i s;refine zT ?_ (hb:=(by first | rfl | simp only [b,c,e,g,i,zqa,zqb,zqc,zqd]))
      refine zn ?_;obtain ⟨s4,r0,s⟩:=a0a s;refine zC (c1r hA r0) ?_ (h:=(by (repeat (cbv;simp only [b,c,e,g,i,b,c,e]));try cbv))
      obtain ⟨⟨u4,v4⟩,s0,s⟩:=a0a s;refine zC (b9f hA s0) ?_ (h:=(by (repeat (cbv;simp only [b,c,e,g,i,b,c,e]));try cbv))
      refine zE ?_ (h:=(by (repeat (cbv;simp only [b,c,e,g,i,b,c,e]));try cbv))
      cases soI s;exact oWi ⟨_,(zR zy1 [1,3,6,13,14] (h:=(by first | (cbv;done) | ((repeat (cbv;simp only [b,c,e,g,i]));try cbv)))),rfl⟩
     replace s:=cF i s;refine zU ?_ (hb:=(by first | rfl | simp only [b,c,e,g,i,zqa,zqb,zqc,zqd]))
     refine zs ?_;refine zA ?_ (h:=(by (repeat (cbv;simp only [b,c,e,g,i]));try cbv))
     refine nT ?_;obtain ⟨⟨y3,z3⟩,a,s⟩:=a0a s;refine AWp.cutW (fun τ=>τ=⟨[(1,zl 1 m),(3,(.func 96 [] [.ptr 0 0,.ptr 2 0])),(6,.ptr 6 0),(13,(.d (.int .i64 (A.len m)))),(14,zi y)],[(.cells [(.map 1)]),(.map true (zz1) y3),.cells [.gref 7 41],.dead,.dead,.dead,(.arr 1 B),.gro 41 z3,.dead,.dead],107⟩) ?_ ?_
     ·rcases tf (A.zeq L 2) with j | j
      ·replace a:=cT j a;refine zT ?_ (hb:=(by first | rfl | simp only [b,c,e,g,i,j,zqa,zqb,zqc,zqd]))
       refine zs ?_;obtain ⟨_,v0,a⟩:=a0a a;have l2:=ckI v0;obtain ⟨_,u0,a⟩:=a0a a;have k2:=ckI u0;refine zA ?_ { tk:=[57],arr:=[11] } (h:=(by (repeat (cbv;simp only [b,c,e,g,i,j,b,c,e,k2,l2]));try cbv))
       refine nT (zs ?_);obtain ⟨_,w0,a⟩:=a0a a;have m2:=ckI w0;obtain ⟨_,y0,a⟩:=a0a a;have n2:=ckI y0;obtain ⟨e4,z0,a⟩:=a0a a;have o2:=gcI z0;obtain ⟨_,a1,a⟩:=a0a a;have p2:=nkI a1;obtain ⟨_,b1,a⟩:=a0a a;have q2:=ckI b1;obtain ⟨_,c1,a⟩:=a0a a;have r2:=ckI c1;obtain ⟨j4,d1,a⟩:=a0a a;refine zH ?_ { tk:=[64] } (h:=(by (repeat (cbv;simp only [b,c,e,g,i,j,m2,n2,o2,p2,q2,r2,d1]));try cbv))
       refine nT (zs ?_);obtain ⟨_,e1,a⟩:=a0a a;have s2:=ckI e1;obtain ⟨_,g1,a⟩:=a0a a;have u2:=ckI g1;obtain ⟨g4,i1,a⟩:=a0a a;have v2:=gcI i1;obtain ⟨_,j1,a⟩:=a0a a;have w2:=ckI j1;obtain ⟨_,k1,a⟩:=a0a a;have y2:=ckI k1;obtain ⟨_,l1,a⟩:=a0a a;have z2:=ckI l1;obtain ⟨_,m1,a⟩:=a0a a;have a3:=ckI m1;have c3:=lnF hA (l:=[.int .i8 (A.wrp .i8 c0),.int .i8 (A.wrp .i8 d0)]) (n:=2) rfl;obtain ⟨_,n1,a⟩:=a0a a;have b3:=ckI n1;refine zH ?_ { tk:=[78] } (h:=(by (repeat (cbv;simp only [b,c,e,g,i,j,s2,u2,v2,w2,y2,z2,a3,b3,c3]));try cbv))
       refine nT (zs ?_);obtain ⟨_,o1,a⟩:=a0a a;have d3:=ckI o1;obtain ⟨_,p1,a⟩:=a0a a;have e3:=ckI p1;obtain ⟨i4,q1,a⟩:=a0a a;have g3:=gcI q1;obtain ⟨_,r1,a⟩:=a0a a;have i3:=ckI r1;obtain ⟨_,s1,a⟩:=a0a a;have j3:=ckI s1;obtain ⟨k4,u1,a⟩:=a0a a;refine zA ?_ { tk:=[86] } (h:=(by (repeat (cbv;simp only [b,c,e,g,i,j,d3,e3,g3,i3,j3,u1]));try cbv))
       refine nT (zn ?_);obtain ⟨o4,v1,a⟩:=a0a a;obtain ⟨G,J,K⟩:=gaI v1;obtain ⟨⟨w4,y4,z4⟩,w1,a⟩:=a0a a;refine zC (c1s hA w1) ?_ (h:=(by (repeat (cbv;simp only [b,c,e,g,i,j,G,J,K,G,J,K]));try cbv))
       refine zE ?_ (h:=(by (repeat (cbv;simp only [b,c,e,g,i,j,G,J,K,G,J,K]));try cbv))
       cases soI a;exact oWi ⟨_,(zR [some 0,some 1,some 2,some 3,some 4,some 5,some 6,some 11,some 12,some 13] [1,3,6,13,14] (h:=(by first | (cbv;done) | ((repeat (cbv;simp only [b,c,e,g,i,j,G,J,K]));try cbv)))),rfl⟩
      replace a:=cF j a;refine zU ?_ (hb:=(by first | rfl | simp only [b,c,e,g,i,j,zqa,zqb,zqc,zqd]))
      refine zs ?_;refine zA ?_ (h:=(by (repeat (cbv;simp only [b,c,e,g,i,j]));try cbv))
      refine nT ?_;obtain ⟨⟨v3,w3⟩,q,a⟩:=a0a a;refine AWp.cutW (fun τ=>τ=⟨[(1,zl 1 m),(3,(.func 96 [] [.ptr 0 0,.ptr 2 0])),(6,.ptr 6 0),(13,(.d (.int .i64 (A.len m)))),(14,zi y)],[(.cells [(.map 1)]),(.map true (zz1) v3),.cells [.gref 7 41],.dead,.dead,.dead,(.arr 1 B),.gro 41 w3,.dead,.dead],107⟩) ?_ ?_
      ·rcases tf (A.zeq L 3) with p | p
       ·replace q:=cT p q;refine zT ?_ (hb:=(by first | rfl | simp only [b,c,e,g,i,j,p,zqa,zqb,zqc,zqd]))
        refine zs ?_;obtain ⟨_,y1,q⟩:=a0a q;have k3:=ckI y1;obtain ⟨_,z1,q⟩:=a0a q;have l3:=ckI z1;obtain ⟨e0,a2,q⟩:=a0a q;have m3:=gcI a2;refine zA ?_ (h:=(by (repeat (cbv;simp only [b,c,e,g,i,j,p,k3,l3,m3]));try cbv))
        refine nT ?_;obtain ⟨⟨s3,u3⟩,w,q⟩:=a0a q;refine AWp.cutW (fun τ=>τ=⟨[(1,zl 1 m),(3,(.func 96 [] [.ptr 0 0,.ptr 2 0])),(6,.ptr 6 0),(13,(.d (.int .i64 (A.len m)))),(14,zi y)],[(.cells [(.map 1)]),(.map true (zz1) s3),.cells [.gref 7 41],.dead,.dead,.dead,(.arr 1 B),.gro 41 u3,.dead,.dead],107⟩) ?_ ?_
        ·rcases tf (A.zeq e0 0) with v | v
         ·replace w:=cT v w;refine zT ?_ (hb:=(by first | rfl | simp only [b,c,e,g,i,j,p,v,zqa,zqb,zqc,zqd]))
          refine zn ?_;obtain ⟨a5,b2,w⟩:=a0a w;refine zC (c0M hA b2) ?_ (h:=(by (repeat (cbv;simp only [b,c,e,g,i,j,p,v,b,c,e]));try cbv))
          obtain ⟨⟨b5,c5⟩,c2,w⟩:=a0a w;refine zC (b9f hA c2) ?_ (h:=(by (repeat (cbv;simp only [b,c,e,g,i,j,p,v,b,c,e]));try cbv))
          refine zE ?_ (h:=(by (repeat (cbv;simp only [b,c,e,g,i,j,p,v,b,c,e]));try cbv))
          cases soI w;exact oWi ⟨_,(zR zy1 [1,3,6,13,14] (h:=(by first | (cbv;done) | ((repeat (cbv;simp only [b,c,e,g,i,j,p,v]));try cbv)))),rfl⟩
         replace w:=cF v w;refine zU ?_ (hb:=(by first | rfl | simp only [b,c,e,g,i,j,p,v,zqa,zqb,zqc,zqd]))
         refine zk ?_;cases soI w;exact oWi ⟨_,(zR zy6 [1,3,6,13,14] (h:=(by first | (cbv;done) | ((repeat (cbv;simp only [b,c,e,g,i,j,p,v]));try cbv)))),rfl⟩
        rintro _ rfl;cases soI q;exact oWi ⟨_,zR zy6 [1,3,6,13,14],rfl⟩
       replace q:=cF p q;refine zU ?_ (hb:=(by first | rfl | simp only [b,c,e,g,i,j,p,zqa,zqb,zqc,zqd]))
       refine zk ?_;cases soI q;exact oWi ⟨_,(zR zy6 [1,3,6,13,14] (h:=(by first | (cbv;done) | ((repeat (cbv;simp only [b,c,e,g,i,j,p]));try cbv)))),rfl⟩
      rintro _ rfl;cases soI a;exact oWi ⟨_,zR zy6 [1,3,6,13,14],rfl⟩
     rintro _ rfl;cases soI s;exact oWi ⟨_,zR zy6 [1,3,6,13,14],rfl⟩
    rintro _ rfl;refine nB (nB ?_);cases soI k;exact oWi ⟨_,zR zy6 [1,3,6,13,14],rfl⟩
   rintro _ rfl;refine nT (zA ?_);exact nT ⟨_,(soI z).symm,_,zR zy6 [1,3,6,13,14],rfl⟩
  replace z:=cF o z;refine zU ?_ (hb:=(by first | rfl | simp only [o,zqa,zqb,zqc,zqd]))
  refine AWp.exit (xT (xT ?_));refine exL z ?_;rintro rfl;exact a7Z ⟨_,(zR zy8 [] (h:=(by first | (cbv;done) | ((repeat (cbv;simp only [o]));try cbv)))),_,_,M,rfl⟩
 rintro _ ⟨N,O,M,rfl⟩;have h:=(n3 _ M);refine xB ?_;cases soI h;exact zq

theorem c1u {A:Ar} (hA:SA A) {c r:List D} {x3:List (D×D)} {x4:List D} {X:List (D×D)} {Y:List D} (h:b8V A c r x3 x4=some (X,Y)):a0h Try.prog 180 [.d (.agg []),zl 1 c,.d (.agg r),(.func 96 [] [.ptr 0 0,.ptr 2 0])] [(.cells [(.map 1)]),(.map true (zz1) x3),.cells [.gref 3 41],.gro 41 x4,.dead,.dead] (.tuple []) [(.cells [(.map 1)]),(.map true (zz1) X),.cells [.gref 6 41],.dead,.dead,.dead,.gro 41 Y,.dead,.dead]:=by
 unfold b8V at h;refine zI Try.func180 ?_;refine zs ?_;obtain ⟨_,e6,h⟩:=a0a h;have f5:=ckI e6;refine zA ?_ { arr:=[6] } (h:=(by (repeat (cbv;simp only [f5]));try cbv))
 refine nT (zs (zA (nT (zb ?_))));refine AWp.weak (Wk.ren [some 0,some 1,some 2,none,none,none,some 6,some 3,some 4,some 5] [1,3,6,16,17] rfl rfl) ?_;obtain ⟨v2,d2,j0,a2,R⟩:=a0Q h;refine AWp.cutXW 0 (fun τ => ∃ V W,j0 (V,W)=some (X,Y)/\τ=⟨[],[(.cells [(.map 1)]),(.map true (zz1) V),.cells [.gref 6 41],.dead,.dead,.dead,.gro 41 W,.dead,.dead],91⟩) ?_ ?_
 ·refine AWp.iterW d2 (fun (e,c0,d0)=>⟨[(1,zl 1 c),(3,(.func 96 [] [.ptr 0 0,.ptr 2 0])),(6,.ptr 6 0),(16,(.d (.int .i64 (A.len c)))),(17,zi e)],[(.cells [(.map 1)]),(.map true (zz1) c0),.cells [.gref 7 41],.dead,.dead,.dead,(.arr 1 r),.gro 41 d0,.dead,.dead],91⟩) ⟨_,zR zy6 [1,3,6,16,17],rfl⟩ ?_;rintro ⟨e,c0,d0⟩ d1 m;dsimp only [a8j] at m;refine zs (zA (nT (zs ?_)));rcases tf (A.zlt e (A.len c)) with s | s
  ·replace m:=cT s m;refine zT ?_ (hb:=(by first | rfl | simp only [s,zqa,zqb,zqc,zqd]))
   refine zk (nT (zs (zb (zs ?_))));refine zA ?_ (h:=(by (repeat (cbv;simp only [s]));try cbv))
   refine nT (zs ?_);obtain ⟨g,l0,m⟩:=a0a m;obtain ⟨a0,b0⟩:=gtI l0;refine zA ?_ (h:=(by (repeat (cbv;simp only [s,a0,b0]));try cbv))
   refine nT (zb ?_);obtain ⟨u2,c2,i0,z1,Q⟩:=a0Q m;refine AWp.cutXW 2 (fun τ => ∃ S U,i0 (S,U)=some d1/\τ=⟨[(1,zl 1 c),(3,(.func 96 [] [.ptr 0 0,.ptr 2 0])),(6,.ptr 6 0),(16,(.d (.int .i64 (A.len c)))),(17,zi e)],[(.cells [(.map 1)]),(.map true (zz1) S),.cells [.gref 7 41],.dead,.dead,.dead,(.arr 1 r),.gro 41 U,.dead,.dead],91⟩) ?_ ?_
   ·refine AWp.iterW c2 (fun (l,F,G)=>⟨[(1,zl 1 c),(3,(.func 96 [] [.ptr 0 0,.ptr 2 0])),(6,.ptr 6 0),(8,zi e),(16,(.d (.int .i64 (A.len c)))),(17,zi e),(23,zl 3 g),(24,(.d (.int .i64 (A.len g)))),(25,zi l)],[(.cells [(.map 1)]),(.map true (zz1) F),.cells [.gref 7 41],.dead,.dead,.dead,(.arr 1 r),.gro 41 G,.dead,.dead],91⟩) ⟨_,zR zy6 [1,3,6,8,16,17,23,24,25] (h:=(by first | (cbv;done) | ((repeat (cbv;simp only [s]));try cbv))),rfl⟩ ?_
    rintro ⟨l,F,G⟩ c1 a;dsimp only [a8i] at a;refine zs (zA (nT (zs ?_)));rcases tf (A.zlt l (A.len g)) with p | p
    ·replace a:=cT p a;refine zT ?_ (hb:=(by first | rfl | simp only [p,zqa,zqb,zqc,zqd]))
     refine zk (nT (zs (zb (zs ?_))));obtain ⟨⟨K,N,O⟩,m0,a⟩:=a0a a;obtain ⟨e1,g1⟩:=gtI m0;refine zA ?_ { tk:=[29] } (h:=(by (repeat (cbv;simp only [p,e1,g1]));try cbv))
     refine nT (zs ?_);obtain ⟨_,n0,a⟩:=a0a a;have i1:=ckI n0;obtain ⟨_,o0,a⟩:=a0a a;have j1:=ckI o0;obtain ⟨j2,p0,a⟩:=a0a a;have k1:=gcI p0;obtain ⟨_,q0,a⟩:=a0a a;have l1:=nkI q0;refine zA ?_ (h:=(by (repeat (cbv;simp only [p,i1,j1,k1,l1]));try cbv))
     refine nT (zs (zs ?_));obtain ⟨E,r0,a⟩:=a0a a;obtain ⟨m1,n1,o1,p1⟩:=slI r0;refine zA ?_ (h:=(by (repeat (cbv;simp only [p,a0,b0,m1,n1,o1,p1]));try cbv))
     refine nT (zb ?_);obtain ⟨s2,b2,g0,y1,P⟩:=a0Q a;refine AWp.cutXW 4 (fun τ => ∃ M,g0 M=some c1/\τ=⟨[(1,zl 1 c),(3,(.func 96 [] [.ptr 0 0,.ptr 2 0])),(6,.ptr 6 0),(8,zi e),(9,zi l),(11,.d (.bool M)),(16,(.d (.int .i64 (A.len c)))),(17,zi e),(23,zl 3 g),(24,(.d (.int .i64 (A.len g)))),(25,zi l)],[(.cells [(.map 1)]),(.map true (zz1) F),.cells [.gref 7 41],.dead,.dead,.dead,(.arr 1 r),.gro 41 G,.dead,.dead],91⟩) ?_ ?_
     ·refine AWp.iterW b2 (fun (L,J)=>⟨[(1,zl 1 c),(3,(.func 96 [] [.ptr 0 0,.ptr 2 0])),(6,.ptr 6 0),(8,zi e),(9,zi l),(10,(.lbox [zi K,zi N,zi O])),(11,.d (.bool L)),(16,(.d (.int .i64 (A.len c)))),(17,zi e),(23,zl 3 g),(24,(.d (.int .i64 (A.len g)))),(25,zi l),(43,zl 3 E),(44,(.d (.int .i64 (A.len E)))),(45,zi J)],[(.cells [(.map 1)]),(.map true (zz1) F),.cells [.gref 7 41],.dead,.dead,.dead,(.arr 1 r),.gro 41 G,.dead,.dead],91⟩) ⟨_,zR zy6 [1,3,6,8,9,10,11,16,17,23,24,25,43,44,45] (h:=(by first | (cbv;done) | ((repeat (cbv;simp only [p]));try cbv))),rfl⟩ ?_
      rintro ⟨L,J⟩ n2 j;dsimp only [a6s] at j;refine zs (zA (nT (zs ?_)));rcases tf (A.zlt J (A.len E)) with i | i
      ·replace j:=cT i j;refine zT ?_ (hb:=(by first | rfl | simp only [i,zqa,zqb,zqc,zqd]))
       refine zk (nT (zs (zb (zs ?_))));obtain ⟨⟨k0,k2,l2⟩,s0,j⟩:=a0a j;obtain ⟨q1,r1⟩:=gtI s0;refine zA ?_ { tk:=[49] } (h:=(by (repeat (cbv;simp only [i,q1,r1]));try cbv))
       refine nT (zs ?_);obtain ⟨e0,o,j⟩:=a0a j;refine AWp.cutW (fun τ=>τ=⟨[(1,zl 1 c),(3,(.func 96 [] [.ptr 0 0,.ptr 2 0])),(6,.ptr 6 0),(8,zi e),(9,zi l),(10,(.lbox [zi K,zi N,zi O])),(11,.d (.bool L)),(12,zi J),(14,.d (.bool e0)),(16,(.d (.int .i64 (A.len c)))),(17,zi e),(23,zl 3 g),(24,(.d (.int .i64 (A.len g)))),(25,zi l),(43,zl 3 E),(44,(.d (.int .i64 (A.len E)))),(45,zi J)],[(.cells [(.map 1)]),(.map true (zz1) F),.cells [.gref 7 41],.dead,.dead,.dead,(.arr 1 r),.gro 41 G,.dead,.dead],91⟩) ?_ ?_
       ·rcases tf (A.zeq K 3) with u | u
        ·replace o:=cT u o;refine zA ?_ (h:=(by (repeat (cbv;simp only [i,u]));try cbv))
         cases soI o;exact oWi ⟨_,(zR zy6 [1,3,6,8,9,10,11,12,14,16,17,23,24,25,43,44,45] (h:=(by first | (cbv;done) | ((repeat (cbv;simp only [i,u]));try cbv)))),rfl⟩
        replace o:=cF u o;rcases tf (A.zeq k0 3) with w | w
        ·replace o:=cT w o;refine zA ?_ (h:=(by (repeat (cbv;simp only [i,u,w]));try cbv))
         cases soI o;exact oWi ⟨_,(zR zy6 [1,3,6,8,9,10,11,12,14,16,17,23,24,25,43,44,45] (h:=(by first | (cbv;done) | ((repeat (cbv;simp only [i,u,w]));try cbv)))),rfl⟩
        replace o:=cF w o;refine zA ?_ (h:=(by (repeat (cbv;simp only [i,u,w]));try cbv))
        cases soI o;exact oWi ⟨_,(zR zy6 [1,3,6,8,9,10,11,12,14,16,17,23,24,25,43,44,45] (h:=(by first | (cbv;done) | ((repeat (cbv;simp only [i,u,w]));try cbv)))),rfl⟩
       rintro _ rfl;refine nT ?_;obtain ⟨e2,b,j⟩:=a0a j;refine AWp.cutW (fun τ=>τ=⟨[(1,zl 1 c),(3,(.func 96 [] [.ptr 0 0,.ptr 2 0])),(6,.ptr 6 0),(8,zi e),(9,zi l),(10,(.lbox [zi K,zi N,zi O])),(11,.d (.bool e2)),(16,(.d (.int .i64 (A.len c)))),(17,zi e),(23,zl 3 g),(24,(.d (.int .i64 (A.len g)))),(25,zi l),(43,zl 3 E),(44,(.d (.int .i64 (A.len E)))),(45,zi J)],[(.cells [(.map 1)]),(.map true (zz1) F),.cells [.gref 7 41],.dead,.dead,.dead,(.arr 1 r),.gro 41 G,.dead,.dead],91⟩) ?_ ?_
       ·rcases tf L with v | v
        ·replace b:=cT v b;rcases tf e0 with y | y
         ·replace b:=cT y b;obtain ⟨_,u0,b⟩:=a0a b;have s1:=ckI u0;obtain ⟨_,v0,b⟩:=a0a b;have u1:=ckI v0;obtain ⟨m2,w0,b⟩:=a0a b;have v1:=gcI w0;obtain ⟨_,y0,b⟩:=a0a b;have w1:=nkI y0;refine zA ?_ (h:=(by (repeat (cbv;simp only [v,y,s1,u1,v1,w1]));try cbv))
          cases soI b;exact oWi ⟨_,(zR zy6 [1,3,6,8,9,10,11,16,17,23,24,25,43,44,45] (h:=(by first | (cbv;done) | ((repeat (cbv;simp only [v,y]));try cbv)))),rfl⟩
         replace b:=cF y b;refine zA ?_ (h:=(by (repeat (cbv;simp only [v,y]));try cbv))
         cases soI b;exact oWi ⟨_,(zR zy6 [1,3,6,8,9,10,11,16,17,23,24,25,43,44,45] (h:=(by first | (cbv;done) | ((repeat (cbv;simp only [v,y]));try cbv)))),rfl⟩
        replace b:=cF v b;refine zA ?_ (h:=(by (repeat (cbv;simp only [v]));try cbv))
        cases soI b;exact oWi ⟨_,(zR zy6 [1,3,6,8,9,10,11,16,17,23,24,25,43,44,45] (h:=(by first | (cbv;done) | ((repeat (cbv;simp only [v]));try cbv)))),rfl⟩
       rintro _ rfl;refine nB (nT (zA ?_));exact nT ⟨_,(soI j).symm,_,zR zy6 [1,3,6,8,9,10,11,16,17,23,24,25,43,44,45],rfl⟩
      replace j:=cF i j;refine zU ?_ (hb:=(by first | rfl | simp only [i,zqa,zqb,zqc,zqd]))
      refine AWp.exit (xT (xT ?_));refine exL j ?_;rintro rfl;exact a7Z ⟨_,(zR zy6 [1,3,6,8,9,11,16,17,23,24,25] (h:=(by first | (cbv;done) | ((repeat (cbv;simp only [i]));try cbv)))),_,P,rfl⟩
     rintro _ ⟨M,P,rfl⟩;have a:=(y1 _ P);refine xB (nT (zs (zA (nT ?_))));obtain ⟨⟨g2,i2⟩,k,a⟩:=a0a a;refine AWp.cutW (fun τ=>τ=⟨[(1,zl 1 c),(3,(.func 96 [] [.ptr 0 0,.ptr 2 0])),(6,.ptr 6 0),(8,zi e),(16,(.d (.int .i64 (A.len c)))),(17,zi e),(23,zl 3 g),(24,(.d (.int .i64 (A.len g)))),(25,zi l)],[(.cells [(.map 1)]),(.map true (zz1) g2),.cells [.gref 7 41],.dead,.dead,.dead,(.arr 1 r),.gro 41 i2,.dead,.dead],91⟩) ?_ ?_
     ·rcases tf M with q | q
      ·replace k:=cT q k;refine zT ?_ (hb:=(by first | rfl | simp only [q,zqa,zqb,zqc,zqd]))
       refine zn ?_;obtain ⟨o2,z0,k⟩:=a0a k;obtain ⟨z,B,C⟩:=gaI z0;obtain ⟨p2,a1,k⟩:=a0a k;refine zC (c0M hA a1) ?_ (h:=(by (repeat (cbv;simp only [q,z,B,C,z,B,C]));try cbv))
       obtain ⟨⟨q2,r2⟩,b1,k⟩:=a0a k;refine zC (b9f hA b1) ?_ (h:=(by (repeat (cbv;simp only [q,z,B,C,z,B,C]));try cbv))
       refine zE ?_ (h:=(by (repeat (cbv;simp only [q,z,B,C,z,B,C]));try cbv))
       cases soI k;exact oWi ⟨_,(zR zy1 [1,3,6,8,16,17,23,24,25] (h:=(by first | (cbv;done) | ((repeat (cbv;simp only [q,z,B,C]));try cbv)))),rfl⟩
      replace k:=cF q k;refine zU ?_ (hb:=(by first | rfl | simp only [q,zqa,zqb,zqc,zqd]))
      refine zk ?_;cases soI k;exact oWi ⟨_,(zR zy6 [1,3,6,8,16,17,23,24,25] (h:=(by first | (cbv;done) | ((repeat (cbv;simp only [q]));try cbv)))),rfl⟩
     rintro _ rfl;refine nB (nT (zA ?_));exact nT ⟨_,(soI a).symm,_,zR zy6 [1,3,6,8,16,17,23,24,25],rfl⟩
    replace a:=cF p a;refine zU ?_ (hb:=(by first | rfl | simp only [p,zqa,zqb,zqc,zqd]))
    refine AWp.exit (xT (xT ?_));refine exL a ?_;rintro rfl;exact a7Z ⟨_,(zR zy6 [1,3,6,16,17] (h:=(by first | (cbv;done) | ((repeat (cbv;simp only [p]));try cbv)))),_,_,Q,rfl⟩
   rintro _ ⟨S,U,Q,rfl⟩;have m:=(z1 _ Q);refine xB (nB (nT (zA ?_)));exact nT ⟨_,(soI m).symm,_,zR zy6 [1,3,6,16,17],rfl⟩
  replace m:=cF s m;refine zU ?_ (hb:=(by first | rfl | simp only [s,zqa,zqb,zqc,zqd]))
  refine AWp.exit (xT (xT ?_));refine exL m ?_;rintro rfl;exact a7Z ⟨_,(zR zy8 [] (h:=(by first | (cbv;done) | ((repeat (cbv;simp only [s]));try cbv)))),_,_,R,rfl⟩
 rintro _ ⟨V,W,R,rfl⟩;have h:=(a2 _ R);refine xB ?_;cases soI h;exact zq

theorem b9g {A:Ar} (hA:SA A) {b:Int} {a:Bool} (h:b8E A b=some a):a0h Try.prog 138 [zi b] [] (.d (.bool a)) []:=by
 unfold b8E at h;refine zI Try.func138 ?_;refine zs (zA (nT (zs ?_)));refine zA (nT (zr ?_)) { tk:=[5] };cases soI h;exact zq

theorem c1v {A:Ar} (hA:SA A) {a b l:Int} (h:b8W A a b=some l):a0h Try.prog 118 [zi a,zi b] [] (zi l) []:=by
 unfold b8W at h;refine zI Try.func118 ?_;refine zs (zA (nT (zs (zn ?_))));obtain ⟨o,m,h⟩:=a0a h;refine zC (b9g hA m) ?_;refine zE (nT (zs (zn ?_)));obtain ⟨k,n,h⟩:=a0a h;refine zC (b9g hA n) ?_;refine zE (nT (zs (zs ?_)));refine zA (nT ?_);rcases tf o with g | g
 ·replace h:=cT g h;refine zT (zs (zs ?_));refine zB (nT ?_);rcases tf k with i | i
  ·replace h:=cT i h;refine zT (zs ?_);refine zB (nT (zr (rT (rT ?_))));cases soI h;exact zq
  replace h:=cF i h;refine zU (zk (nT (zs ?_)));refine zB (nT (zr (rT ?_)));cases soI h;exact zq
 replace h:=cF g h;refine zU (zk (nT (zs (zs ?_))));refine zB (nT ?_);rcases tf k with j | j
 ·replace h:=cT j h;refine zT (zs ?_);refine zB (nT (zr (rT ?_)));cases soI h;exact zq
 replace h:=cF j h;refine zU (zk (nT (zs (zs ?_))));refine zB (nT ?_);rcases tf (A.zlt a b) with c | c
 ·replace h:=cT c h;refine zT (zs ?_);refine zB (nT (zr (rT ?_)));cases soI h;exact zq
 replace h:=cF c h;refine zU (zk (nT (zs (zs ?_))));refine zB (nT ?_);rcases tf (A.zlt b a) with e | e
 ·replace h:=cT e h;refine zT (zs ?_);refine zB (nT (zr (rT ?_)));cases soI h;exact zq
 replace h:=cF e h;refine zU (zk (nT (zs ?_)));refine zB (nT (zr ?_));cases soI h;exact zq

theorem c1w {A:Ar} (hA:SA A) {c e:List D} {o:Int} (h:M98 A c e=some o):a0h Try.prog 98 [zl 1 c,zl 1 e] [] (zi o) []:=by
 unfold M98 at h;refine zI Try.func98 ?_;refine zs (zA (nT (zs (zs ?_))));refine zA (nT (zb ?_));obtain ⟨G,u,p,m,b⟩:=a0Q h;refine zM 0 [0,1] [] 0 (fun τ=>p (.inl ())=some o/\τ=⟨[(0,zl 1 c),(1,zl 1 e)],[],36⟩) ?_ ?_
 ·refine zP u [0,1,9,10,11] [] 0 (fun g=>⟨[(0,zl 1 c),(1,zl 1 e),(9,zl 1 c),(10,(.d (.int .i64 (A.len c)))),(11,zi g)],[],36⟩) ⟨rfl,zc⟩ ?_;rintro g z a;dsimp only [a9w] at a;refine zs (zA (nT (zs ?_)));rcases tf (A.zlt g (A.len c)) with i | i
  ·replace a:=cT i a;refine zT (zk (nT (zs (zb (zs ?_)))));obtain ⟨w,q,a⟩:=a0a a;obtain ⟨B,C⟩:=gtI q;refine zB (nT (zs (zs ?_)));refine zB (nT ?_);rcases tf (A.zle (A.len e) g) with j | j
   ·replace a:=cT j a;refine zT (zs ?_);refine zB (nT (zr (rT (rB (rT (rT ?_))))));refine exL a ?_;rintro rfl;refine oxR ?_;replace b:=(eR (m _ b));refine rB (rT ?_);cases soI b;exact zq
   replace a:=cF j a;refine zU (zk (nT (zs ?_)));obtain ⟨y,r,a⟩:=a0a a;obtain ⟨E,F⟩:=gtI r;refine zB (nT (zs (zn ?_)));obtain ⟨v,s,a⟩:=a0a a;refine zD (c1v hA s) ?_ { tk:=[26] };refine zF (nT (zs ?_)) { tk:=[26] };refine zB (nT ?_);rcases tf (A.zeq v 0) with k | k
   ·replace a:=cT k a;refine zU (zk (nB (nT ?_)));refine zB ?_;exact nT ⟨_,(soI a).symm,rfl,zv⟩
   replace a:=cF k a;refine zT (zs ?_);refine zB (nT (zr (rB (rT (rT ?_))))) { tk:=[8,29] };refine exL a ?_;rintro rfl;refine oxR ?_;replace b:=(eR (m _ b));refine rB (rT ?_);cases soI b;exact zq
  replace a:=cF i a;refine zU (AWp.exit (xT (xT ?_)));refine exL a ?_;rintro rfl;exact oxI ⟨rfl,b,zv⟩
 rintro _ ⟨b,rfl⟩;have h:=(eL (m _ b));refine xB (nT (zs (zs (zA (nT ?_)))));rcases tf (A.zlt (A.len c) (A.len e)) with l | l
 ·replace h:=cT l h;refine zT (zs ?_);refine zB (nT (zr (rT ?_)));cases soI h;exact zq
 replace h:=cF l h;refine zU (zk (nT (zs ?_)));refine zB (nT (zr ?_));cases soI h;exact zq
end Go.Am
