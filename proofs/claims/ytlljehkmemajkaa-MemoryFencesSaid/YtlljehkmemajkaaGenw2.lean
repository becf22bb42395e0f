import Derived.Test.YtlljehkmemajkaaGenw1
set_option maxRecDepth 100000
set_option maxHeartbeats 2000000
set_option linter.unusedVariables false
set_option linter.unusedSimpArgs false
namespace Go.Am
open Go Go.Proofs
theorem c0y {A:Ar} (hA:SA A) {a b:Int} {d r:List D} (h:M97 A a b d=some r):a0l Try.prog 97 [.mref 0 1 a b,(.func 98 [] [])] [(.arr 1 d)] (.tuple []) [(.arr 1 r)] :=
 a0l.sortOne Try.sort97 rfl (c:=(cL 1)) (fun _=>rfl) (g:=98) (caps:=[]) rfl (fun _ _ _ h=>b9j hA h) rfl rfl h (i:=0) rfl rfl

theorem b6Z {A:Ar} (hA:SA A) {c e:List D} {l:Bool} (h:b6B A c e=some l):a0l Try.prog 100 [zl 1 c,zl 1 e] [] (.d (.bool l)) []:=by
 unfold b6B at h;refine zI Try.func100 ?_;refine zs (zA (nT (zs (zs ?_))));refine zA (nT ?_);rcases tf (A.zeq (A.len c) (A.len e)) with j | j
 ·replace h:=cT j h;refine zU (zk (nT (zs (zs ?_))));refine zB (nT (zb ?_));obtain ⟨C,u,o,m,b⟩:=a0T h;refine zM 0 [] [] 0 (fun τ=>o (.inl ())=some l/\τ=⟨[],[],26⟩) ?_ ?_
  ·refine zP u [0,1,12,13] [] 0 (fun k=>⟨[(0,zl 1 c),(1,zl 1 e),(12,(.d (.int .i64 (A.len c)))),(13,zi k)],[],26⟩) ⟨rfl,zv⟩ ?_;rintro k v a;dsimp only [a7t] at a;refine zs (zA (nT (zs ?_)));rcases tf (A.zlt k (A.len c)) with g | g
   ·replace a:=cT g a;refine zT (zk (nT (zs (zb (zs ?_)))));refine zB (nT (zs ?_));obtain ⟨p,r,a⟩:=a0a a;obtain ⟨w,y⟩:=gtI r;obtain ⟨q,s,a⟩:=a0a a;obtain ⟨z,B⟩:=gtI s;refine zH ?_;refine nT ?_;rcases tf (A.zeq p q) with i | i
    ·replace a:=cT i a;refine zU (zk (nB (nT ?_)));refine zB ?_;exact nT ⟨_,(soI a).symm,rfl,zv⟩
    replace a:=cF i a;refine zT (zs ?_);refine zB (nT (zr (rB (rT (rT ?_)))));refine exL a ?_;rintro rfl;refine oxR ?_;replace b:=(eR (m _ b));refine rB (rT ?_);cases soI b;exact zq
   replace a:=cF g a;refine zU (AWp.exit (xT (xT ?_)));refine exL a ?_;rintro rfl;exact oxI ⟨rfl,b,zv⟩
  rintro _ ⟨b,rfl⟩;have h:=(eL (m _ b));refine xB (nT (zs (zA (nT (zr ?_)))));cases soI h;exact zq
 replace h:=cF j h;refine zT (zs ?_);refine zB (nT (zr (rT ?_)));cases soI h;exact zq

theorem c0z {A:Ar} (hA:SA A) {m j:Int} {s:List D} {y z:Int} {B:List D} (h:M99 A m j s=some (y,z,B)):a0l Try.prog 99 [.mref 0 1 m j,(.func 100 [] [])] [(.arr 1 s)] (.mref 0 1 y z) [(.arr 1 B)]:=by
 unfold M99 at h;refine zI Try.func99 ?_;refine zs (zA (nT (zs (zs ?_))));refine zA (nT ?_);rcases tf (A.zlt j 2) with o | o
 ·replace h:=cT o h;refine zT ?_ (hb:=(by first | rfl | simp only [o,zqa,zqb,zqc,zqd]))
  refine zs ?_;refine zA ?_ { tk:=[0,11] } (h:=(by (repeat (cbv;simp only [o]));try cbv))
  refine nT (zr (rT ?_));cases soI h;exact zq
 replace h:=cF o h;refine zU ?_ (hb:=(by first | rfl | simp only [o,zqa,zqb,zqc,zqd]))
 refine zk (nT (zs (zs ?_)));refine zA ?_ (h:=(by (repeat (cbv;simp only [o]));try cbv))
 refine nT (zb ?_);obtain ⟨s2,d2,W,R,q⟩:=a0T h;refine zM 0 [0] [] 1 (fun τ=>W (.inl ())=some (y,z,B)/\τ=⟨[(0,.mref 0 1 m j)],[(.arr 1 s)],66⟩) ?_ ?_
 ·refine zP d2 [0,1,5] [] 1 (fun p=>⟨[(0,.mref 0 1 m j),(1,(.func 100 [] [])),(5,zi p)],[(.arr 1 s)],66⟩) ⟨rfl,(by first | (cbv;done) | ((repeat (cbv;simp only [o]));try cbv))⟩ ?_
  rintro p j1 a;dsimp only [b0b] at a;refine zs (zs (zA (nT ?_)));rcases tf (A.zlt p j) with e | e
  ·replace a:=cT e a;refine zT ?_ (hb:=(by first | rfl | simp only [e,zqa,zqb,zqc,zqd]))
   refine zk (nT (zs (zb (zs ?_))));refine zQ ?_;obtain ⟨_,X,a⟩:=a0a a;have C:=ckI X;obtain ⟨_,Y,a⟩:=a0a a;have E:=ckI Y;obtain ⟨k2,a0,a⟩:=a0a a;have F:=gcI a0;obtain ⟨_,b0,a⟩:=a0a a;have G:=ckI b0;obtain ⟨_,d0,a⟩:=a0a a;have J:=ckI d0;obtain ⟨l2,e0,a⟩:=a0a a;have K:=gcI e0;obtain ⟨e2,g0,a⟩:=a0a a;refine a2e.c0 hT hA {} rfl (by (repeat (cbv;simp only [e,C,E,F,G,J,K]));try cbv) (b6Z hA g0) rfl rfl (lb rfl) rfl rfl ?_
   refine zJ ?_ (h:=(by (repeat (cbv;simp only [e,C,E,F,G,J,K]));try cbv))
   refine nT ?_;rcases tf e2 with k | k
   ·replace a:=cT k a;refine zT ?_ (hb:=(by first | rfl | simp only [e,k,zqa,zqb,zqc,zqd]))
    refine zs ?_;obtain ⟨_,i0,a⟩:=a0a a;have k1:=ckI i0;obtain ⟨_,j0,a⟩:=a0a a;have l1:=ckI j0;obtain ⟨_,k0,a⟩:=a0a a;have m1:=ckI k0;refine zA ?_ (h:=(by (repeat (cbv;simp only [e,k,k1,l1,m1]));try cbv))
    refine nT (zs (zs ?_));refine zA ?_ (h:=(by (repeat (cbv;simp only [e,k]));try cbv))
    refine nT (zb ?_);obtain ⟨r2,c2,V,b2,u⟩:=a0T a;refine zM 2 [0,5] [] 1 (fun τ => ∃ v w,V (v,w)=some j1/\τ=⟨[(0,.mref 0 1 m j),(5,zi v)],[(.arr 1 w)],66⟩) ?_ ?_
    ·refine zP c2 [0,1,5,6,7] [] 1 (fun (S,r,U)=>⟨[(0,.mref 0 1 m j),(1,(.func 100 [] [])),(5,zi S),(6,.mref 0 1 (A.zadd m p) (A.zsub j p)),(7,zi r)],[(.arr 1 U)],66⟩) ⟨rfl,(by first | (cbv;done) | ((repeat (cbv;simp only [e,k]));try cbv))⟩ ?_
     rintro ⟨S,r,U⟩ q2 b;dsimp only [a8C] at b;refine zs (zs (zA (nT ?_)));rcases tf (A.zlt r (A.zsub j p)) with i | i
     ·replace b:=cT i b;refine zT ?_ (hb:=(by first | rfl | simp only [i,zqa,zqb,zqc,zqd]))
      refine zk (nT (zs (zb (zs ?_))));refine zQ ?_;obtain ⟨_,l0,b⟩:=a0a b;have L:=ckI l0;obtain ⟨_,m0,b⟩:=a0a b;have M:=ckI m0;obtain ⟨m2,n0,b⟩:=a0a b;have N:=gcI n0;obtain ⟨_,o0,b⟩:=a0a b;have O:=ckI o0;obtain ⟨_,p0,b⟩:=a0a b;have P:=ckI p0;obtain ⟨n2,q0,b⟩:=a0a b;have Q:=gcI q0;obtain ⟨g2,r0,b⟩:=a0a b;refine a2e.c0 hT hA {} rfl (by (repeat (cbv;simp only [i,L,M,N,O,P,Q]));try cbv) (b6Z hA r0) rfl rfl (lb rfl) rfl rfl ?_
      refine zJ ?_ (h:=(by (repeat (cbv;simp only [i,L,M,N,O,P,Q]));try cbv))
      refine nT ?_;obtain ⟨⟨i2,j2⟩,c,b⟩:=a0a b;refine zN [0,1,5,6,7] [] 1 (fun τ=>τ=⟨[(0,.mref 0 1 m j),(1,(.func 100 [] [])),(5,zi i2),(6,.mref 0 1 (A.zadd m p) (A.zsub j p)),(7,zi r)],[(.arr 1 j2)],66⟩) ?_ ?_
      ·rcases tf g2 with l | l
       ·replace c:=cT l c;refine zU ?_ (hb:=(by first | rfl | simp only [i,l,zqa,zqb,zqc,zqd]))
        refine zk ?_;cases soI c;exact (zO (g:=(by first | (cbv;done) | ((repeat (cbv;simp only [i,l]));try cbv))))
       replace c:=cF l c;refine zT ?_ (hb:=(by first | rfl | simp only [i,l,zqa,zqb,zqc,zqd]))
       refine zs ?_;obtain ⟨_,s0,c⟩:=a0a c;have n1:=ckI s0;obtain ⟨_,u0,c⟩:=a0a c;have o1:=ckI u0;obtain ⟨o2,v0,c⟩:=a0a c;have p1:=gcI v0;obtain ⟨_,w0,c⟩:=a0a c;have q1:=ckI w0;obtain ⟨_,y0,c⟩:=a0a c;have r1:=ckI y0;obtain ⟨p2,z0,c⟩:=a0a c;refine zA ?_ { tk:=[55] } (h:=(by (repeat (cbv;simp only [i,l,n1,o1,p1,q1,r1,z0]));try cbv))
       refine nT ?_;refine zA ?_ (h:=(by (repeat (cbv;simp only [i,l]));try cbv))
       cases soI c;exact (zO (g:=(by first | (cbv;done) | ((repeat (cbv;simp only [i,l]));try cbv))))
      rintro _ rfl;refine nB (nT (zA ?_));exact nT ⟨_,(soI b).symm,rfl,zc⟩
     replace b:=cF i b;refine zU ?_ (hb:=(by first | rfl | simp only [i,zqa,zqb,zqc,zqd]))
     refine AWp.exit (xT (xT ?_));refine exL b ?_;rintro rfl;exact oxI ⟨rfl,_,_,u,(by first | (cbv;done) | ((repeat (cbv;simp only [i]));try cbv))⟩
    rintro _ ⟨v,w,u,rfl⟩;have a:=(b2 _ u);refine xB (nT (zs ?_));obtain ⟨_,a1,a⟩:=a0a a;have s1:=ckI a1;obtain ⟨_,b1,a⟩:=a0a a;have u1:=ckI b1;obtain ⟨_,c1,a⟩:=a0a a;have v1:=ckI c1;obtain ⟨_,d1,a⟩:=a0a a;have w1:=ckI d1;refine zA ?_ (h:=(by (repeat (cbv;simp only [s1,u1,v1,w1]));try cbv))
    refine nT (zs ?_);obtain ⟨_,e1,a⟩:=a0a a;have y1:=ckI e1;obtain ⟨_,g1,a⟩:=a0a a;have z1:=ckI g1;obtain ⟨_,i1,a⟩:=a0a a;have a2:=ckI i1;refine zA ?_ { tk:=[64] } (h:=(by (repeat (cbv;simp only [y1,z1,a2]));try cbv))
    refine nT (zr (rB (rT (rT ?_))));refine exL a ?_;rintro rfl;refine oxR ?_;replace q:=(eR (R _ q));refine rB (rT ?_);cases soI q;exact zq
   replace a:=cF k a;refine zU ?_ (hb:=(by first | rfl | simp only [e,k,zqa,zqb,zqc,zqd]))
   refine zk (nB (nT ?_));refine zA ?_ (h:=(by (repeat (cbv;simp only [e,k]));try cbv))
   exact nT ⟨_,(soI a).symm,rfl,(by first | (cbv;done) | ((repeat (cbv;simp only [e,k]));try cbv))⟩
  replace a:=cF e a;refine zU ?_ (hb:=(by first | rfl | simp only [e,zqa,zqb,zqc,zqd]))
  refine AWp.exit (xT (xT ?_));refine exL a ?_;rintro rfl;exact oxI ⟨rfl,q,(by first | (cbv;done) | ((repeat (cbv;simp only [e]));try cbv))⟩
 rintro _ ⟨q,rfl⟩;have h:=(eL (R _ q));refine xB (nT (zs (zA (nT (zr ?_)) { tk:=[0,65] })));cases soI h;exact zq

theorem c0A {A:Ar} (hA:SA A) {g:List D} {i z B:Int} {C:List D} (h:M56 A g i=some (z,B,C)):a0l Try.prog 56 [zl 1 g,.d (.iface i)] [] (.mref 0 1 z B) [(.arr 1 C)]:=by
 unfold M56 at h;refine zI Try.func56 ?_;refine zs (zA (nT (zs ?_)));obtain ⟨_,N,h⟩:=a0a h;have f4:=ckI N;refine zB (nT (zs ?_)) { tk:=[9,12],esc:=[5] };have f5:=lnF hA (l:=((.int .u8 0)::(.int .u8 0)::(.int .u8 0)::(.int .i8 0)::(.int .i8 0)::(.int .i8 0)::(.int .i8 0)::(.int .i8 0)::(.int .i8 0)::(.int .i8 0)::(.int .i8 0)::(.int .i8 0)::(.int .i8 0)::(.int .i8 0)::(.int .i8 0)::(.int .i8 0)::(.int .i8 0)::(.int .i8 0)::(.int .i8 0)::(.int .i8 0)::(.int .i8 0)::(.int .i8 0)::(.int .i8 0)::(.int .i8 0)::(.int .i8 0)::(.int .i8 0)::(.int .i8 0)::(.int .i8 0)::(.int .i8 0)::(.int .i8 0)::(.int .i8 0)::(.int .i8 0)::(.int .i8 0)::(.int .i8 0)::(.int .i8 0)::(.int .i8 0)::(.int .i8 0)::(.int .i8 0)::(.int .i64 0)::(.int .i64 0)::(.int .i64 0)::[])) (n:=41) rfl;refine zB (nT (zs ?_)) { tk:=[14],esc:=[6],gr:=[14] };refine zA (nT (zs (zb ?_)));refine AWp.weak (Wk.settleS 7 rfl (lb rfl)) ?_;refine AWp.weak (Wk.ren [some 0,some 1,some 5,some 2,some 3,some 4,some 6,some 7,some 8] [0,1,5,6,7] rfl rfl) ?_;obtain ⟨l1,c0,F,b0,w⟩:=a0T h;refine AWp.cutXW 0 (fun τ => ∃ s,F s=some (z,B,C)/\τ=⟨[(7,.gref 0 1)],[.gro 1 s,.dead,.dead],47⟩) ?_ ?_
 ·refine AWp.iterW c0 (fun (j,c,E)=>⟨[(0,zl 1 g),(1,.d (.iface i)),(5,.ptr 1 0),(6,.ptr 2 0),(7,.gref 6 1)],[(.map true (.int .u8 :: .int .u8 :: .int .u8 :: .int .i8 :: .int .i8 :: .int .i8 :: .int .i8 :: .int .i8 :: .int .i8 :: .int .i8 :: .int .i8 :: .int .i8 :: .int .i8 :: .int .i8 :: .int .i8 :: .int .i8 :: .int .i8 :: .int .i8 :: .int .i8 :: .int .i8 :: .int .i8 :: .int .i8 :: .int .i8 :: .int .i8 :: .int .i8 :: .int .i8 :: .int .i8 :: .int .i8 :: .int .i8 :: .int .i8 :: .int .i8 :: .int .i8 :: .int .i8 :: .int .i8 :: .int .i8 :: .int .i8 :: .int .i8 :: .int .i8 :: .int .i64 :: .int .i64 :: .int .i64::[]) j),(.cells [(.map 0)]),.cells [.gref 3 41],.gro 41 c,.dead,.dead,.gro 1 E,.dead,.dead],47⟩) ⟨_,zR [some 0,some 1,some 2,some 3,some 4,some 5,some 6,some 7,some 8] [0,1,5,6,7],rfl⟩ ?_;rintro ⟨j,c,E⟩ i0 a;dsimp only [a7u] at a;refine zs (zs (zA (nT ?_)));rcases tf (A.zlt 0 (A.len c)) with u | u
  ·replace a:=cT u a;refine zT (zk (nT (zb (zs ?_))));obtain ⟨_,O,a⟩:=a0a a;have j0:=ckI O;obtain ⟨_,P,a⟩:=a0a a;have k0:=ckI P;obtain ⟨m,Q,a⟩:=a0a a;have l0:=gcI Q;obtain ⟨_,S,a⟩:=a0a a;have n0:=ckI S;obtain ⟨_,R,a⟩:=a0a a;have m0:=ckI R;refine zB (nT (zs ?_)) { tk:=[23],arr:=[8] };obtain ⟨_,U,a⟩:=a0a a;have o0:=ckI U;obtain ⟨_,V,a⟩:=a0a a;have p0:=ckI V;refine zB (nT ?_) { tk:=[28] };refine AWp.weak (Wk.settle 2 0 rfl rfl rfl) ?_;refine zs (zs (zn ?_));obtain ⟨y,W,a⟩:=a0a a;obtain ⟨q0,r0,s0⟩:=gaI W;obtain ⟨d0,X,a⟩:=a0a a;refine zD (c0v hA X) ?_;refine zF (nT ?_);obtain ⟨k,e,a⟩:=a0a a;refine AWp.cutW (fun τ=>τ=⟨[(0,zl 1 g),(1,.d (.iface i)),(5,.ptr 1 0),(6,.ptr 2 0),(7,.gref 7 1),(8,.ptr 3 0)],[(.map true (.int .u8 :: .int .u8 :: .int .u8 :: .int .i8 :: .int .i8 :: .int .i8 :: .int .i8 :: .int .i8 :: .int .i8 :: .int .i8 :: .int .i8 :: .int .i8 :: .int .i8 :: .int .i8 :: .int .i8 :: .int .i8 :: .int .i8 :: .int .i8 :: .int .i8 :: .int .i8 :: .int .i8 :: .int .i8 :: .int .i8 :: .int .i8 :: .int .i8 :: .int .i8 :: .int .i8 :: .int .i8 :: .int .i8 :: .int .i8 :: .int .i8 :: .int .i8 :: .int .i8 :: .int .i8 :: .int .i8 :: .int .i8 :: .int .i8 :: .int .i8 :: .int .i64 :: .int .i64 :: .int .i64::[]) j),(.cells [(.map 0)]),.cells [.gref 4 41],(.arr 1 (A.spl ((.int .u8 0)::(.int .u8 0)::(.int .u8 0)::(.int .i8 0)::(.int .i8 0)::(.int .i8 0)::(.int .i8 0)::(.int .i8 0)::(.int .i8 0)::(.int .i8 0)::(.int .i8 0)::(.int .i8 0)::(.int .i8 0)::(.int .i8 0)::(.int .i8 0)::(.int .i8 0)::(.int .i8 0)::(.int .i8 0)::(.int .i8 0)::(.int .i8 0)::(.int .i8 0)::(.int .i8 0)::(.int .i8 0)::(.int .i8 0)::(.int .i8 0)::(.int .i8 0)::(.int .i8 0)::(.int .i8 0)::(.int .i8 0)::(.int .i8 0)::(.int .i8 0)::(.int .i8 0)::(.int .i8 0)::(.int .i8 0)::(.int .i8 0)::(.int .i8 0)::(.int .i8 0)::(.int .i8 0)::(.int .i64 0)::(.int .i64 0)::(.int .i64 0)::[]) (A.zadd 0 (Int.ofNat 0)) m)),(.gro 41 (A.sub c 0 (A.wrp .i64 (A.zsub (A.len c) 1)))),.dead,.dead,.gro 1 k,.dead,.dead],47⟩) ?_ ?_
   ·rcases tf d0 with v | v
    ·replace e:=cT v e;refine zT (zn ?_);obtain ⟨k1,Y,e⟩:=a0a e;refine zD (c0x hA Y) ?_ { tk:=[7,37] };obtain ⟨w0,a0,e⟩:=a0a e;obtain ⟨u0,v0⟩:=apI a0;refine zF ?_ { tk:=[7,37],gr:=[37] };cases soI e;exact oWi ⟨_,zR [some 0,some 1,some 2,some 9,some 10,some 11,some 12,some 13,some 14,some 15] [0,1,5,6,7,8],rfl⟩
    replace e:=cF v e;refine zU (zk ?_);cases soI e;exact oWi ⟨_,zR [some 0,some 1,some 2,some 9,some 10,some 11,some 12,some 6,some 7,some 8] [0,1,5,6,7,8],rfl⟩
   rintro _ rfl;refine nT ?_;obtain ⟨⟨e0,g0⟩,b,a⟩:=a0a a;refine AWp.cutW (fun τ=>τ=⟨[(0,zl 1 g),(1,.d (.iface i)),(5,.ptr 1 0),(6,.ptr 2 0),(7,.gref 6 1)],[(.map true (.int .u8 :: .int .u8 :: .int .u8 :: .int .i8 :: .int .i8 :: .int .i8 :: .int .i8 :: .int .i8 :: .int .i8 :: .int .i8 :: .int .i8 :: .int .i8 :: .int .i8 :: .int .i8 :: .int .i8 :: .int .i8 :: .int .i8 :: .int .i8 :: .int .i8 :: .int .i8 :: .int .i8 :: .int .i8 :: .int .i8 :: .int .i8 :: .int .i8 :: .int .i8 :: .int .i8 :: .int .i8 :: .int .i8 :: .int .i8 :: .int .i8 :: .int .i8 :: .int .i8 :: .int .i8 :: .int .i8 :: .int .i8 :: .int .i8 :: .int .i8 :: .int .i64 :: .int .i64 :: .int .i64::[]) e0),(.cells [(.map 0)]),.cells [.gref 3 41],.gro 41 g0,.dead,.dead,.gro 1 k,.dead,.dead],47⟩) ?_ ?_
   ·refine zn ?_;rcases tf (A.zeq i (Int.ofNat 143)) with o | o
    ·replace b:=cT o b;rw [ifF hA (n:=143) o];obtain ⟨⟨y0,z0⟩,G,b⟩:=a0a b;refine zD (a0l.emb (args':=[.d (.agg []),zl 1 g,.d (.agg y),(.func 96 [] [.ptr 1 0,.ptr 2 0])]) (b9c hA G) [some 1,some 0,some 2,some 4,some 5,some 6] [(.map true (.int .u8 :: .int .u8 :: .int .u8 :: .int .i8 :: .int .i8 :: .int .i8 :: .int .i8 :: .int .i8 :: .int .i8 :: .int .i8 :: .int .i8 :: .int .i8 :: .int .i8 :: .int .i8 :: .int .i8 :: .int .i8 :: .int .i8 :: .int .i8 :: .int .i8 :: .int .i8 :: .int .i8 :: .int .i8 :: .int .i8 :: .int .i8 :: .int .i8 :: .int .i8 :: .int .i8 :: .int .i8 :: .int .i8 :: .int .i8 :: .int .i8 :: .int .i8 :: .int .i8 :: .int .i8 :: .int .i8 :: .int .i8 :: .int .i8 :: .int .i8 :: .int .i64 :: .int .i64 :: .int .i64::[]) j),(.cells [(.map 0)]),.cells [.gref 4 41],(.arr 1 (A.spl ((.int .u8 0)::(.int .u8 0)::(.int .u8 0)::(.int .i8 0)::(.int .i8 0)::(.int .i8 0)::(.int .i8 0)::(.int .i8 0)::(.int .i8 0)::(.int .i8 0)::(.int .i8 0)::(.int .i8 0)::(.int .i8 0)::(.int .i8 0)::(.int .i8 0)::(.int .i8 0)::(.int .i8 0)::(.int .i8 0)::(.int .i8 0)::(.int .i8 0)::(.int .i8 0)::(.int .i8 0)::(.int .i8 0)::(.int .i8 0)::(.int .i8 0)::(.int .i8 0)::(.int .i8 0)::(.int .i8 0)::(.int .i8 0)::(.int .i8 0)::(.int .i8 0)::(.int .i8 0)::(.int .i8 0)::(.int .i8 0)::(.int .i8 0)::(.int .i8 0)::(.int .i8 0)::(.int .i8 0)::(.int .i64 0)::(.int .i64 0)::(.int .i64 0)::[]) (A.zadd 0 (Int.ofNat 0)) m)),(.gro 41 (A.sub c 0 (A.wrp .i64 (A.zsub (A.len c) 1)))),.dead,.dead,.gro 1 k,.dead,.dead] rfl rfl rfl rfl rfl rfl rfl) ?_;refine zF ?_;cases soI b;exact oWi ⟨_,zR [some 0,some 1,some 2,some 10,some 11,some 12,some 7,some 8,some 9] [0,1,5,6,7],rfl⟩
    replace b:=cF o b;rcases tf (A.zeq i (Int.ofNat 144)) with p | p
    ·replace b:=cT p b;rw [ifF hA (n:=144) p];obtain ⟨⟨a1,b1⟩,J,b⟩:=a0a b;refine zD (a0l.emb (args':=[.d (.agg []),zl 1 g,.d (.agg y),(.func 96 [] [.ptr 1 0,.ptr 2 0])]) (b9g hA J) [some 1,some 0,some 2,some 4,some 5,some 6] [(.map true (.int .u8 :: .int .u8 :: .int .u8 :: .int .i8 :: .int .i8 :: .int .i8 :: .int .i8 :: .int .i8 :: .int .i8 :: .int .i8 :: .int .i8 :: .int .i8 :: .int .i8 :: .int .i8 :: .int .i8 :: .int .i8 :: .int .i8 :: .int .i8 :: .int .i8 :: .int .i8 :: .int .i8 :: .int .i8 :: .int .i8 :: .int .i8 :: .int .i8 :: .int .i8 :: .int .i8 :: .int .i8 :: .int .i8 :: .int .i8 :: .int .i8 :: .int .i8 :: .int .i8 :: .int .i8 :: .int .i8 :: .int .i8 :: .int .i8 :: .int .i8 :: .int .i64 :: .int .i64 :: .int .i64::[]) j),(.cells [(.map 0)]),.cells [.gref 4 41],(.arr 1 (A.spl ((.int .u8 0)::(.int .u8 0)::(.int .u8 0)::(.int .i8 0)::(.int .i8 0)::(.int .i8 0)::(.int .i8 0)::(.int .i8 0)::(.int .i8 0)::(.int .i8 0)::(.int .i8 0)::(.int .i8 0)::(.int .i8 0)::(.int .i8 0)::(.int .i8 0)::(.int .i8 0)::(.int .i8 0)::(.int .i8 0)::(.int .i8 0)::(.int .i8 0)::(.int .i8 0)::(.int .i8 0)::(.int .i8 0)::(.int .i8 0)::(.int .i8 0)::(.int .i8 0)::(.int .i8 0)::(.int .i8 0)::(.int .i8 0)::(.int .i8 0)::(.int .i8 0)::(.int .i8 0)::(.int .i8 0)::(.int .i8 0)::(.int .i8 0)::(.int .i8 0)::(.int .i8 0)::(.int .i8 0)::(.int .i64 0)::(.int .i64 0)::(.int .i64 0)::[]) (A.zadd 0 (Int.ofNat 0)) m)),(.gro 41 (A.sub c 0 (A.wrp .i64 (A.zsub (A.len c) 1)))),.dead,.dead,.gro 1 k,.dead,.dead] rfl rfl rfl rfl rfl rfl rfl) ?_;refine zF ?_;cases soI b;exact oWi ⟨_,zR [some 0,some 1,some 2,some 10,some 11,some 12,some 7,some 8,some 9] [0,1,5,6,7],rfl⟩
    replace b:=cF p b;rcases tf (A.zeq i (Int.ofNat 145)) with q | q
    ·replace b:=cT q b;rw [ifF hA (n:=145) q];obtain ⟨⟨c1,d1⟩,K,b⟩:=a0a b;refine zD (a0l.emb (args':=[.d (.agg []),zl 1 g,.d (.agg y),(.func 96 [] [.ptr 1 0,.ptr 2 0])]) (b9h hA K) [some 1,some 0,some 2,some 4,some 5,some 6] [(.map true (.int .u8 :: .int .u8 :: .int .u8 :: .int .i8 :: .int .i8 :: .int .i8 :: .int .i8 :: .int .i8 :: .int .i8 :: .int .i8 :: .int .i8 :: .int .i8 :: .int .i8 :: .int .i8 :: .int .i8 :: .int .i8 :: .int .i8 :: .int .i8 :: .int .i8 :: .int .i8 :: .int .i8 :: .int .i8 :: .int .i8 :: .int .i8 :: .int .i8 :: .int .i8 :: .int .i8 :: .int .i8 :: .int .i8 :: .int .i8 :: .int .i8 :: .int .i8 :: .int .i8 :: .int .i8 :: .int .i8 :: .int .i8 :: .int .i8 :: .int .i8 :: .int .i64 :: .int .i64 :: .int .i64::[]) j),(.cells [(.map 0)]),.cells [.gref 4 41],(.arr 1 (A.spl ((.int .u8 0)::(.int .u8 0)::(.int .u8 0)::(.int .i8 0)::(.int .i8 0)::(.int .i8 0)::(.int .i8 0)::(.int .i8 0)::(.int .i8 0)::(.int .i8 0)::(.int .i8 0)::(.int .i8 0)::(.int .i8 0)::(.int .i8 0)::(.int .i8 0)::(.int .i8 0)::(.int .i8 0)::(.int .i8 0)::(.int .i8 0)::(.int .i8 0)::(.int .i8 0)::(.int .i8 0)::(.int .i8 0)::(.int .i8 0)::(.int .i8 0)::(.int .i8 0)::(.int .i8 0)::(.int .i8 0)::(.int .i8 0)::(.int .i8 0)::(.int .i8 0)::(.int .i8 0)::(.int .i8 0)::(.int .i8 0)::(.int .i8 0)::(.int .i8 0)::(.int .i8 0)::(.int .i8 0)::(.int .i64 0)::(.int .i64 0)::(.int .i64 0)::[]) (A.zadd 0 (Int.ofNat 0)) m)),(.gro 41 (A.sub c 0 (A.wrp .i64 (A.zsub (A.len c) 1)))),.dead,.dead,.gro 1 k,.dead,.dead] rfl rfl rfl rfl rfl rfl rfl) ?_;refine zF ?_;cases soI b;exact oWi ⟨_,zR [some 0,some 1,some 2,some 10,some 11,some 12,some 7,some 8,some 9] [0,1,5,6,7],rfl⟩
    replace b:=cF q b;cases b
   rintro _ rfl;refine nB ?_;exact nT ⟨_,(soI a).symm,_,zR [some 0,some 1,some 2,some 3,some 4,some 5,some 6,some 7,some 8] [0,1,5,6,7],rfl⟩
  replace a:=cF u a;refine zU (AWp.exit (xT (xT ?_)));refine exL a ?_;rintro rfl;exact b5g ⟨_,zR [some 6,some 7,some 8] [7],_,w,rfl⟩
 rintro _ ⟨s,w,rfl⟩;have h:=(b0 _ w);refine xB (nT (zs ?_));rcases tf (A.zlt 0 (A.len s)) with r | r
 ·replace h:=cT r h;refine AWp.weak (Wk.groArr 7 rfl rfl (neL hA r) (c0i hA)) ?_;refine zn ?_;obtain ⟨e1,L,h⟩:=a0a h;refine zD (c0y hA L) ?_;refine zF (nT (zs (zn ?_)));obtain ⟨⟨g1,i1,j1⟩,M,h⟩:=a0a h;refine zD (c0z hA M) ?_ { tk:=[46] };refine zF (nT ?_) { tk:=[46] };refine AWp.weak (Wk.ren [some 0] [4] rfl rfl) ?_;refine zr ?_;cases soI h;exact zq
 replace h:=cF r h;cases h

theorem c0B {A:Ar} (hA:SA A) {e:List D} {g:Int} {b:List D} {c:Int} (h:M19 A e g=some (b,c)):a0l Try.prog 19 [zl 1 e,zi g] [] (.tuple [zl 1 b,zi c]) []:=by
 unfold M19 at h;refine zI Try.func19 ?_;refine zs (zA (nT (zs (zn ?_))));obtain ⟨⟨z,p⟩,l,h⟩:=a0a h;refine zC (c0u hA l) ?_;refine zE (nT (zs (zs ?_)));refine zA (nT ?_);rcases tf (A.zeq p 0) with a | a
 ·replace h:=cT a h;refine zU (zk (nT (zs (zn ?_))));obtain ⟨q,m,h⟩:=a0a h;have r:=gcI m;obtain ⟨⟨v,w,y⟩,j,h⟩:=a0a h;refine zD (c0A hA j) ?_;refine zF (nT ?_);obtain ⟨u,k,h⟩:=a0a h;obtain ⟨n,o⟩:=fzI hA k;refine AWp.freeze (s:=4) (i:=0) rfl rfl n o ?_;refine zr ?_;cases soI h;exact zq
 replace h:=cF a h;refine zT (zs ?_);refine zB (nT (zr (rT ?_)));cases soI h;exact zq

theorem b9k {A:Ar} (hA:SA A) {c i:List D} {q:Int} {r:Bool} (h:b6Q A c i=some (q,r)):a0l Try.prog 103 [zl 1 c,zl 1 i,(.func 98 [] [])] [] (.tuple [zi q,.d (.bool r)]) []:=by
 unfold b6Q at h;refine zI Try.func103 ?_;refine zs (zA (nT (zs ?_)));refine zA (nT (zs ?_));refine zA (nT (zs (zb ?_)));obtain ⟨U,C,s,B,m⟩:=a0T h;refine zM 0 [0,1,2,8,9] [] 0 (fun τ => ∃ g,s g=some (q,r)/\τ=⟨[(0,zl 1 c),(1,zl 1 i),(2,(.func 98 [] [])),(8,(.d (.int .i64 (A.len c)))),(9,zi g)],[],49⟩) ?_ ?_
 ·refine zP C [0,1,2,8,9,10] [] 0 (fun (o,p)=>⟨[(0,zl 1 c),(1,zl 1 i),(2,(.func 98 [] [])),(8,(.d (.int .i64 (A.len c)))),(9,zi o),(10,zi p)],[],49⟩) ⟨rfl,zc⟩ ?_;rintro ⟨o,p⟩ M a;dsimp only [a5M] at a;refine zs (zs (zA (nT ?_)));rcases tf (A.zlt o p) with j | j
  ·replace a:=cT j a;refine zT (zk (nT (zb (zs ?_))));obtain ⟨_,u,a⟩:=a0a a;have N:=nkI u;refine zB (nT (zs (zn ?_)));obtain ⟨K,v,a⟩:=a0a a;obtain ⟨O,P⟩:=gtI v;obtain ⟨E,w,a⟩:=a0a a;refine zD (b9j hA w) ?_;refine zF (nT ?_);obtain ⟨⟨F,G⟩,e,a⟩:=a0a a;refine zN [0,1,2,8,9,10] [] 0 (fun τ=>τ=⟨[(0,zl 1 c),(1,zl 1 i),(2,(.func 98 [] [])),(8,(.d (.int .i64 (A.len c)))),(9,zi F),(10,zi G)],[],49⟩) ?_ ?_
   ·rcases tf (A.zlt E 0) with k | k
    ·replace e:=cT k e;refine zT ?_;refine zB ?_;cases soI e;exact zO
    replace e:=cF k e;refine zU ?_;refine zB ?_;cases soI e;exact zO
   rintro _ rfl;refine nB ?_;exact nT ⟨_,(soI a).symm,rfl,zc⟩
  replace a:=cF j a;refine zU (AWp.exit (xT (xT ?_)));refine exL a ?_;rintro rfl;exact oxI ⟨rfl,_,m,zv⟩
 rintro _ ⟨g,m,rfl⟩;have h:=(B _ m);refine xB (nT (zs ?_));obtain ⟨J,b,h⟩:=a0a h;refine zN [6,7] [] 0 (fun τ=>τ=⟨[(6,zi g),(7,.d (.bool J))],[],49⟩) ?_ ?_
 ·refine zn ?_;rcases tf (A.zlt g (A.len c)) with l | l
  ·replace b:=cT l b;obtain ⟨L,y,b⟩:=a0a b;obtain ⟨Q,R⟩:=gtI y;obtain ⟨S,z,b⟩:=a0a b;refine zD (b9j hA z) ?_;refine zF ?_;cases soI b;exact zO
  replace b:=cF l b;refine zF ?_;cases soI b;exact zO
 rintro _ rfl;refine nT (zr ?_);cases soI h;exact zq

theorem c0C {A:Ar} (hA:SA A) {b c:List D} {a:Bool} (h:M59 A b c=some a):a0l Try.prog 59 [zl 1 b,zl 1 c] [] (.d (.bool a)) []:=by
 unfold M59 at h;refine zI Try.func59 ?_;refine zs (zA (nT (zs (zn ?_))));obtain ⟨⟨g,i⟩,e,h⟩:=a0a h;refine zC (b9k hA e) ?_ { tk:=[12] };refine zE (nT (zs ?_)) { tk:=[12] };refine zA (nT (zr ?_)) { tk:=[6,13] };cases soI h;exact zq

theorem c0d {A:Ar} (hA:SA A) {i:List D} {j:Int} {k:List D} {e:Bool} {g:Int} (h:M21 A i j k=some (e,g)):a0l Try.prog 21 [zl 1 i,zi j,zl 1 k] [] (.tuple [.d (.bool e),zi g]) []:=by
 unfold M21 at h;refine zI Try.func21 ?_;refine zs (zA (nT (zs (zn ?_))));obtain ⟨⟨p,c⟩,l,h⟩:=a0a h;refine zC (c0B hA l) ?_;refine zE (nT (zs ?_));obtain ⟨o,a,h⟩:=a0a h;refine zN [6,7] [] 0 (fun τ=>τ=⟨[(6,.d (.bool o)),(7,zi c)],[],24⟩) ?_ ?_
 ·refine zn ?_;rcases tf (A.zeq c 0) with b | b
  ·replace a:=cT b a;obtain ⟨q,m,a⟩:=a0a a;refine zD (c0C hA m) ?_;refine zF ?_;cases soI a;exact zO
  replace a:=cF b a;refine zF ?_;cases soI a;exact zO
 rintro _ rfl;refine nT (zr ?_);cases soI h;exact zq

theorem c0e {A:Ar} (hA:SA A) {g:Bool} (h:M18 A=some g):a0l Try.prog 18 [] [] (.d (.bool g)) []:=by
 unfold M18 at h;refine zI Try.func18 ?_;refine zs (zA (nT (zs ?_)));refine zA (nT (zs (zn ?_)));obtain ⟨⟨k,l⟩,i,h⟩:=a0a h;refine zC (c0d hA i) ?_;refine zE (nT (zs (zn ?_)));obtain ⟨⟨p,m⟩,j,h⟩:=a0a h;refine zC (c0d hA j) ?_;refine zE (nT (zs ?_));obtain ⟨o,a,h⟩:=a0a h;refine zN [0] [] 0 (fun τ=>τ=⟨[(0,.d (.bool o))],[],38⟩) ?_ ?_
 ·rcases tf (A.zeq l 0) with b | b
  ·replace a:=cT b a;rcases tf (A.zeq m 0) with c | c
   ·replace a:=cT c a;rcases tf k with e | e
    ·replace a:=cT e a;refine zB ?_ { tk:=[37] };cases soI a;exact zO
    replace a:=cF e a;refine zB ?_ { tk:=[37] };cases soI a;exact zO
   replace a:=cF c a;refine zB ?_ { tk:=[37] };cases soI a;exact zO
  replace a:=cF b a;refine zB ?_ { tk:=[37] };cases soI a;exact zO
 rintro _ rfl;refine nT (zr ?_);cases soI h;exact zq

theorem b3q {A:Ar} (hA:SA A) {b c e:Int} {a:Bool} (h:b5i A b c e=some a):a0l Try.prog 110 [.d (.agg [.int .i64 b,.int .i64 c,.int .i64 e])] [] (.d (.bool a)) []:=by
 unfold b5i at h;refine zI Try.func110 ?_;refine zs (zA (nT (zs (zn ?_))));obtain ⟨i,g,h⟩:=a0a h;refine zC (b9Z hA g) ?_ { tk:=[5] };refine zE (nT (zr ?_)) { tk:=[5] };cases soI h;exact zq

theorem b7a {A:Ar} (hA:SA A) {l c:Int} {e:List D} {k:Int} (h:b0X A l c e=some k):a0l Try.prog 104 [.mref 0 3 l c,(.func 110 [] [])] [(.arr 3 e)] (zi k) [(.arr 3 e)]:=by
 unfold b0X at h;refine zI Try.func104 ?_;refine zs (zA (nT (zs (zs ?_))));refine zA (nT (zb ?_));obtain ⟨G,u,o,m,b⟩:=a0T h;refine zM 0 [] [] 1 (fun τ=>o (.inl ())=some k/\τ=⟨[],[(.arr 3 e)],19⟩) ?_ ?_
 ·refine zP u [0,1,7,8] [] 1 (fun j=>⟨[(0,.mref 0 3 l c),(1,(.func 110 [] [])),(7,zi c),(8,zi j)],[(.arr 3 e)],19⟩) ⟨rfl,zc⟩ ?_;rintro j B a;dsimp only [a4J] at a;refine zs (zA (nT (zs ?_)));rcases tf (A.zlt j c) with g | g
  ·replace a:=cT g a;refine zT (zk (nT (zs (zb (zs ?_)))));refine zB (nT (zs (zn ?_))) { tk:=[8,10] };obtain ⟨_,p,a⟩:=a0a a;have C:=ckI p;obtain ⟨_,q,a⟩:=a0a a;have E:=ckI q;obtain ⟨⟨w,y,z⟩,r,a⟩:=a0a a;have F:=gcI r;obtain ⟨v,s,a⟩:=a0a a;refine zD (b3q hA s) ?_;refine zF (nT ?_);rcases tf v with i | i
   ·replace a:=cT i a;refine zT (zs ?_);refine zB (nT (zr (rB (rT (rT ?_))))) { tk:=[5,17] };refine exL a ?_;rintro rfl;refine oxR ?_;replace b:=(eR (m _ b));refine rB (rT ?_);cases soI b;exact zq
   replace a:=cF i a;refine zU (zk (nB (nT ?_)));refine zB ?_ { tk:=[18] };exact nT ⟨_,(soI a).symm,rfl,zv⟩
  replace a:=cF g a;refine zU (AWp.exit (xT (xT ?_)));refine exL a ?_;rintro rfl;exact oxI ⟨rfl,b,zv⟩
 rintro _ ⟨b,rfl⟩;have h:=(eL (m _ b));refine xB (nT (zs (zA (nT (zr ?_)))));cases soI h;exact zq

theorem b9l {A:Ar} (hA:SA A) {e c:Int} {v:List D} {p q:Int} {r:List D} (h:b6R A e c v=some (p,q,r)):a0l Try.prog 109 [.mref 0 3 e c,(.func 110 [] [])] [(.arr 3 v)] (.mref 0 3 p q) [(.arr 3 r)]:=by
 unfold b6R at h;refine zI Try.func109 ?_;refine zs (zA (nT (zs (zn ?_))));obtain ⟨V,B,h⟩:=a0a h;refine zC (b7a hA B) ?_;refine zE (nT (zs (zs ?_)));refine zA (nT ?_);rcases tf (A.zeq V (-1)) with k | k
 ·replace h:=cT k h;refine zT (zs ?_);refine zB (nT (zr (rT ?_))) { tk:=[0,13] };cases soI h;exact zq
 replace h:=cF k h;refine zU (zk (nT (zs (zs ?_))));refine zB (nT (zb ?_));obtain ⟨w0,S,w,R,l⟩:=a0T h;refine zM 0 [0,5] [] 1 (fun τ => ∃ m o,w (m,o)=some (p,q,r)/\τ=⟨[(0,.mref 0 3 e c),(5,zi m)],[(.arr 3 o)],42⟩) ?_ ?_
 ·refine zP S [0,1,5,6] [] 1 (fun (s,g,u)=>⟨[(0,.mref 0 3 e c),(1,(.func 110 [] [])),(5,zi s),(6,zi g)],[(.arr 3 u)],42⟩) ⟨rfl,zv⟩ ?_;rintro ⟨s,g,u⟩ g0 a;dsimp only [a5N] at a;refine zs (zs (zA (nT ?_)));rcases tf (A.zlt g c) with i | i
  ·replace a:=cT i a;refine zT (zk (nT (zs (zb (zs ?_)))));obtain ⟨_,y,a⟩:=a0a a;have i0:=ckI y;obtain ⟨_,z,a⟩:=a0a a;have j0:=ckI z;obtain ⟨⟨Y,a0,b0⟩,C,a⟩:=a0a a;have k0:=gcI C;refine zB (nT (zs (zn ?_))) { tk:=[25] };obtain ⟨U,E,a⟩:=a0a a;refine zD (b3q hA E) ?_;refine zF (nT ?_);obtain ⟨⟨W,X⟩,b,a⟩:=a0a a;refine zN [0,1,5,6] [] 1 (fun τ=>τ=⟨[(0,.mref 0 3 e c),(1,(.func 110 [] [])),(5,zi W),(6,zi g)],[(.arr 3 X)],42⟩) ?_ ?_
   ·rcases tf U with j | j
    ·replace b:=cT j b;refine zU (zk ?_);cases soI b;exact zO
    replace b:=cF j b;refine zT (zs ?_);obtain ⟨_,F,b⟩:=a0a b;have l0:=ckI F;obtain ⟨_,G,b⟩:=a0a b;have m0:=ckI G;obtain ⟨⟨c0,d0,e0⟩,J,b⟩:=a0a b;have n0:=gcI J;refine zB (nT ?_) { tk:=[32] };refine zB ?_;cases soI b;exact zO
   rintro _ rfl;refine nB (nT (zA ?_));exact nT ⟨_,(soI a).symm,rfl,zc⟩
  replace a:=cF i a;refine zU (AWp.exit (xT (xT ?_)));refine exL a ?_;rintro rfl;exact oxI ⟨rfl,_,_,l,zv⟩
 rintro _ ⟨m,o,l,rfl⟩;have h:=(R _ l);refine xB (nT (zs ?_));obtain ⟨_,K,h⟩:=a0a h;have o0:=ckI K;obtain ⟨_,L,h⟩:=a0a h;have p0:=ckI L;obtain ⟨_,M,h⟩:=a0a h;have q0:=ckI M;obtain ⟨_,N,h⟩:=a0a h;have r0:=ckI N;refine zB (nT (zs ?_));obtain ⟨_,O,h⟩:=a0a h;have s0:=ckI O;obtain ⟨_,P,h⟩:=a0a h;have u0:=ckI P;obtain ⟨_,Q,h⟩:=a0a h;have v0:=ckI Q;refine zB (nT (zr ?_)) { tk:=[41] };cases soI h;exact zq

theorem b7b {A:Ar} (hA:SA A) {c:List D} {j:Int} (h:b3o A c=some j):a0l Try.prog 104 [zl 3 c,(.func 110 [] [])] [] (zi j) []:=by
 unfold b3o at h;refine zI Try.func104 ?_;refine zs (zA (nT (zs (zs ?_))));refine zA (nT (zb ?_));obtain ⟨z,p,l,k,b⟩:=a0T h;refine zM 0 [] [] 0 (fun τ=>l (.inl ())=some j/\τ=⟨[],[],19⟩) ?_ ?_
 ·refine zP p [0,1,7,8] [] 0 (fun i=>⟨[(0,zl 3 c),(1,(.func 110 [] [])),(7,(.d (.int .i64 (A.len c)))),(8,zi i)],[],19⟩) ⟨rfl,zc⟩ ?_;rintro i v a;dsimp only [a8D] at a;refine zs (zA (nT (zs ?_)));rcases tf (A.zlt i (A.len c)) with e | e
  ·replace a:=cT e a;refine zT (zk (nT (zs (zb (zs ?_)))));refine zB (nT (zs (zn ?_))) { tk:=[8,10] };obtain ⟨⟨r,s,u⟩,m,a⟩:=a0a a;obtain ⟨w,y⟩:=gtI m;obtain ⟨q,o,a⟩:=a0a a;refine zD (b3q hA o) ?_;refine zF (nT ?_);rcases tf q with g | g
   ·replace a:=cT g a;refine zT (zs ?_);refine zB (nT (zr (rB (rT (rT ?_))))) { tk:=[5,17] };refine exL a ?_;rintro rfl;refine oxR ?_;replace b:=(eR (k _ b));refine rB (rT ?_);cases soI b;exact zq
   replace a:=cF g a;refine zU (zk (nB (nT ?_)));refine zB ?_ { tk:=[18] };exact nT ⟨_,(soI a).symm,rfl,zv⟩
  replace a:=cF e a;refine zU (AWp.exit (xT (xT ?_)));refine exL a ?_;rintro rfl;exact oxI ⟨rfl,b,zv⟩
 rintro _ ⟨b,rfl⟩;have h:=(eL (k _ b));refine xB (nT (zs (zA (nT (zr ?_)))));cases soI h;exact zq

theorem b7c {A:Ar} (hA:SA A) {b l:List D} (h:b3p A b=some l):a0l Try.prog 109 [zl 3 b,(.func 110 [] [])] [] (zl 3 l) []:=by
 unfold b3p at h;refine zI Try.func109 ?_;refine zs (zA (nT (zs (zn ?_))));obtain ⟨j,o,h⟩:=a0a h;refine zC (b7b hA o) ?_;refine zE (nT (zs (zs ?_)));refine zA (nT ?_);rcases tf (A.zeq j (-1)) with g | g
 ·replace h:=cT g h;refine zT (zs ?_);refine zB (nT (zr (rT ?_))) { tk:=[0,13] };cases soI h;exact zq
 replace h:=cF g h;refine zU (zk (nT (zs (zs ?_))));refine zB (nT (zb ?_));obtain ⟨S,v,m,u,i⟩:=a0T h;refine zM 0 [0,5] [] 0 (fun τ=>m ()=some l/\τ=⟨[(0,zl 3 b),(5,zi j)],[],42⟩) ?_ ?_
 ·refine zP v [0,1,5,6] [] 0 (fun k=>⟨[(0,zl 3 b),(1,(.func 110 [] [])),(5,zi j),(6,zi k)],[],42⟩) ⟨rfl,zv⟩ ?_;rintro k G a;dsimp only [b0Y] at a;refine zs (zs (zA (nT ?_)));rcases tf (A.zlt k (A.len b)) with c | c
  ·replace a:=cT c a;refine zT (zk (nT (zs (zb (zs ?_)))));obtain ⟨⟨y,z,B⟩,p,a⟩:=a0a a;obtain ⟨J,K⟩:=gtI p;refine zB (nT (zs (zn ?_))) { tk:=[25] };obtain ⟨w,q,a⟩:=a0a a;refine zD (b3q hA q) ?_;refine zF (nT ?_);rcases tf w with e | e
   ·replace a:=cT e a;refine zU (zk (nB (nT ?_)));refine zB ?_;exact nT ⟨_,(soI a).symm,rfl,zv⟩
   replace a:=cF e a;refine zT (zs ?_);obtain ⟨⟨C,E,F⟩,r,a⟩:=a0a a;obtain ⟨L,M⟩:=gtI r;cases a
  replace a:=cF c a;refine zU (AWp.exit (xT (xT ?_)));refine exL a ?_;rintro rfl;exact oxI ⟨rfl,i,zv⟩
 rintro _ ⟨i,rfl⟩;have h:=(u _ i);refine xB (nT (zs ?_));obtain ⟨R,s,h⟩:=a0a h;obtain ⟨N,O,P,Q⟩:=slI s;cases h

theorem c0f {A:Ar} (hA:SA A) {e c:List D} (h:M90 A e=some c):a0l Try.prog 90 [zl 3 e] [] (zl 3 c) []:=by
 unfold M90 at h;refine zI Try.func90 ?_;refine zs (zA (nT (zs (zn ?_))));obtain ⟨o,b,h⟩:=a0a h;rcases tf (A.zlt 0 (A.len o)) with a | a
 ·replace h:=cT a h;obtain ⟨_,k,h⟩:=a0a h;refine zC (a0l.thaw (b9a hA b) rfl rfl (neL hA a) (ckI k) (H:=[]) rfl (c0i hA)) ?_ { tk:=[5] };obtain ⟨⟨r,u,v⟩,l,h⟩:=a0a h;refine zD (b9l hA l) ?_ { tk:=[5] };refine zF (nT ?_) { tk:=[5] };obtain ⟨p,j,h⟩:=a0a h;obtain ⟨m,n⟩:=fzI hA j;refine AWp.freeze (s:=2) (i:=0) rfl rfl m n ?_;refine zr ?_;cases soI h;exact zq
 replace h:=cF a h;refine zC (b9a hA b) ?_ { tk:=[5] };obtain ⟨q,g,h⟩:=a0a h;refine zD (b7c hA g) ?_ { tk:=[5] };refine zF (nT (zr ?_)) { tk:=[5] };cases soI h;exact zq

theorem c0D {A:Ar} (hA:SA A) {o l:List D} (h:M89 A o=some l):a0l Try.prog 89 [zl 3 o] [] (.own 3 l) []:=by
 unfold M89 at h;refine zI Try.func89 ?_;refine zs (zA (nT (zs ?_)));refine zA (nT (zs (zs (zn ?_))));obtain ⟨c,u,h⟩:=a0a h;refine zC (c0f hA u) ?_;refine zE (nT (zb ?_));obtain ⟨P,B,p,z,j⟩:=a0T h;refine zM 0 [3] [] 0 (fun τ => ∃ k,p k=some l/\τ=⟨[(3,(.own 3 k))],[],26⟩) ?_ ?_
 ·refine zP B [3,7,8,9] [] 0 (fun (m,e)=>⟨[(3,(.own 3 m)),(7,zl 3 c),(8,(.d (.int .i64 (A.len c)))),(9,zi e)],[],26⟩) ⟨rfl,zc⟩ ?_;rintro ⟨m,e⟩ E a;dsimp only [a8E] at a;refine zs (zA (nT (zs ?_)));rcases tf (A.zlt e (A.len c)) with g | g
  ·replace a:=cT g a;refine zT (zk (nT (zs (zb (zs ?_)))));obtain ⟨⟨q,r,s⟩,v,a⟩:=a0a a;obtain ⟨F,G⟩:=gtI v;refine zB (nT (zs (zs ?_))) { tk:=[13] };refine zB (nT ?_);obtain ⟨C,b,a⟩:=a0a a;refine zN [3,5,7,8,9] [] 0 (fun τ=>τ=⟨[(3,(.own 3 C)),(5,(.lbox [zi q,zi r,zi s])),(7,zl 3 c),(8,(.d (.int .i64 (A.len c)))),(9,zi e)],[],26⟩) ?_ ?_
   ·rcases tf (A.zlt 0 e) with i | i
    ·replace b:=cT i b;refine zT ?_;obtain ⟨N,w,b⟩:=a0a b;obtain ⟨J,K⟩:=apI w;refine zB ?_ { tk:=[3,19] };cases soI b;exact zO
    replace b:=cF i b;refine zU (zk ?_);cases soI b;exact zO
   rintro _ rfl;refine nT ?_;obtain ⟨O,y,a⟩:=a0a a;obtain ⟨L,M⟩:=apI y;refine zB (nB (nT ?_)) { tk:=[3,23] };refine zA ?_;exact nT ⟨_,(soI a).symm,rfl,zc⟩
  replace a:=cF g a;refine zU (AWp.exit (xT (xT ?_)));refine exL a ?_;rintro rfl;exact oxI ⟨rfl,_,j,zv⟩
 rintro _ ⟨k,j,rfl⟩;have h:=(z _ j);refine xB (nT (zs (zA (nT (zr ?_)) { tk:=[3,25] })));cases soI h;exact zq

theorem b9m {A:Ar} (hA:SA A) {b k:List D} {l:Int} (h:b6S A b=some (k,l)):a0l Try.prog 84 [zl 1 b,(.func 89 [] [])] [] (.tuple [zl 1 k,zi l]) []:=by
 unfold b6S at h;refine zI Try.func84 ?_;refine zs (zA (nT (zs (zs (zn ?_)))));obtain ⟨B,q,h⟩:=a0a h;refine zC (b8A hA q) ?_;refine zE (nT ?_);rcases tf B with e | e
 ·replace h:=cT e h;refine zU (zk (nT (zs ?_)));obtain ⟨_,v,h⟩:=a0a h;have L:=ckI v;obtain ⟨_,w,h⟩:=a0a h;have M:=ckI w;obtain ⟨_,p,h⟩:=a0a h;have N:=ckI p;refine zB (nT (zs (zs ?_))) { tk:=[14],gr:=[14],th:=[14] };refine zB (nT (zb ?_));obtain ⟨Q,z,o,y,g⟩:=a0T h;refine AWp.cutXW 0 (fun τ => ∃ j,o j=some (k,l)/\τ=⟨[(6,.gref 0 1)],[.gro 1 j,.dead,.dead],29⟩) ?_ ?_
  ·refine AWp.iterW z (fun (i,m)=>⟨[(1,(.func 89 [] [])),(6,.gref 0 1),(15,zl 1 b),(16,(.d (.int .i64 (A.len b)))),(17,zi i)],[.gro 1 m,.dead,.dead],29⟩) ⟨_,zR [some 0,some 1,some 2] [1,6,15,16,17],rfl⟩ ?_;rintro ⟨i,m⟩ E a;dsimp only [a5O] at a;refine zs (zA (nT (zs ?_)));rcases tf (A.zlt i (A.len b)) with c | c
   ·replace a:=cT c a;refine zT (zk (nT (zs (zb (zs ?_)))));obtain ⟨C,r,a⟩:=a0a a;obtain ⟨F,G⟩:=gtI r;refine zB (nT (zn ?_));obtain ⟨P,s,a⟩:=a0a a;refine zD (c0D hA s) ?_ { tk:=[6,26] };obtain ⟨O,u,a⟩:=a0a a;obtain ⟨J,K⟩:=apI u;refine zF (nB (nT ?_)) { tk:=[6,26],gr:=[26] };refine zB ?_;exact nT ⟨_,(soI a).symm,_,zR [some 3,some 4,some 5] [1,6,15,16,17],rfl⟩
   replace a:=cF c a;refine zU (AWp.exit (xT (xT ?_)));refine exL a ?_;rintro rfl;exact b5g ⟨_,zR [some 0,some 1,some 2] [6],_,g,rfl⟩
  rintro _ ⟨j,g,rfl⟩;have h:=(y _ g);refine xB (nT (zs (zA (nT ?_))));refine AWp.weak (Wk.freezeS 4 rfl rfl) ?_;refine zr ?_;cases soI h;exact zq
 replace h:=cF e h;refine zT (zs ?_);refine zB (nT (zr (rT ?_)));cases soI h;exact zq

theorem c0E {A:Ar} (hA:SA A) {c a:List D} {b:Int} (h:M45 A c=some (a,b)):a0l Try.prog 45 [zl 1 c] [] (.tuple [zl 1 a,zi b]) []:=by
 unfold M45 at h;refine zI Try.func45 ?_;refine zs (zA (nT (zs (zn ?_))));obtain ⟨⟨g,i⟩,e,h⟩:=a0a h;refine zC (b9m hA e) ?_;refine zE (nT (zr ?_));cases soI h;exact zq

theorem b9n {A:Ar} (hA:SA A) {b k:List D} {l:Int} (h:b6T A b=some (k,l)):a0l Try.prog 84 [zl 1 b,(.func 90 [] [])] [] (.tuple [zl 1 k,zi l]) []:=by
 unfold b6T at h;refine zI Try.func84 ?_;refine zs (zA (nT (zs (zs (zn ?_)))));obtain ⟨B,q,h⟩:=a0a h;refine zC (b8A hA q) ?_;refine zE (nT ?_);rcases tf B with e | e
 ·replace h:=cT e h;refine zU (zk (nT (zs ?_)));obtain ⟨_,v,h⟩:=a0a h;have L:=ckI v;obtain ⟨_,w,h⟩:=a0a h;have M:=ckI w;obtain ⟨_,p,h⟩:=a0a h;have N:=ckI p;refine zB (nT (zs (zs ?_))) { tk:=[14],gr:=[14],th:=[14] };refine zB (nT (zb ?_));obtain ⟨Q,z,o,y,g⟩:=a0T h;refine AWp.cutXW 0 (fun τ => ∃ j,o j=some (k,l)/\τ=⟨[(6,.gref 0 1)],[.gro 1 j,.dead,.dead],29⟩) ?_ ?_
  ·refine AWp.iterW z (fun (i,m)=>⟨[(1,(.func 90 [] [])),(6,.gref 0 1),(15,zl 1 b),(16,(.d (.int .i64 (A.len b)))),(17,zi i)],[.gro 1 m,.dead,.dead],29⟩) ⟨_,zR [some 0,some 1,some 2] [1,6,15,16,17],rfl⟩ ?_;rintro ⟨i,m⟩ E a;dsimp only [a5P] at a;refine zs (zA (nT (zs ?_)));rcases tf (A.zlt i (A.len b)) with c | c
   ·replace a:=cT c a;refine zT (zk (nT (zs (zb (zs ?_)))));obtain ⟨C,r,a⟩:=a0a a;obtain ⟨F,G⟩:=gtI r;refine zB (nT (zn ?_));obtain ⟨P,s,a⟩:=a0a a;refine zD (c0f hA s) ?_ { tk:=[6,26] };obtain ⟨O,u,a⟩:=a0a a;obtain ⟨J,K⟩:=apI u;refine zF (nB (nT ?_)) { tk:=[6,26],gr:=[26] };refine zB ?_;exact nT ⟨_,(soI a).symm,_,zR [some 3,some 4,some 5] [1,6,15,16,17],rfl⟩
   replace a:=cF c a;refine zU (AWp.exit (xT (xT ?_)));refine exL a ?_;rintro rfl;exact b5g ⟨_,zR [some 0,some 1,some 2] [6],_,g,rfl⟩
  rintro _ ⟨j,g,rfl⟩;have h:=(y _ g);refine xB (nT (zs (zA (nT ?_))));refine AWp.weak (Wk.freezeS 4 rfl rfl) ?_;refine zr ?_;cases soI h;exact zq
 replace h:=cF e h;refine zT (zs ?_);refine zB (nT (zr (rT ?_)));cases soI h;exact zq

theorem c0F {A:Ar} (hA:SA A) {c a:List D} {b:Int} (h:M46 A c=some (a,b)):a0l Try.prog 46 [zl 1 c] [] (.tuple [zl 1 a,zi b]) []:=by
 unfold M46 at h;refine zI Try.func46 ?_;refine zs (zA (nT (zs (zn ?_))));obtain ⟨⟨g,i⟩,e,h⟩:=a0a h;refine zC (b9n hA e) ?_;refine zE (nT (zr ?_));cases soI h;exact zq

theorem b9o {A:Ar} (hA:SA A) {c j:List D} (h:M88 A c=some j):a0l Try.prog 88 [zl 1 c] [] (.gref 0 1) [(.jag 3 j none),.dead,.dead]:=by
 unfold M88 at h;refine zI Try.func88 ?_;refine zs (zA (nT (zs ?_)));refine zA (nT (zs (zs ?_)));refine zA (nT ?_);refine AWp.weak (Wk.nilJag 3 3 rfl (lb rfl)) ?_;refine zb ?_;obtain ⟨G,r,l,q,e⟩:=a0T h;refine zM 0 [3] [] 3 (fun τ => ∃ i,l i=some j/\τ=⟨[(3,.gref 0 1)],[(.jag 3 i none),.dead,.dead],21⟩) ?_ ?_
 ·refine AWp.iterW r (fun (k,g)=>⟨[(0,zl 1 c),(3,.gref 0 1),(4,zi g)],[(.jag 3 k none),.dead,.dead],21⟩) ⟨_,Wk.ren [some 0,some 1,some 2] [0,3,4] rfl rfl,(by first | rfl | cbv)⟩ ?_
  rintro ⟨k,g⟩ u a;dsimp only [b0c] at a;refine zs (zs (zA (nT ?_)));rcases tf (A.zlt g (A.len c)) with b | b
  ·replace a:=cT b a;refine zT (zk (nT (zs (zb ?_))));obtain ⟨s,m,a⟩:=a0a a;obtain ⟨v,w⟩:=gtI m;obtain ⟨E,o,a⟩:=a0a a;obtain ⟨y,z⟩:=apI o;obtain ⟨F,p,a⟩:=a0a a;obtain ⟨B,C⟩:=apI p;refine zB (nB (nT ?_)) { tk:=[3,19],gr:=[17],jg:=[18] };refine zB ?_;exact nT ⟨_,(soI a).symm,_,Wk.ren [some 6,some 7,some 8] [0,3,4] rfl rfl,(by first | rfl | (cbv;done) | ((repeat (cbv;simp only [b]));try cbv))⟩
  replace a:=cF b a;refine zU (AWp.exit (xT (xT ?_)));refine exL a ?_;rintro rfl;exact oxI ⟨rfl,_,e,zv⟩
 rintro _ ⟨i,e,rfl⟩;have h:=(q _ e);refine xB (nT (zs (zA (nT (zr ?_)) { tk:=[3,20] })));cases soI h;exact zq

theorem b9p {A:Ar} (hA:SA A) {e i:List D} {s:Bool} (h:M41 A e i=some s):a0l Try.prog 41 [zl 1 e,zl 1 i] [] (.d (.bool s)) []:=by
 unfold M41 at h;refine zI Try.func41 ?_;refine zs (zA (nT (zs (zs ?_))));refine zA (nT ?_);rcases tf (A.zeq (A.len e) (A.len i)) with k | k
 ·replace h:=cT k h;refine zU (zk (nT (zs (zs ?_))));refine zB (nT (zb ?_));obtain ⟨d0,Q,y,q,c⟩:=a0T h;refine zM 0 [] [] 0 (fun τ=>y (.inl ())=some s/\τ=⟨[],[],53⟩) ?_ ?_
  ·refine zP Q [0,1,5] [] 0 (fun j=>⟨[(0,zl 1 e),(1,zl 1 i),(5,zi j)],[],53⟩) ⟨rfl,zv⟩ ?_;rintro j O a;dsimp only [a7w] at a;refine zs (zs (zA (nT ?_)));rcases tf (A.zlt j (A.len e)) with l | l
   ·replace a:=cT l a;refine zT (zk (nT (zs (zb (zs (zs ?_))))));obtain ⟨u,K,a⟩:=a0a a;obtain ⟨S,U⟩:=gtI K;obtain ⟨z,L,a⟩:=a0a a;obtain ⟨V,W⟩:=gtI L;refine zH ?_;refine nT ?_;rcases tf (A.zeq (A.len u) (A.len z)) with m | m
    ·replace a:=cT m a;refine zU (zk (nT (zs ?_)));refine zB (nT (zb ?_));obtain ⟨c0,P,w,v,g⟩:=a0T a;refine zM 2 [0,1,5] [] 0 (fun τ=>w (.inl ())=some O/\τ=⟨[(0,zl 1 e),(1,zl 1 i),(5,zi j)],[],53⟩) ?_ ?_
     ·refine zP P [0,1,5,6] [] 0 (fun r=>⟨[(0,zl 1 e),(1,zl 1 i),(5,zi j),(6,zi r)],[],53⟩) ⟨rfl,zv⟩ ?_;rintro r R b;dsimp only [a7v] at b;refine zs (zs (zB (nT ?_)));rcases tf (A.zlt r (A.len u)) with o | o
      ·replace b:=cT o b;refine zT (zk (nT (zs (zb (zs ?_)))));obtain ⟨⟨B,C,E⟩,M,b⟩:=a0a b;obtain ⟨X,Y⟩:=gtI M;obtain ⟨⟨F,G,J⟩,N,b⟩:=a0a b;obtain ⟨a0,b0⟩:=gtI N;refine zH ?_;refine nT ?_;rcases tf (A.deq [.int .i64 B,.int .i64 C,.int .i64 E] [.int .i64 F,.int .i64 G,.int .i64 J]) with p | p
       ·replace b:=cT p b;refine zU (zk (nB (nT ?_)));refine zB ?_;exact nT ⟨_,(soI b).symm,rfl,zv⟩
       replace b:=cF p b;refine zT (zs ?_);refine zB (nT (zr (rB (rT (rT ?_)))));refine exL b ?_;rintro rfl;refine oxR ?_;replace g:=(eR (v _ g));refine rB (rB (rT (rT ?_)));refine exL g ?_;rintro rfl;refine oxR ?_;replace c:=(eR (q _ c));refine rB (rT ?_);cases soI c;exact zq
      replace b:=cF o b;refine zU (AWp.exit (xT (xT ?_)));refine exL b ?_;rintro rfl;exact oxI ⟨rfl,g,zv⟩
     rintro _ ⟨g,rfl⟩;have a:=(eL (v _ g));refine xB (nB (nT (zA ?_)));exact nT ⟨_,(soI a).symm,rfl,zc⟩
    replace a:=cF m a;refine zT (zs ?_);refine zB (nT (zr (rT (rB (rT (rT ?_))))));refine exL a ?_;rintro rfl;refine oxR ?_;replace c:=(eR (q _ c));refine rB (rT ?_);cases soI c;exact zq
   replace a:=cF l a;refine zU (AWp.exit (xT (xT ?_)));refine exL a ?_;rintro rfl;exact oxI ⟨rfl,c,zv⟩
  rintro _ ⟨c,rfl⟩;have h:=(eL (q _ c));refine xB (nT (zs (zA (nT (zr ?_)))));cases soI h;exact zq
 replace h:=cF k h;refine zT (zs ?_);refine zB (nT (zr (rT ?_)));cases soI h;exact zq
end Go.Am
