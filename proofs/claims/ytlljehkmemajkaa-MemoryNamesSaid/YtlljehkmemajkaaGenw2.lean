import Derived.Test.YtlljehkmemajkaaGenw1
set_option maxRecDepth 100000
set_option maxHeartbeats 2000000
set_option linter.unusedVariables false
set_option linter.unusedSimpArgs false
namespace Go.Am
open Go Go.Proofs
theorem b9Q {A:Ar} (hA:SA A) {a b:Int} {d r:List D} (h:M97 A a b d=some r):a0m Try.prog 97 [.mref 0 1 a b,(.func 98 [] [])] [(.arr 1 d)] (.tuple []) [(.arr 1 r)] :=
 a0m.sortOne Try.sort97 rfl (c:=(cL 1)) (fun _=>rfl) (g:=98) (caps:=[]) rfl (fun _ _ _ h=>b8L hA h) rfl rfl h (i:=0) rfl rfl

theorem b6I {A:Ar} (hA:SA A) {c e:List D} {l:Bool} (h:b6n A c e=some l):a0m Try.prog 100 [zl 1 c,zl 1 e] [] (.d (.bool l)) []:=by
 unfold b6n at h;refine zI Try.func100 ?_;refine zs (zA (nT (zs (zs ?_))));refine zA (nT ?_);rcases tf (A.zeq (A.len c) (A.len e)) with j | j
 ·replace h:=cT j h;refine zU (zk (nT (zs (zs ?_))));refine zB (nT (zb ?_));obtain ⟨C,u,o,m,b⟩:=a0S h;refine zM 0 [] [] 0 (fun τ=>o (.inl ())=some l/\τ=⟨[],[],26⟩) ?_ ?_
  ·refine zP u [0,1,12,13] [] 0 (fun k=>⟨[(0,zl 1 c),(1,zl 1 e),(12,(.d (.int .i64 (A.len c)))),(13,zi k)],[],26⟩) ⟨rfl,zv⟩ ?_;rintro k v a;dsimp only [a7h] at a;refine zs (zA (nT (zs ?_)));rcases tf (A.zlt k (A.len c)) with g | g
   ·replace a:=cT g a;refine zT (zk (nT (zs (zb (zs ?_)))));refine zB (nT (zs ?_));obtain ⟨p,r,a⟩:=a0a a;obtain ⟨w,y⟩:=gtI r;obtain ⟨q,s,a⟩:=a0a a;obtain ⟨z,B⟩:=gtI s;refine zH ?_;refine nT ?_;rcases tf (A.zeq p q) with i | i
    ·replace a:=cT i a;refine zU (zk (nB (nT ?_)));refine zB ?_;exact nT ⟨_,(soI a).symm,rfl,zv⟩
    replace a:=cF i a;refine zT (zs ?_);refine zB (nT (zr (rB (rT (rT ?_)))));refine exL a ?_;rintro rfl;refine oxR ?_;replace b:=(eR (m _ b));refine rB (rT ?_);cases soI b;exact zq
   replace a:=cF g a;refine zU (AWp.exit (xT (xT ?_)));refine exL a ?_;rintro rfl;exact oxI ⟨rfl,b,zv⟩
  rintro _ ⟨b,rfl⟩;have h:=(eL (m _ b));refine xB (nT (zs (zA (nT (zr ?_)))));cases soI h;exact zq
 replace h:=cF j h;refine zT (zs ?_);refine zB (nT (zr (rT ?_)));cases soI h;exact zq

theorem b9R {A:Ar} (hA:SA A) {m j:Int} {s:List D} {y z:Int} {B:List D} (h:M99 A m j s=some (y,z,B)):a0m Try.prog 99 [.mref 0 1 m j,(.func 100 [] [])] [(.arr 1 s)] (.mref 0 1 y z) [(.arr 1 B)]:=by
 unfold M99 at h;refine zI Try.func99 ?_;refine zs (zA (nT (zs (zs ?_))));refine zA (nT ?_);rcases tf (A.zlt j 2) with o | o
 ·replace h:=cT o h;refine zT ?_ (hb:=(by first | rfl | simp only [o,zqa,zqb,zqc,zqd]))
  refine zs ?_;refine zA ?_ { tk:=[0,11] } (h:=(by (repeat (cbv;simp only [o]));try cbv))
  refine nT (zr (rT ?_));cases soI h;exact zq
 replace h:=cF o h;refine zU ?_ (hb:=(by first | rfl | simp only [o,zqa,zqb,zqc,zqd]))
 refine zk (nT (zs (zs ?_)));refine zA ?_ (h:=(by (repeat (cbv;simp only [o]));try cbv))
 refine nT (zb ?_);obtain ⟨s2,d2,W,R,q⟩:=a0S h;refine zM 0 [0] [] 1 (fun τ=>W (.inl ())=some (y,z,B)/\τ=⟨[(0,.mref 0 1 m j)],[(.arr 1 s)],66⟩) ?_ ?_
 ·refine zP d2 [0,1,5] [] 1 (fun p=>⟨[(0,.mref 0 1 m j),(1,(.func 100 [] [])),(5,zi p)],[(.arr 1 s)],66⟩) ⟨rfl,(by first | (cbv;done) | ((repeat (cbv;simp only [o]));try cbv))⟩ ?_
  rintro p j1 a;dsimp only [a9U] at a;refine zs (zs (zA (nT ?_)));rcases tf (A.zlt p j) with e | e
  ·replace a:=cT e a;refine zT ?_ (hb:=(by first | rfl | simp only [e,zqa,zqb,zqc,zqd]))
   refine zk (nT (zs (zb (zs ?_))));refine zQ ?_;obtain ⟨_,X,a⟩:=a0a a;have C:=ckI X;obtain ⟨_,Y,a⟩:=a0a a;have E:=ckI Y;obtain ⟨k2,a0,a⟩:=a0a a;have F:=gcI a0;obtain ⟨_,b0,a⟩:=a0a a;have G:=ckI b0;obtain ⟨_,d0,a⟩:=a0a a;have J:=ckI d0;obtain ⟨l2,e0,a⟩:=a0a a;have K:=gcI e0;obtain ⟨e2,g0,a⟩:=a0a a;refine a2f.c0 hT hA {} rfl (by (repeat (cbv;simp only [e,C,E,F,G,J,K]));try cbv) (b6I hA g0) rfl rfl (lb rfl) rfl rfl ?_
   refine zJ ?_ (h:=(by (repeat (cbv;simp only [e,C,E,F,G,J,K]));try cbv))
   refine nT ?_;rcases tf e2 with k | k
   ·replace a:=cT k a;refine zT ?_ (hb:=(by first | rfl | simp only [e,k,zqa,zqb,zqc,zqd]))
    refine zs ?_;obtain ⟨_,i0,a⟩:=a0a a;have k1:=ckI i0;obtain ⟨_,j0,a⟩:=a0a a;have l1:=ckI j0;obtain ⟨_,k0,a⟩:=a0a a;have m1:=ckI k0;refine zA ?_ (h:=(by (repeat (cbv;simp only [e,k,k1,l1,m1]));try cbv))
    refine nT (zs (zs ?_));refine zA ?_ (h:=(by (repeat (cbv;simp only [e,k]));try cbv))
    refine nT (zb ?_);obtain ⟨r2,c2,V,b2,u⟩:=a0S a;refine zM 2 [0,5] [] 1 (fun τ => ∃ v w,V (v,w)=some j1/\τ=⟨[(0,.mref 0 1 m j),(5,zi v)],[(.arr 1 w)],66⟩) ?_ ?_
    ·refine zP c2 [0,1,5,6,7] [] 1 (fun (S,r,U)=>⟨[(0,.mref 0 1 m j),(1,(.func 100 [] [])),(5,zi S),(6,.mref 0 1 (A.zadd m p) (A.zsub j p)),(7,zi r)],[(.arr 1 U)],66⟩) ⟨rfl,(by first | (cbv;done) | ((repeat (cbv;simp only [e,k]));try cbv))⟩ ?_
     rintro ⟨S,r,U⟩ q2 b;dsimp only [a8v] at b;refine zs (zs (zA (nT ?_)));rcases tf (A.zlt r (A.zsub j p)) with i | i
     ·replace b:=cT i b;refine zT ?_ (hb:=(by first | rfl | simp only [i,zqa,zqb,zqc,zqd]))
      refine zk (nT (zs (zb (zs ?_))));refine zQ ?_;obtain ⟨_,l0,b⟩:=a0a b;have L:=ckI l0;obtain ⟨_,m0,b⟩:=a0a b;have M:=ckI m0;obtain ⟨m2,n0,b⟩:=a0a b;have N:=gcI n0;obtain ⟨_,o0,b⟩:=a0a b;have O:=ckI o0;obtain ⟨_,p0,b⟩:=a0a b;have P:=ckI p0;obtain ⟨n2,q0,b⟩:=a0a b;have Q:=gcI q0;obtain ⟨g2,r0,b⟩:=a0a b;refine a2f.c0 hT hA {} rfl (by (repeat (cbv;simp only [i,L,M,N,O,P,Q]));try cbv) (b6I hA r0) rfl rfl (lb rfl) rfl rfl ?_
      refine zJ ?_ (h:=(by (repeat (cbv;simp only [i,L,M,N,O,P,Q]));try cbv))
      refine nT ?_;obtain ⟨⟨i2,j2⟩,c,b⟩:=a0a b;refine zN [0,1,5,6,7] [] 1 (fun τ=>τ=⟨[(0,.mref 0 1 m j),(1,(.func 100 [] [])),(5,zi i2),(6,.mref 0 1 (A.zadd m p) (A.zsub j p)),(7,zi r)],[(.arr 1 j2)],66⟩) ?_ ?_
      ·rcases tf g2 with l | l
       ·replace c:=cT l c;refine zU ?_ (hb:=(by first | rfl | simp only [i,l,zqa,zqb,zqc,zqd]))
        refine zk ?_;cases soI c;exact (zO (g:=(by first | (cbv;done) | ((repeat (cbv;simp only [i,l]));try cbv))))
       replace c:=cF l c;refine zT ?_ (hb:=(by first | rfl | simp only [i,l,zqa,zqb,zqc,zqd]))
       refine zs ?_;obtain ⟨_,s0,c⟩:=a0a c;have n1:=ckI s0;obtain ⟨_,u0,c⟩:=a0a c;have o1:=ckI u0;obtain ⟨o2,v0,c⟩:=a0a c;have p1:=gcI v0;obtain ⟨_,w0,c⟩:=a0a c;have q1:=ckI w0;obtain ⟨_,y0,c⟩:=a0a c;have r1:=ckI y0;obtain ⟨p2,z0,c⟩:=a0a c;refine zA ?_ { tk:=[55] } (h:=(by (repeat (cbv;simp only [i,l,n1,o1,p1,q1,r1,z0]));try cbv))
       refine nT ?_;refine zA ?_ (h:=(by (repeat (cbv;simp only [i,l]));try cbv))
       cases soI c;exact (zO (g:=(by first | (cbv;done) | ((repeat (cbv;simp only [i,l]));try cbv))))
      rintro _ rfl;refine nB (nT (zA ?_));exact nT ⟨_,(soI b).symm,rfl,zc⟩
     replace b:=cF i b;refine zU ?_ (hb:=(by first | rfl | simp only [i,zqa,zqb,zqc,zqd]))
     refine AWp.exit (xT (xT ?_));refine exL b ?_;rintro rfl;exact oxI ⟨rfl,_,_,u,(by first | (cbv;done) | ((repeat (cbv;simp only [i]));try cbv))⟩
    rintro _ ⟨v,w,u,rfl⟩;have a:=(b2 _ u);refine xB (nT (zs ?_));obtain ⟨_,a1,a⟩:=a0a a;have s1:=ckI a1;obtain ⟨_,b1,a⟩:=a0a a;have u1:=ckI b1;obtain ⟨_,c1,a⟩:=a0a a;have v1:=ckI c1;obtain ⟨_,d1,a⟩:=a0a a;have w1:=ckI d1;refine zA ?_ (h:=(by (repeat (cbv;simp only [s1,u1,v1,w1]));try cbv))
    refine nT (zs ?_);obtain ⟨_,e1,a⟩:=a0a a;have y1:=ckI e1;obtain ⟨_,g1,a⟩:=a0a a;have z1:=ckI g1;obtain ⟨_,i1,a⟩:=a0a a;have a2:=ckI i1;refine zA ?_ { tk:=[64] } (h:=(by (repeat (cbv;simp only [y1,z1,a2]));try cbv))
    refine nT (zr (rB (rT (rT ?_))));refine exL a ?_;rintro rfl;refine oxR ?_;replace q:=(eR (R _ q));refine rB (rT ?_);cases soI q;exact zq
   replace a:=cF k a;refine zU ?_ (hb:=(by first | rfl | simp only [e,k,zqa,zqb,zqc,zqd]))
   refine zk (nB (nT ?_));refine zA ?_ (h:=(by (repeat (cbv;simp only [e,k]));try cbv))
   exact nT ⟨_,(soI a).symm,rfl,(by first | (cbv;done) | ((repeat (cbv;simp only [e,k]));try cbv))⟩
  replace a:=cF e a;refine zU ?_ (hb:=(by first | rfl | simp only [e,zqa,zqb,zqc,zqd]))
  refine AWp.exit (xT (xT ?_));refine exL a ?_;rintro rfl;exact oxI ⟨rfl,q,(by first | (cbv;done) | ((repeat (cbv;simp only [e]));try cbv))⟩
 rintro _ ⟨q,rfl⟩;have h:=(eL (R _ q));refine xB (nT (zs (zA (nT (zr ?_)) { tk:=[0,65] })));cases soI h;exact zq

theorem b9S {A:Ar} (hA:SA A) {g:List D} {i z B:Int} {C:List D} (h:M56 A g i=some (z,B,C)):a0m Try.prog 56 [zl 1 g,.d (.iface i)] [] (.mref 0 1 z B) [(.arr 1 C)]:=by
 unfold M56 at h;refine zI Try.func56 ?_;refine zs (zA (nT (zs ?_)));obtain ⟨_,N,h⟩:=a0a h;have f4:=ckI N;refine zB (nT (zs ?_)) { tk:=[9,12],esc:=[5] };have f5:=lnF hA (l:=((.int .u8 0)::(.int .u8 0)::(.int .u8 0)::(.int .i8 0)::(.int .i8 0)::(.int .i8 0)::(.int .i8 0)::(.int .i8 0)::(.int .i8 0)::(.int .i8 0)::(.int .i8 0)::(.int .i8 0)::(.int .i8 0)::(.int .i8 0)::(.int .i8 0)::(.int .i8 0)::(.int .i8 0)::(.int .i8 0)::(.int .i8 0)::(.int .i8 0)::(.int .i8 0)::(.int .i8 0)::(.int .i8 0)::(.int .i8 0)::(.int .i8 0)::(.int .i8 0)::(.int .i8 0)::(.int .i8 0)::(.int .i8 0)::(.int .i8 0)::(.int .i8 0)::(.int .i8 0)::(.int .i8 0)::(.int .i8 0)::(.int .i8 0)::(.int .i8 0)::(.int .i8 0)::(.int .i8 0)::(.int .i64 0)::(.int .i64 0)::(.int .i64 0)::[])) (n:=41) rfl;refine zB (nT (zs ?_)) { tk:=[14],esc:=[6],gr:=[14] };refine zA (nT (zs (zb ?_)));refine AWp.weak (Wk.settleS 7 rfl (lb rfl)) ?_;refine AWp.weak (Wk.ren [some 0,some 1,some 5,some 2,some 3,some 4,some 6,some 7,some 8] [0,1,5,6,7] rfl rfl) ?_;obtain ⟨l1,c0,F,b0,w⟩:=a0S h;refine AWp.cutXW 0 (fun τ => ∃ s,F s=some (z,B,C)/\τ=⟨[(7,.gref 0 1)],[.gro 1 s,.dead,.dead],47⟩) ?_ ?_
 ·refine AWp.iterW c0 (fun (j,c,E)=>⟨[(0,zl 1 g),(1,.d (.iface i)),(5,.ptr 1 0),(6,.ptr 2 0),(7,.gref 6 1)],[(.map true (.int .u8 :: .int .u8 :: .int .u8 :: .int .i8 :: .int .i8 :: .int .i8 :: .int .i8 :: .int .i8 :: .int .i8 :: .int .i8 :: .int .i8 :: .int .i8 :: .int .i8 :: .int .i8 :: .int .i8 :: .int .i8 :: .int .i8 :: .int .i8 :: .int .i8 :: .int .i8 :: .int .i8 :: .int .i8 :: .int .i8 :: .int .i8 :: .int .i8 :: .int .i8 :: .int .i8 :: .int .i8 :: .int .i8 :: .int .i8 :: .int .i8 :: .int .i8 :: .int .i8 :: .int .i8 :: .int .i8 :: .int .i8 :: .int .i8 :: .int .i8 :: .int .i64 :: .int .i64 :: .int .i64::[]) j),(.cells [(.map 0)]),.cells [.gref 3 41],.gro 41 c,.dead,.dead,.gro 1 E,.dead,.dead],47⟩) ⟨_,zR [some 0,some 1,some 2,some 3,some 4,some 5,some 6,some 7,some 8] [0,1,5,6,7],rfl⟩ ?_;rintro ⟨j,c,E⟩ i0 a;dsimp only [a7i] at a;refine zs (zs (zA (nT ?_)));rcases tf (A.zlt 0 (A.len c)) with u | u
  ·replace a:=cT u a;refine zT (zk (nT (zb (zs ?_))));obtain ⟨_,O,a⟩:=a0a a;have j0:=ckI O;obtain ⟨_,P,a⟩:=a0a a;have k0:=ckI P;obtain ⟨m,Q,a⟩:=a0a a;have l0:=gcI Q;obtain ⟨_,S,a⟩:=a0a a;have n0:=ckI S;obtain ⟨_,R,a⟩:=a0a a;have m0:=ckI R;refine zB (nT (zs ?_)) { tk:=[23],arr:=[8] };obtain ⟨_,U,a⟩:=a0a a;have o0:=ckI U;obtain ⟨_,V,a⟩:=a0a a;have p0:=ckI V;refine zB (nT ?_) { tk:=[28] };refine AWp.weak (Wk.settle 2 0 rfl rfl rfl) ?_;refine zs (zs (zn ?_));obtain ⟨y,W,a⟩:=a0a a;obtain ⟨q0,r0,s0⟩:=gaI W;obtain ⟨d0,X,a⟩:=a0a a;refine zD (b9N hA X) ?_;refine zF (nT ?_);obtain ⟨k,e,a⟩:=a0a a;refine AWp.cutW (fun τ=>τ=⟨[(0,zl 1 g),(1,.d (.iface i)),(5,.ptr 1 0),(6,.ptr 2 0),(7,.gref 7 1),(8,.ptr 3 0)],[(.map true (.int .u8 :: .int .u8 :: .int .u8 :: .int .i8 :: .int .i8 :: .int .i8 :: .int .i8 :: .int .i8 :: .int .i8 :: .int .i8 :: .int .i8 :: .int .i8 :: .int .i8 :: .int .i8 :: .int .i8 :: .int .i8 :: .int .i8 :: .int .i8 :: .int .i8 :: .int .i8 :: .int .i8 :: .int .i8 :: .int .i8 :: .int .i8 :: .int .i8 :: .int .i8 :: .int .i8 :: .int .i8 :: .int .i8 :: .int .i8 :: .int .i8 :: .int .i8 :: .int .i8 :: .int .i8 :: .int .i8 :: .int .i8 :: .int .i8 :: .int .i8 :: .int .i64 :: .int .i64 :: .int .i64::[]) j),(.cells [(.map 0)]),.cells [.gref 4 41],(.arr 1 (A.spl ((.int .u8 0)::(.int .u8 0)::(.int .u8 0)::(.int .i8 0)::(.int .i8 0)::(.int .i8 0)::(.int .i8 0)::(.int .i8 0)::(.int .i8 0)::(.int .i8 0)::(.int .i8 0)::(.int .i8 0)::(.int .i8 0)::(.int .i8 0)::(.int .i8 0)::(.int .i8 0)::(.int .i8 0)::(.int .i8 0)::(.int .i8 0)::(.int .i8 0)::(.int .i8 0)::(.int .i8 0)::(.int .i8 0)::(.int .i8 0)::(.int .i8 0)::(.int .i8 0)::(.int .i8 0)::(.int .i8 0)::(.int .i8 0)::(.int .i8 0)::(.int .i8 0)::(.int .i8 0)::(.int .i8 0)::(.int .i8 0)::(.int .i8 0)::(.int .i8 0)::(.int .i8 0)::(.int .i8 0)::(.int .i64 0)::(.int .i64 0)::(.int .i64 0)::[]) (A.zadd 0 (Int.ofNat 0)) m)),(.gro 41 (A.sub c 0 (A.wrp .i64 (A.zsub (A.len c) 1)))),.dead,.dead,.gro 1 k,.dead,.dead],47⟩) ?_ ?_
   ·rcases tf d0 with v | v
    ·replace e:=cT v e;refine zT (zn ?_);obtain ⟨k1,Y,e⟩:=a0a e;refine zD (b9P hA Y) ?_ { tk:=[7,37] };obtain ⟨w0,a0,e⟩:=a0a e;obtain ⟨u0,v0⟩:=apI a0;refine zF ?_ { tk:=[7,37],gr:=[37] };cases soI e;exact oWi ⟨_,zR [some 0,some 1,some 2,some 9,some 10,some 11,some 12,some 13,some 14,some 15] [0,1,5,6,7,8],rfl⟩
    replace e:=cF v e;refine zU (zk ?_);cases soI e;exact oWi ⟨_,zR [some 0,some 1,some 2,some 9,some 10,some 11,some 12,some 6,some 7,some 8] [0,1,5,6,7,8],rfl⟩
   rintro _ rfl;refine nT ?_;obtain ⟨⟨e0,g0⟩,b,a⟩:=a0a a;refine AWp.cutW (fun τ=>τ=⟨[(0,zl 1 g),(1,.d (.iface i)),(5,.ptr 1 0),(6,.ptr 2 0),(7,.gref 6 1)],[(.map true (.int .u8 :: .int .u8 :: .int .u8 :: .int .i8 :: .int .i8 :: .int .i8 :: .int .i8 :: .int .i8 :: .int .i8 :: .int .i8 :: .int .i8 :: .int .i8 :: .int .i8 :: .int .i8 :: .int .i8 :: .int .i8 :: .int .i8 :: .int .i8 :: .int .i8 :: .int .i8 :: .int .i8 :: .int .i8 :: .int .i8 :: .int .i8 :: .int .i8 :: .int .i8 :: .int .i8 :: .int .i8 :: .int .i8 :: .int .i8 :: .int .i8 :: .int .i8 :: .int .i8 :: .int .i8 :: .int .i8 :: .int .i8 :: .int .i8 :: .int .i8 :: .int .i64 :: .int .i64 :: .int .i64::[]) e0),(.cells [(.map 0)]),.cells [.gref 3 41],.gro 41 g0,.dead,.dead,.gro 1 k,.dead,.dead],47⟩) ?_ ?_
   ·refine zn ?_;rcases tf (A.zeq i (Int.ofNat 143)) with o | o
    ·replace b:=cT o b;rw [ifF hA (n:=143) o];obtain ⟨⟨y0,z0⟩,G,b⟩:=a0a b;refine zD (a0m.emb (args':=[.d (.agg []),zl 1 g,.d (.agg y),(.func 96 [] [.ptr 1 0,.ptr 2 0])]) (b8E hA G) [some 1,some 0,some 2,some 4,some 5,some 6] [(.map true (.int .u8 :: .int .u8 :: .int .u8 :: .int .i8 :: .int .i8 :: .int .i8 :: .int .i8 :: .int .i8 :: .int .i8 :: .int .i8 :: .int .i8 :: .int .i8 :: .int .i8 :: .int .i8 :: .int .i8 :: .int .i8 :: .int .i8 :: .int .i8 :: .int .i8 :: .int .i8 :: .int .i8 :: .int .i8 :: .int .i8 :: .int .i8 :: .int .i8 :: .int .i8 :: .int .i8 :: .int .i8 :: .int .i8 :: .int .i8 :: .int .i8 :: .int .i8 :: .int .i8 :: .int .i8 :: .int .i8 :: .int .i8 :: .int .i8 :: .int .i8 :: .int .i64 :: .int .i64 :: .int .i64::[]) j),(.cells [(.map 0)]),.cells [.gref 4 41],(.arr 1 (A.spl ((.int .u8 0)::(.int .u8 0)::(.int .u8 0)::(.int .i8 0)::(.int .i8 0)::(.int .i8 0)::(.int .i8 0)::(.int .i8 0)::(.int .i8 0)::(.int .i8 0)::(.int .i8 0)::(.int .i8 0)::(.int .i8 0)::(.int .i8 0)::(.int .i8 0)::(.int .i8 0)::(.int .i8 0)::(.int .i8 0)::(.int .i8 0)::(.int .i8 0)::(.int .i8 0)::(.int .i8 0)::(.int .i8 0)::(.int .i8 0)::(.int .i8 0)::(.int .i8 0)::(.int .i8 0)::(.int .i8 0)::(.int .i8 0)::(.int .i8 0)::(.int .i8 0)::(.int .i8 0)::(.int .i8 0)::(.int .i8 0)::(.int .i8 0)::(.int .i8 0)::(.int .i8 0)::(.int .i8 0)::(.int .i64 0)::(.int .i64 0)::(.int .i64 0)::[]) (A.zadd 0 (Int.ofNat 0)) m)),(.gro 41 (A.sub c 0 (A.wrp .i64 (A.zsub (A.len c) 1)))),.dead,.dead,.gro 1 k,.dead,.dead] rfl rfl rfl rfl rfl rfl rfl) ?_;refine zF ?_;cases soI b;exact oWi ⟨_,zR [some 0,some 1,some 2,some 10,some 11,some 12,some 7,some 8,some 9] [0,1,5,6,7],rfl⟩
    replace b:=cF o b;rcases tf (A.zeq i (Int.ofNat 144)) with p | p
    ·replace b:=cT p b;rw [ifF hA (n:=144) p];obtain ⟨⟨a1,b1⟩,J,b⟩:=a0a b;refine zD (a0m.emb (args':=[.d (.agg []),zl 1 g,.d (.agg y),(.func 96 [] [.ptr 1 0,.ptr 2 0])]) (b8I hA J) [some 1,some 0,some 2,some 4,some 5,some 6] [(.map true (.int .u8 :: .int .u8 :: .int .u8 :: .int .i8 :: .int .i8 :: .int .i8 :: .int .i8 :: .int .i8 :: .int .i8 :: .int .i8 :: .int .i8 :: .int .i8 :: .int .i8 :: .int .i8 :: .int .i8 :: .int .i8 :: .int .i8 :: .int .i8 :: .int .i8 :: .int .i8 :: .int .i8 :: .int .i8 :: .int .i8 :: .int .i8 :: .int .i8 :: .int .i8 :: .int .i8 :: .int .i8 :: .int .i8 :: .int .i8 :: .int .i8 :: .int .i8 :: .int .i8 :: .int .i8 :: .int .i8 :: .int .i8 :: .int .i8 :: .int .i8 :: .int .i64 :: .int .i64 :: .int .i64::[]) j),(.cells [(.map 0)]),.cells [.gref 4 41],(.arr 1 (A.spl ((.int .u8 0)::(.int .u8 0)::(.int .u8 0)::(.int .i8 0)::(.int .i8 0)::(.int .i8 0)::(.int .i8 0)::(.int .i8 0)::(.int .i8 0)::(.int .i8 0)::(.int .i8 0)::(.int .i8 0)::(.int .i8 0)::(.int .i8 0)::(.int .i8 0)::(.int .i8 0)::(.int .i8 0)::(.int .i8 0)::(.int .i8 0)::(.int .i8 0)::(.int .i8 0)::(.int .i8 0)::(.int .i8 0)::(.int .i8 0)::(.int .i8 0)::(.int .i8 0)::(.int .i8 0)::(.int .i8 0)::(.int .i8 0)::(.int .i8 0)::(.int .i8 0)::(.int .i8 0)::(.int .i8 0)::(.int .i8 0)::(.int .i8 0)::(.int .i8 0)::(.int .i8 0)::(.int .i8 0)::(.int .i64 0)::(.int .i64 0)::(.int .i64 0)::[]) (A.zadd 0 (Int.ofNat 0)) m)),(.gro 41 (A.sub c 0 (A.wrp .i64 (A.zsub (A.len c) 1)))),.dead,.dead,.gro 1 k,.dead,.dead] rfl rfl rfl rfl rfl rfl rfl) ?_;refine zF ?_;cases soI b;exact oWi ⟨_,zR [some 0,some 1,some 2,some 10,some 11,some 12,some 7,some 8,some 9] [0,1,5,6,7],rfl⟩
    replace b:=cF p b;rcases tf (A.zeq i (Int.ofNat 145)) with q | q
    ·replace b:=cT q b;rw [ifF hA (n:=145) q];obtain ⟨⟨c1,d1⟩,K,b⟩:=a0a b;refine zD (a0m.emb (args':=[.d (.agg []),zl 1 g,.d (.agg y),(.func 96 [] [.ptr 1 0,.ptr 2 0])]) (b8J hA K) [some 1,some 0,some 2,some 4,some 5,some 6] [(.map true (.int .u8 :: .int .u8 :: .int .u8 :: .int .i8 :: .int .i8 :: .int .i8 :: .int .i8 :: .int .i8 :: .int .i8 :: .int .i8 :: .int .i8 :: .int .i8 :: .int .i8 :: .int .i8 :: .int .i8 :: .int .i8 :: .int .i8 :: .int .i8 :: .int .i8 :: .int .i8 :: .int .i8 :: .int .i8 :: .int .i8 :: .int .i8 :: .int .i8 :: .int .i8 :: .int .i8 :: .int .i8 :: .int .i8 :: .int .i8 :: .int .i8 :: .int .i8 :: .int .i8 :: .int .i8 :: .int .i8 :: .int .i8 :: .int .i8 :: .int .i8 :: .int .i64 :: .int .i64 :: .int .i64::[]) j),(.cells [(.map 0)]),.cells [.gref 4 41],(.arr 1 (A.spl ((.int .u8 0)::(.int .u8 0)::(.int .u8 0)::(.int .i8 0)::(.int .i8 0)::(.int .i8 0)::(.int .i8 0)::(.int .i8 0)::(.int .i8 0)::(.int .i8 0)::(.int .i8 0)::(.int .i8 0)::(.int .i8 0)::(.int .i8 0)::(.int .i8 0)::(.int .i8 0)::(.int .i8 0)::(.int .i8 0)::(.int .i8 0)::(.int .i8 0)::(.int .i8 0)::(.int .i8 0)::(.int .i8 0)::(.int .i8 0)::(.int .i8 0)::(.int .i8 0)::(.int .i8 0)::(.int .i8 0)::(.int .i8 0)::(.int .i8 0)::(.int .i8 0)::(.int .i8 0)::(.int .i8 0)::(.int .i8 0)::(.int .i8 0)::(.int .i8 0)::(.int .i8 0)::(.int .i8 0)::(.int .i64 0)::(.int .i64 0)::(.int .i64 0)::[]) (A.zadd 0 (Int.ofNat 0)) m)),(.gro 41 (A.sub c 0 (A.wrp .i64 (A.zsub (A.len c) 1)))),.dead,.dead,.gro 1 k,.dead,.dead] rfl rfl rfl rfl rfl rfl rfl) ?_;refine zF ?_;cases soI b;exact oWi ⟨_,zR [some 0,some 1,some 2,some 10,some 11,some 12,some 7,some 8,some 9] [0,1,5,6,7],rfl⟩
    replace b:=cF q b;cases b
   rintro _ rfl;refine nB ?_;exact nT ⟨_,(soI a).symm,_,zR [some 0,some 1,some 2,some 3,some 4,some 5,some 6,some 7,some 8] [0,1,5,6,7],rfl⟩
  replace a:=cF u a;refine zU (AWp.exit (xT (xT ?_)));refine exL a ?_;rintro rfl;exact b6h ⟨_,zR [some 6,some 7,some 8] [7],_,w,rfl⟩
 rintro _ ⟨s,w,rfl⟩;have h:=(b0 _ w);refine xB (nT (zs ?_));rcases tf (A.zlt 0 (A.len s)) with r | r
 ·replace h:=cT r h;refine AWp.weak (Wk.groArr 7 rfl rfl (neL hA r) (b9B hA)) ?_;refine zn ?_;obtain ⟨e1,L,h⟩:=a0a h;refine zD (b9Q hA L) ?_;refine zF (nT (zs (zn ?_)));obtain ⟨⟨g1,i1,j1⟩,M,h⟩:=a0a h;refine zD (b9R hA M) ?_ { tk:=[46] };refine zF (nT ?_) { tk:=[46] };refine AWp.weak (Wk.ren [some 0] [4] rfl rfl) ?_;refine zr ?_;cases soI h;exact zq
 replace h:=cF r h;cases h

theorem b9T {A:Ar} (hA:SA A) {e:List D} {g:Int} {b:List D} {c:Int} (h:M19 A e g=some (b,c)):a0m Try.prog 19 [zl 1 e,zi g] [] (.tuple [zl 1 b,zi c]) []:=by
 unfold M19 at h;refine zI Try.func19 ?_;refine zs (zA (nT (zs (zn ?_))));obtain ⟨⟨z,p⟩,l,h⟩:=a0a h;refine zC (b9M hA l) ?_;refine zE (nT (zs (zs ?_)));refine zA (nT ?_);rcases tf (A.zeq p 0) with a | a
 ·replace h:=cT a h;refine zU (zk (nT (zs (zn ?_))));obtain ⟨q,m,h⟩:=a0a h;have r:=gcI m;obtain ⟨⟨v,w,y⟩,j,h⟩:=a0a h;refine zD (b9S hA j) ?_;refine zF (nT ?_);obtain ⟨u,k,h⟩:=a0a h;obtain ⟨n,o⟩:=fzI hA k;refine AWp.freeze (s:=4) (i:=0) rfl rfl n o ?_;refine zr ?_;cases soI h;exact zq
 replace h:=cF a h;refine zT (zs ?_);refine zB (nT (zr (rT ?_)));cases soI h;exact zq

theorem b8M {A:Ar} (hA:SA A) {c i:List D} {q:Int} {r:Bool} (h:b6C A c i=some (q,r)):a0m Try.prog 103 [zl 1 c,zl 1 i,(.func 98 [] [])] [] (.tuple [zi q,.d (.bool r)]) []:=by
 unfold b6C at h;refine zI Try.func103 ?_;refine zs (zA (nT (zs ?_)));refine zA (nT (zs ?_));refine zA (nT (zs (zb ?_)));obtain ⟨U,C,s,B,m⟩:=a0S h;refine zM 0 [0,1,2,8,9] [] 0 (fun τ => ∃ g,s g=some (q,r)/\τ=⟨[(0,zl 1 c),(1,zl 1 i),(2,(.func 98 [] [])),(8,(.d (.int .i64 (A.len c)))),(9,zi g)],[],49⟩) ?_ ?_
 ·refine zP C [0,1,2,8,9,10] [] 0 (fun (o,p)=>⟨[(0,zl 1 c),(1,zl 1 i),(2,(.func 98 [] [])),(8,(.d (.int .i64 (A.len c)))),(9,zi o),(10,zi p)],[],49⟩) ⟨rfl,zc⟩ ?_;rintro ⟨o,p⟩ M a;dsimp only [a5J] at a;refine zs (zs (zA (nT ?_)));rcases tf (A.zlt o p) with j | j
  ·replace a:=cT j a;refine zT (zk (nT (zb (zs ?_))));obtain ⟨_,u,a⟩:=a0a a;have N:=nkI u;refine zB (nT (zs (zn ?_)));obtain ⟨K,v,a⟩:=a0a a;obtain ⟨O,P⟩:=gtI v;obtain ⟨E,w,a⟩:=a0a a;refine zD (b8L hA w) ?_;refine zF (nT ?_);obtain ⟨⟨F,G⟩,e,a⟩:=a0a a;refine zN [0,1,2,8,9,10] [] 0 (fun τ=>τ=⟨[(0,zl 1 c),(1,zl 1 i),(2,(.func 98 [] [])),(8,(.d (.int .i64 (A.len c)))),(9,zi F),(10,zi G)],[],49⟩) ?_ ?_
   ·rcases tf (A.zlt E 0) with k | k
    ·replace e:=cT k e;refine zT ?_;refine zB ?_;cases soI e;exact zO
    replace e:=cF k e;refine zU ?_;refine zB ?_;cases soI e;exact zO
   rintro _ rfl;refine nB ?_;exact nT ⟨_,(soI a).symm,rfl,zc⟩
  replace a:=cF j a;refine zU (AWp.exit (xT (xT ?_)));refine exL a ?_;rintro rfl;exact oxI ⟨rfl,_,m,zv⟩
 rintro _ ⟨g,m,rfl⟩;have h:=(B _ m);refine xB (nT (zs ?_));obtain ⟨J,b,h⟩:=a0a h;refine zN [6,7] [] 0 (fun τ=>τ=⟨[(6,zi g),(7,.d (.bool J))],[],49⟩) ?_ ?_
 ·refine zn ?_;rcases tf (A.zlt g (A.len c)) with l | l
  ·replace b:=cT l b;obtain ⟨L,y,b⟩:=a0a b;obtain ⟨Q,R⟩:=gtI y;obtain ⟨S,z,b⟩:=a0a b;refine zD (b8L hA z) ?_;refine zF ?_;cases soI b;exact zO
  replace b:=cF l b;refine zF ?_;cases soI b;exact zO
 rintro _ rfl;refine nT (zr ?_);cases soI h;exact zq

theorem b9U {A:Ar} (hA:SA A) {b c:List D} {a:Bool} (h:M59 A b c=some a):a0m Try.prog 59 [zl 1 b,zl 1 c] [] (.d (.bool a)) []:=by
 unfold M59 at h;refine zI Try.func59 ?_;refine zs (zA (nT (zs (zn ?_))));obtain ⟨⟨g,i⟩,e,h⟩:=a0a h;refine zC (b8M hA e) ?_ { tk:=[12] };refine zE (nT (zs ?_)) { tk:=[12] };refine zA (nT (zr ?_)) { tk:=[6,13] };cases soI h;exact zq

theorem b9w {A:Ar} (hA:SA A) {i:List D} {j:Int} {k:List D} {e:Bool} {g:Int} (h:M21 A i j k=some (e,g)):a0m Try.prog 21 [zl 1 i,zi j,zl 1 k] [] (.tuple [.d (.bool e),zi g]) []:=by
 unfold M21 at h;refine zI Try.func21 ?_;refine zs (zA (nT (zs (zn ?_))));obtain ⟨⟨p,c⟩,l,h⟩:=a0a h;refine zC (b9T hA l) ?_;refine zE (nT (zs ?_));obtain ⟨o,a,h⟩:=a0a h;refine zN [6,7] [] 0 (fun τ=>τ=⟨[(6,.d (.bool o)),(7,zi c)],[],24⟩) ?_ ?_
 ·refine zn ?_;rcases tf (A.zeq c 0) with b | b
  ·replace a:=cT b a;obtain ⟨q,m,a⟩:=a0a a;refine zD (b9U hA m) ?_;refine zF ?_;cases soI a;exact zO
  replace a:=cF b a;refine zF ?_;cases soI a;exact zO
 rintro _ rfl;refine nT (zr ?_);cases soI h;exact zq

theorem b9x {A:Ar} (hA:SA A) {g:Bool} (h:M18 A=some g):a0m Try.prog 18 [] [] (.d (.bool g)) []:=by
 unfold M18 at h;refine zI Try.func18 ?_;refine zs (zA (nT (zs ?_)));refine zA (nT (zs (zn ?_)));obtain ⟨⟨k,l⟩,i,h⟩:=a0a h;refine zC (b9w hA i) ?_;refine zE (nT (zs (zn ?_)));obtain ⟨⟨p,m⟩,j,h⟩:=a0a h;refine zC (b9w hA j) ?_;refine zE (nT (zs ?_));obtain ⟨o,a,h⟩:=a0a h;refine zN [0] [] 0 (fun τ=>τ=⟨[(0,.d (.bool o))],[],38⟩) ?_ ?_
 ·rcases tf (A.zeq l 0) with b | b
  ·replace a:=cT b a;rcases tf (A.zeq m 0) with c | c
   ·replace a:=cT c a;rcases tf k with e | e
    ·replace a:=cT e a;refine zB ?_ { tk:=[37] };cases soI a;exact zO
    replace a:=cF e a;refine zB ?_ { tk:=[37] };cases soI a;exact zO
   replace a:=cF c a;refine zB ?_ { tk:=[37] };cases soI a;exact zO
  replace a:=cF b a;refine zB ?_ { tk:=[37] };cases soI a;exact zO
 rintro _ rfl;refine nT (zr ?_);cases soI h;exact zq

theorem b9V {A:Ar} (hA:SA A) {a:List (D×D)} {b:List (D×D)} (h:M94 A a b=some ()):a0m Try.prog 94 [(.map 1)] [(.map false [.int .i64] a),(.map false [.int .i64] b)] (.func 115 [] [.ptr 2 0]) [(.map false [.int .i64] a),(.map false [.int .i64] b),(.cells [(.map 1)])]:=by
 unfold M94 at h;refine zI Try.func94 ?_;refine zs (zA (nT (zs ?_)) { esc:=[1] });refine zA (nT (zr ?_)) { tk:=[3] };cases soI h;exact zq

theorem b9W {A:Ar} (hA:SA A) {b:List (D×D)} {e:List (D×D)} {r:List D} (h:M93 A b e=some r):a0m Try.prog 93 [(.func 115 [] [.ptr 2 0])] [(.map false [.int .i64] b),(.map false [.int .i64] e),(.cells [(.map 1)])] (zl 1 r) [(.map false [.int .i64] b),(.map false [.int .i64] e),(.cells [(.map 1)])] :=
 a0m.sortedKeys Try.sk93 { Try.sk94 with } Try.sk114 rfl rfl rfl rfl (a:=1) (c:=2) rfl rfl h rfl

theorem b9y {A:Ar} (hA:SA A) {b:Int} {a:Bool} (h:M92 A b=some a):a0m Try.prog 92 [.d (.int .u64 b)] [] (.d (.bool a)) []:=by
 unfold M92 at h;refine zI Try.func92 ?_;refine zs (zA (nT (zs ?_)));refine zA (nT (zr ?_)) { tk:=[7] };cases soI h;exact zq

theorem b9X {A:Ar} (hA:SA A) {a:List D} {y:Bool} {z:Int} (h:M51 A a=some (y,z)):a0m Try.prog 51 [zl 1 a] [] (.tuple [.d (.bool y),zi z]) []:=by
 unfold M51 at h;refine zI Try.func51 ?_;refine zs (zA (nT (zs (zs (zn ?_)))));obtain ⟨r3,e2,h⟩:=a0a h;refine zC (b6E hA e2) ?_;refine zE (nT ?_);rcases tf r3 with L | L
 ·replace h:=cT L h;refine zU (zk (nT (zs ?_)));refine zB (nT (zs (zs ?_)));refine zB (nT (zb ?_));obtain ⟨w2,j1,e0,g1,N⟩:=a0S h;refine zM 0 [4,5] [] 2 (fun τ => ∃ s R,e0 (s,R)=some (y,z)/\τ=⟨[(4,(.map 0)),(5,(.map 1))],[(.map false [.int .i64] s),(.map false [.int .i64] R)],75⟩) ?_ ?_
  ·refine zP j1 [4,5,18,19,20] [] 2 (fun (c,Y,a0)=>⟨[(4,(.map 0)),(5,(.map 1)),(18,zl 1 a),(19,(.d (.int .i64 (A.len a)))),(20,zi c)],[(.map false [.int .i64] Y),(.map false [.int .i64] a0)],75⟩) ⟨rfl,zv⟩ ?_;rintro ⟨c,Y,a0⟩ z0 o;dsimp only [a9X] at o;refine zs (zA (nT (zs ?_)));rcases tf (A.zlt c (A.len a)) with C | C
   ·replace o:=cT C o;refine zT (zk (nT (zs (zb (zs ?_)))));obtain ⟨e,k0,o⟩:=a0a o;obtain ⟨d2,g2⟩:=gtI k0;refine zB (nT (zs ?_));refine zB (nT (zb ?_));obtain ⟨v2,i1,d0,e1,M⟩:=a0S o;refine zM 2 [4,5,18,19,20] [] 2 (fun τ => ∃ P Q,d0 (P,Q)=some z0/\τ=⟨[(4,(.map 0)),(5,(.map 1)),(18,zl 1 a),(19,(.d (.int .i64 (A.len a)))),(20,zi c)],[(.map false [.int .i64] P),(.map false [.int .i64] Q)],75⟩) ?_ ?_
    ·refine zP i1 [4,5,6,18,19,20,25,26,27] [] 2 (fun (q,O,v)=>⟨[(4,(.map 0)),(5,(.map 1)),(6,zi c),(18,zl 1 a),(19,(.d (.int .i64 (A.len a)))),(20,zi c),(25,zl 3 e),(26,(.d (.int .i64 (A.len e)))),(27,zi q)],[(.map false [.int .i64] O),(.map false [.int .i64] v)],75⟩) ⟨rfl,zv⟩ ?_;rintro ⟨q,O,v⟩ b2 m;dsimp only [a7k] at m;refine zs (zA (nT (zs ?_)));rcases tf (A.zlt q (A.len e)) with E | E
     ·replace m:=cT E m;refine zT (zk (nT (zs (zb (zs ?_)))));obtain ⟨⟨B,i0,j0⟩,l0,m⟩:=a0a m;obtain ⟨i2,j2⟩:=gtI l0;refine zB (nT (zs ?_)) { tk:=[30] };refine zB (nT (zb (zs ?_)));refine zB (nT ?_);obtain ⟨⟨s1,u1⟩,k,m⟩:=a0a m;refine zN [4,5,6,18,19,20,25,26,27] [] 2 (fun τ=>τ=⟨[(4,(.map 0)),(5,(.map 1)),(6,zi c),(18,zl 1 a),(19,(.d (.int .i64 (A.len a)))),(20,zi c),(25,zl 3 e),(26,(.d (.int .i64 (A.len e)))),(27,zi q)],[(.map false [.int .i64] s1),(.map false [.int .i64] u1)],75⟩) ?_ ?_
      ·rcases tf (A.zeq B 2) with F | F
       ·replace k:=cT F k;refine zT (zs ?_);obtain ⟨b0,g,k⟩:=a0a k;refine zN [4,5,6,9,18,19,20,25,26,27] [] 2 (fun τ=>τ=⟨[(4,(.map 0)),(5,(.map 1)),(6,zi c),(9,(.lbox [zi B,zi i0,zi j0])),(18,zl 1 a),(19,(.d (.int .i64 (A.len a)))),(20,zi c),(25,zl 3 e),(26,(.d (.int .i64 (A.len e)))),(27,zi q)],[(.map false [.int .i64] O),(.map false [.int .i64] b0)],75⟩) ?_ ?_
        ·obtain ⟨l1,S,g⟩:=a0a g;rcases l1 with _ | v1
         ·have a1:=lkN S;replace g:=noE g;obtain ⟨_,m0,g⟩:=a0a g;have k2:=nkI m0;refine zH ?_;cases soI g;exact zO
         have a1:=lkS S;replace g:=soE g;obtain ⟨_,n0,g⟩:=a0a g;have l2:=nkI n0;refine zH ?_;cases soI g;exact zO
        rintro _ rfl;refine nT ?_;obtain ⟨p1,i,k⟩:=a0a k;refine zN [4,5,6,18,19,20,25,26,27] [] 2 (fun τ=>τ=⟨[(4,(.map 0)),(5,(.map 1)),(6,zi c),(18,zl 1 a),(19,(.d (.int .i64 (A.len a)))),(20,zi c),(25,zl 3 e),(26,(.d (.int .i64 (A.len e)))),(27,zi q)],[(.map false [.int .i64] p1),(.map false [.int .i64] b0)],75⟩) ?_ ?_
        ·obtain ⟨m1,U,i⟩:=a0a i;rcases m1 with _ | w1
         ·have b1:=lkN U;replace i:=noE i;obtain ⟨_,o0,i⟩:=a0a i;have m2:=nkI o0;refine zH ?_;cases soI i;exact zO
         have b1:=lkS U;replace i:=soE i;obtain ⟨_,p0,i⟩:=a0a i;have n2:=nkI p0;refine zH ?_;cases soI i;exact zO
        rintro _ rfl;cases soI k;exact zO
       replace k:=cF F k;refine zU (zs ?_);refine zB (nT ?_);obtain ⟨r1,p,k⟩:=a0a k;refine zN [4,5,6,18,19,20,25,26,27] [] 2 (fun τ=>τ=⟨[(4,(.map 0)),(5,(.map 1)),(6,zi c),(18,zl 1 a),(19,(.d (.int .i64 (A.len a)))),(20,zi c),(25,zl 3 e),(26,(.d (.int .i64 (A.len e)))),(27,zi q)],[(.map false [.int .i64] r1),(.map false [.int .i64] v)],75⟩) ?_ ?_
       ·rcases tf (A.zeq B 1) with G | G
        ·replace p:=cT G p;refine zT ?_;obtain ⟨q1,j,p⟩:=a0a p;refine zN [4,5,6,18,19,20,25,26,27] [] 2 (fun τ=>τ=⟨[(4,(.map 0)),(5,(.map 1)),(6,zi c),(18,zl 1 a),(19,(.d (.int .i64 (A.len a)))),(20,zi c),(25,zl 3 e),(26,(.d (.int .i64 (A.len e)))),(27,zi q)],[(.map false [.int .i64] q1),(.map false [.int .i64] v)],75⟩) ?_ ?_
         ·obtain ⟨n1,V,j⟩:=a0a j;rcases n1 with _ | y1
          ·have c1:=lkN V;replace j:=noE j;obtain ⟨_,q0,j⟩:=a0a j;have o2:=nkI q0;refine zH ?_;cases soI j;exact zO
          have c1:=lkS V;replace j:=soE j;obtain ⟨_,r0,j⟩:=a0a j;have p2:=nkI r0;refine zH ?_;cases soI j;exact zO
         rintro _ rfl;cases soI p;exact zO
        replace p:=cF G p;refine zU (zk ?_);cases soI p;exact zO
       rintro _ rfl;cases soI k;exact zO
      rintro _ rfl;refine nB (nB (nT (zA ?_)));exact nT ⟨_,(soI m).symm,rfl,zc⟩
     replace m:=cF E m;refine zU (AWp.exit (xT (xT ?_)));refine exL m ?_;rintro rfl;exact oxI ⟨rfl,_,_,M,zv⟩
    rintro _ ⟨P,Q,M,rfl⟩;have o:=(e1 _ M);refine xB (nB (nT (zA ?_)));exact nT ⟨_,(soI o).symm,rfl,zc⟩
   replace o:=cF C o;refine zU (AWp.exit (xT (xT ?_)));refine exL o ?_;rintro rfl;exact oxI ⟨rfl,_,_,N,zv⟩
  rintro _ ⟨s,R,N,rfl⟩;have h:=(g1 _ N);refine xB (nT (zs (zA (nT (zs (zs (zn ?_)))))));obtain ⟨_,s0,h⟩:=a0a h;refine zC (b9V hA s0) ?_;obtain ⟨u,u0,h⟩:=a0a h;refine zC (b9W hA u0) ?_;refine zE (nT (zb ?_));refine AWp.weak (Wk.ren [some 0] [4,10,62,63,64] rfl rfl) ?_;obtain ⟨y2,k1,g0,X,r⟩:=a0S h;refine zM 5 [] [] 1 (fun τ=>g0 (.inl ())=some (y,z)/\τ=⟨[],[(.map false [.int .i64] s)],75⟩) ?_ ?_
  ·refine zP k1 [4,10,62,63,64] [] 1 (fun w=>⟨[(4,(.map 0)),(10,(.func 92 [] [])),(62,zl 1 u),(63,(.d (.int .i64 (A.len u)))),(64,zi w)],[(.map false [.int .i64] s)],75⟩) ⟨rfl,zc⟩ ?_;rintro w c2 b;dsimp only [b0Q] at b;refine zs (zA (nT (zs ?_)));rcases tf (A.zlt w (A.len u)) with J | J
   ·replace b:=cT J b;refine zT (zk (nT (zs (zb (zs ?_)))));obtain ⟨z1,v0,b⟩:=a0a b;obtain ⟨q2,r2⟩:=gtI v0;refine zB (nT (zs ?_));obtain ⟨c0,l,b⟩:=a0a b;refine zN [4,10,62,63,64,73] [] 1 (fun τ=>τ=⟨[(4,(.map 0)),(10,(.func 92 [] [])),(62,zl 1 u),(63,(.d (.int .i64 (A.len u)))),(64,zi w),(73,.d (.bool c0))],[(.map false [.int .i64] s)],75⟩) ?_ ?_
    ·refine zn ?_;obtain ⟨o1,W,l⟩:=a0a l;rcases o1 with _ | a2
     ·have d1:=lkN W;replace l:=noE l;obtain ⟨s2,w0,l⟩:=a0a l;refine zD (b9y hA w0) ?_;refine zF ?_;cases soI l;exact zO
     have d1:=lkS W;replace l:=soE l;obtain ⟨u2,y0,l⟩:=a0a l;refine zD (b9y hA y0) ?_;refine zF ?_;cases soI l;exact zO
    rintro _ rfl;refine nT ?_;rcases tf c0 with K | K
    ·replace b:=cT K b;refine zT (zs ?_);refine zB (nT (zr (rB (rT (rT ?_)))));refine exL b ?_;rintro rfl;refine oxR ?_;replace r:=(eR (X _ r));refine rB (rT ?_);cases soI r;exact zq
    replace b:=cF K b;refine zU (zk (nB (nT ?_)));refine zB ?_;exact nT ⟨_,(soI b).symm,rfl,zv⟩
   replace b:=cF J b;refine zU (AWp.exit (xT (xT ?_)));refine exL b ?_;rintro rfl;exact oxI ⟨rfl,r,zv⟩
  rintro _ ⟨r,rfl⟩;have h:=(eL (X _ r));refine xB (nT (zs (zA (nT (zr ?_)))));cases soI h;exact zq
 replace h:=cF L h;refine zT (zs ?_);refine zB (nT (zr (rT ?_)));cases soI h;exact zq

theorem b8N {A:Ar} (hA:SA A) {c j:List D} (h:M88 A c=some j):a0m Try.prog 88 [zl 1 c] [] (.gref 0 1) [(.jag 3 j none),.dead,.dead]:=by
 unfold M88 at h;refine zI Try.func88 ?_;refine zs (zA (nT (zs ?_)));refine zA (nT (zs (zs ?_)));refine zA (nT ?_);refine AWp.weak (Wk.nilJag 3 3 rfl (lb rfl)) ?_;refine zb ?_;obtain ⟨G,r,l,q,e⟩:=a0S h;refine zM 0 [3] [] 3 (fun τ => ∃ i,l i=some j/\τ=⟨[(3,.gref 0 1)],[(.jag 3 i none),.dead,.dead],21⟩) ?_ ?_
 ·refine AWp.iterW r (fun (k,g)=>⟨[(0,zl 1 c),(3,.gref 0 1),(4,zi g)],[(.jag 3 k none),.dead,.dead],21⟩) ⟨_,Wk.ren [some 0,some 1,some 2] [0,3,4] rfl rfl,(by first | rfl | cbv)⟩ ?_
  rintro ⟨k,g⟩ u a;dsimp only [a9Y] at a;refine zs (zs (zA (nT ?_)));rcases tf (A.zlt g (A.len c)) with b | b
  ·replace a:=cT b a;refine zT (zk (nT (zs (zb ?_))));obtain ⟨s,m,a⟩:=a0a a;obtain ⟨v,w⟩:=gtI m;obtain ⟨E,o,a⟩:=a0a a;obtain ⟨y,z⟩:=apI o;obtain ⟨F,p,a⟩:=a0a a;obtain ⟨B,C⟩:=apI p;refine zB (nB (nT ?_)) { tk:=[3,19],gr:=[17],jg:=[18] };refine zB ?_;exact nT ⟨_,(soI a).symm,_,Wk.ren [some 6,some 7,some 8] [0,3,4] rfl rfl,(by first | rfl | (cbv;done) | ((repeat (cbv;simp only [b]));try cbv))⟩
  replace a:=cF b a;refine zU (AWp.exit (xT (xT ?_)));refine exL a ?_;rintro rfl;exact oxI ⟨rfl,_,e,zv⟩
 rintro _ ⟨i,e,rfl⟩;have h:=(q _ e);refine xB (nT (zs (zA (nT (zr ?_)) { tk:=[3,20] })));cases soI h;exact zq

theorem b9Y {A:Ar} (hA:SA A) {W:List D} {F G:Int} {U:List D} {V:Int} (h:M53 A W F G=some (U,V)):a0m Try.prog 53 [zl 1 W,zi F,zi G] [] (.tuple [zl 1 U,zi V]) []:=by
 unfold M53 at h;refine zI Try.func53 ?_;refine zs (zA (nT (zs (zs (zn ?_)))));obtain ⟨r5,e4,h⟩:=a0a h;refine zC (b8A hA e4) ?_;refine zE (nT ?_);rcases tf r5 with p | p
 ·replace h:=cT p h;refine zU ?_ (hb:=(by first | rfl | simp only [p,zqa,zqb,zqc,zqd]))
  refine zk (nT (zs (zs ?_)));obtain ⟨Y,v,h⟩:=a0a h;refine zN [0,1,2,21] [] 0 (fun τ=>τ=⟨[(0,zl 1 W),(1,zi F),(2,zi G),(21,.d (.bool Y))],[],88⟩) ?_ ?_
  ·refine zn ?_;obtain ⟨r8,e7,v⟩:=a0a v;refine zC (b4V hA e7) ?_ (h:=(by (repeat (cbv;simp only [p]));try cbv))
   rcases tf r8 with B | B
   ·replace v:=cT B v;obtain ⟨s0,e0,v⟩:=a0a v;refine zC (b4V hA e0) ?_ (h:=(by (repeat (cbv;simp only [p,B]));try cbv))
    refine zE ?_ (h:=(by (repeat (cbv;simp only [p,B]));try cbv))
    cases soI v;exact (zO (g:=(by first | (cbv;done) | ((repeat (cbv;simp only [p,B]));try cbv))))
   replace v:=cF B v;refine zE ?_ (h:=(by (repeat (cbv;simp only [p,B]));try cbv))
   cases soI v;exact (zO (g:=(by first | (cbv;done) | ((repeat (cbv;simp only [p,B]));try cbv))))
  rintro _ rfl;refine nT ?_;rcases tf Y with u | u
  ·replace h:=cT u h;refine zT ?_ (hb:=(by first | rfl | simp only [u,zqa,zqb,zqc,zqd]))
   refine zs ?_;refine zA ?_ (h:=(by (repeat (cbv;simp only [u]));try cbv))
   refine nT (zr (rT ?_));cases soI h;exact zq
  replace h:=cF u h;refine zU ?_ (hb:=(by first | rfl | simp only [u,zqa,zqb,zqc,zqd]))
  refine zk (nT (zs (zn ?_)));obtain ⟨u0,g0,h⟩:=a0a h;refine zC (b8N hA g0) ?_ (h:=(by (repeat (cbv;simp only [u]));try cbv))
  refine zE ?_ (h:=(by (repeat (cbv;simp only [u]));try cbv))
  refine nT (zs (zs ?_));refine zA ?_ (h:=(by (repeat (cbv;simp only [u]));try cbv))
  refine nT (zb ?_);obtain ⟨w0,o0,b0,m0,R⟩:=a0S h;refine zM 0 [8] [] 3 (fun τ => ∃ N,b0 N=some (U,V)/\τ=⟨[(8,.gref 0 1)],[(.jag 3 N none),.dead,.dead],88⟩) ?_ ?_
  ·refine zP o0 [1,2,8,9] [] 3 (fun (E,j)=>⟨[(1,zi F),(2,zi G),(8,.gref 0 1),(9,zi j)],[(.jag 3 E none),.dead,.dead],88⟩) ⟨rfl,(by first | (cbv;done) | ((repeat (cbv;simp only [u]));try cbv))⟩ ?_
   rintro ⟨E,j⟩ k0 s;dsimp only [a5L] at s;refine zs (zs (zA (nT ?_)));rcases tf (A.zlt j (A.len E)) with e | e
   ·replace s:=cT e s;refine zT ?_ (hb:=(by first | rfl | simp only [e,zqa,zqb,zqc,zqd]))
    refine zk (nT (zs (zb (zs ?_))));refine zA ?_ (h:=(by (repeat (cbv;simp only [e]));try cbv))
    refine nT ?_;obtain ⟨c0,i0,s⟩:=a0a s;obtain ⟨C,J⟩:=gtI i0;have K:A.zeq j j=true:=b6i hA j;refine AWp.weak (Wk.openGA hA 0 j (k:=3) (l:=E) (y:=c0) rfl C J) ?_;refine zb ?_;obtain ⟨v0,n0,a0,l0,Q⟩:=a0S s;refine zM 2 [1,2,8,9] [] 6 (fun τ => ∃ P,a0 P=some k0/\τ=⟨[(1,zi F),(2,zi G),(8,.gref 0 1),(9,zi j)],[(.jag 3 E (some (j,.gref 3 3))),.dead,.dead,.gro 3 P,.dead,.dead],88⟩) ?_ ?_
    ·refine zP n0 [1,2,8,9,10] [] 6 (fun (S,O)=>⟨[(1,zi F),(2,zi G),(8,.gref 0 1),(9,zi j),(10,zi O)],[(.jag 3 E (some (j,.gref 3 3))),.dead,.dead,.gro 3 S,.dead,.dead],88⟩) ⟨rfl,(by first | (cbv;done) | ((repeat (cbv;simp only [e]));try cbv))⟩ ?_
     rintro ⟨S,O⟩ r0 r;dsimp only [a5K] at r;refine zs (zs ?_);refine zA ?_ (h:=(by (repeat (cbv;simp only [e,C,J,K]));try cbv))
     refine nT ?_;rcases tf (A.zlt O (A.len S)) with a | a
     ·replace r:=cT a r;refine zT ?_ (hb:=(by first | rfl | simp only [a,zqa,zqb,zqc,zqd]))
      refine zk (nT (zs (zb (zb (zs ?_)))));obtain ⟨⟨d0,X,q0⟩,j0,r⟩:=a0a r;obtain ⟨L,M⟩:=gtI j0;refine zA ?_ (h:=(by (repeat (cbv;simp only [a,e,C,J,K,L,M]));try cbv))
      refine nT ?_;obtain ⟨p0,c,r⟩:=a0a r;refine zN [1,2,8,9,10] [] 6 (fun τ=>τ=⟨[(1,zi F),(2,zi G),(8,.gref 0 1),(9,zi j),(10,zi O)],[(.jag 3 E (some (j,.gref 3 3))),.dead,.dead,.gro 3 p0,.dead,.dead],88⟩) ?_ ?_
      ·rcases tf (A.zeq d0 3) with b | b
       ·replace c:=cT b c;refine zT ?_ (hb:=(by first | rfl | simp only [a,b,zqa,zqb,zqc,zqd]))
        refine zk ?_;cases soI c;exact (zO (g:=(by first | (cbv;done) | ((repeat (cbv;simp only [a,b]));try cbv))))
       replace c:=cF b c;refine zU ?_ (hb:=(by first | rfl | simp only [a,b,zqa,zqb,zqc,zqd]))
       refine zs ?_;refine zA ?_ (h:=(by (repeat (cbv;simp only [a,b,e,C,J,K,L,M]));try cbv))
       refine nT ?_;rcases tf (A.zeq X F) with m | m
       ·replace c:=cT m c;refine zT ?_ (hb:=(by first | rfl | simp only [a,b,m,zqa,zqb,zqc,zqd]))
        refine zA ?_ (h:=(by (repeat (cbv;simp only [a,b,m,e,C,J,K,L,M]));try cbv))
        cases soI c;exact (zO (g:=(by first | (cbv;done) | ((repeat (cbv;simp only [a,b,m]));try cbv))))
       replace c:=cF m c;refine zU ?_ (hb:=(by first | rfl | simp only [a,b,m,zqa,zqb,zqc,zqd]))
       refine zs ?_;refine zA ?_ (h:=(by (repeat (cbv;simp only [a,b,m,e,C,J,K,L,M]));try cbv))
       refine nT ?_;rcases tf (A.zeq X G) with w | w
       ·replace c:=cT w c;refine zT ?_ (hb:=(by first | rfl | simp only [a,b,m,w,zqa,zqb,zqc,zqd]))
        refine zA ?_ (h:=(by (repeat (cbv;simp only [a,b,m,w,e,C,J,K,L,M]));try cbv))
        cases soI c;exact (zO (g:=(by first | (cbv;done) | ((repeat (cbv;simp only [a,b,m,w]));try cbv))))
       replace c:=cF w c;refine zU ?_ (hb:=(by first | rfl | simp only [a,b,m,w,zqa,zqb,zqc,zqd]))
       refine zk ?_;cases soI c;exact (zO (g:=(by first | (cbv;done) | ((repeat (cbv;simp only [a,b,m,w]));try cbv))))
      rintro _ rfl;refine nB (nB (nT (zA ?_)));exact nT ⟨_,(soI r).symm,rfl,zc⟩
     replace r:=cF a r;refine zU ?_ (hb:=(by first | rfl | simp only [a,zqa,zqb,zqc,zqd]))
     refine AWp.exit (xT (xT ?_));refine exL r ?_;rintro rfl;exact oxI ⟨rfl,_,Q,(by first | (cbv;done) | ((repeat (cbv;simp only [a]));try cbv))⟩
    rintro _ ⟨P,Q,rfl⟩;have s:=(l0 _ Q);refine xB (nB (nT ?_));refine AWp.weak (Wk.shutGA hA 0 (q:=3) (k:=3) (z:=j) (l:=E) (y:=P) rfl rfl C e) ?_;refine zA ?_;exact nT ⟨_,(soI s).symm,rfl,zc⟩
   replace s:=cF e s;refine zU ?_ (hb:=(by first | rfl | simp only [e,zqa,zqb,zqc,zqd]))
   refine AWp.exit (xT (xT ?_));refine exL s ?_;rintro rfl;exact oxI ⟨rfl,_,R,(by first | (cbv;done) | ((repeat (cbv;simp only [e]));try cbv))⟩
  rintro _ ⟨N,R,rfl⟩;have h:=(m0 _ R);refine xB (nT ?_);refine AWp.weak (Wk.frzJ 8 (i:=0) (k:=3) (l:=N) (l':=N) (o:=none) rfl rfl rfl) ?_;refine zs (zA (nT (zr ?_)));cases soI h;exact zq
 replace h:=cF p h;refine zT ?_ (hb:=(by first | rfl | simp only [p,zqa,zqb,zqc,zqd]))
 refine zs ?_;refine zA ?_ (h:=(by (repeat (cbv;simp only [p]));try cbv))
 refine nT (zr (rT ?_));cases soI h;exact zq

theorem b8O {A:Ar} (hA:SA A) {c:List D} {e j:Int} (h:b6D A c e=some j):a0m Try.prog 108 [zl 1 c,zi e] [] (zi j) []:=by
 unfold b6D at h;refine zI Try.func108 ?_;refine zs (zA (nT (zs (zs ?_))));refine zA (nT (zb ?_));obtain ⟨v,q,m,l,b⟩:=a0S h;refine zM 0 [] [] 0 (fun τ=>m (.inl ())=some j/\τ=⟨[],[],19⟩) ?_ ?_
 ·refine zP q [0,1,7,8] [] 0 (fun k=>⟨[(0,zl 1 c),(1,zi e),(7,(.d (.int .i64 (A.len c)))),(8,zi k)],[],19⟩) ⟨rfl,zc⟩ ?_;rintro k r a;dsimp only [a7j] at a;refine zs (zA (nT (zs ?_)));rcases tf (A.zlt k (A.len c)) with g | g
  ·replace a:=cT g a;refine zT (zk (nT (zs (zb (zs ?_)))));refine zB (nT (zs ?_)) { tk:=[8,10] };obtain ⟨o,p,a⟩:=a0a a;obtain ⟨s,u⟩:=gtI p;refine zB (nT ?_);rcases tf (A.zeq e o) with i | i
   ·replace a:=cT i a;refine zT (zs ?_);refine zB (nT (zr (rB (rT (rT ?_))))) { tk:=[5,17] };refine exL a ?_;rintro rfl;refine oxR ?_;replace b:=(eR (l _ b));refine rB (rT ?_);cases soI b;exact zq
   replace a:=cF i a;refine zU (zk (nB (nT ?_)));refine zB ?_ { tk:=[18] };exact nT ⟨_,(soI a).symm,rfl,zv⟩
  replace a:=cF g a;refine zU (AWp.exit (xT (xT ?_)));refine exL a ?_;rintro rfl;exact oxI ⟨rfl,b,zv⟩
 rintro _ ⟨b,rfl⟩;have h:=(eL (l _ b));refine xB (nT (zs (zA (nT (zr ?_)))));cases soI h;exact zq

theorem b9Z {A:Ar} (hA:SA A) {b:List D} {c:Int} {a:Bool} (h:M82 A b c=some a):a0m Try.prog 82 [zl 1 b,zi c] [] (.d (.bool a)) []:=by
 unfold M82 at h;refine zI Try.func82 ?_;refine zs (zA (nT (zs (zn ?_))));obtain ⟨g,e,h⟩:=a0a h;refine zC (b8O hA e) ?_ { tk:=[8] };refine zE (nT (zr ?_)) { tk:=[8] };cases soI h;exact zq

theorem b8P {A:Ar} (hA:SA A) {c e:List D} (h:M83 A c=some e):a0m Try.prog 83 [zl 3 c] [] (.own 3 e) []:=by
 unfold M83 at h;refine zI Try.func83 ?_;refine zs (zA (nT (zs (zs ?_))));rcases tf (A.zlt 0 (A.len c)) with a | a
 ·replace h:=cT a h;refine zB (nT ?_);refine AWp.cond (b:=false) (by cbv;simp only [a]) ?_;rw [if_neg Bool.false_ne_true];refine zk (nT (zs ?_));obtain ⟨p,g,h⟩:=a0a h;obtain ⟨n,o⟩:=apI g;refine zB (nT (zr ?_)) { tk:=[7] };cases soI h;exact zq
 replace h:=cF a h;refine zB (nT ?_);obtain ⟨j,k⟩:=b8R h;refine AWp.condAny (by cbv;simp only [a]) ?_ ?_
 ·replace h:=j;refine zs (zB (nT (zr (rT ?_))));cases soI h;exact zq
 replace h:=k;refine zk (nT (zs ?_));obtain ⟨q,i,h⟩:=a0a h;obtain ⟨l,m⟩:=apI i;refine zB (nT (zr ?_)) { tk:=[7] };cases soI h;exact zq
end Go.Am
