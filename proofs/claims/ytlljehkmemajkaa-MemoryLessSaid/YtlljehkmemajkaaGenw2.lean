import Derived.Test.YtlljehkmemajkaaGenw1
set_option maxRecDepth 100000
set_option maxHeartbeats 2000000
set_option linter.unusedVariables false
set_option linter.unusedSimpArgs false
namespace Go.Am
open Go Go.Proofs
theorem b9L {A:Ar} (hA:SA A) {a b:Int} {d r:List D} (h:M97 A a b d=some r):a0m Try.prog 97 [.mref 0 1 a b,(.func 98 [] [])] [(.arr 1 d)] (.tuple []) [(.arr 1 r)] :=
 a0m.sortOne Try.sort97 rfl (c:=(cL 1)) (fun _=>rfl) (g:=98) (caps:=[]) rfl (fun _ _ _ h=>b8C hA h) rfl rfl h (i:=0) rfl rfl

theorem b6z {A:Ar} (hA:SA A) {c e:List D} {l:Bool} (h:b6d A c e=some l):a0m Try.prog 100 [zl 1 c,zl 1 e] [] (.d (.bool l)) []:=by
 unfold b6d at h;refine zI Try.func100 ?_;refine zs (zA (nT (zs (zs ?_))));refine zA (nT ?_);rcases tf (A.zeq (A.len c) (A.len e)) with j | j
 ·replace h:=cT j h;refine zU (zk (nT (zs (zs ?_))));refine zB (nT (zb ?_));obtain ⟨C,u,o,m,b⟩:=a1u h;refine zM 0 [] [] 0 (fun τ=>o (.inl ())=some l/\τ=⟨[],[],26⟩) ?_ ?_
  ·refine zP u [0,1,12,13] [] 0 (fun k=>⟨[(0,zl 1 c),(1,zl 1 e),(12,(.d (.int .i64 (A.len c)))),(13,zi k)],[],26⟩) ⟨rfl,zv⟩ ?_;rintro k v a;dsimp only [a7g] at a;refine zs (zA (nT (zs ?_)));rcases tf (A.zlt k (A.len c)) with g | g
   ·replace a:=cT g a;refine zT (zk (nT (zs (zb (zs ?_)))));refine zB (nT (zs ?_));obtain ⟨p,r,a⟩:=a0a a;obtain ⟨w,y⟩:=gtI r;obtain ⟨q,s,a⟩:=a0a a;obtain ⟨z,B⟩:=gtI s;refine zH ?_;refine nT ?_;rcases tf (A.zeq p q) with i | i
    ·replace a:=cT i a;refine zU (zk (nB (nT ?_)));refine zB ?_;exact nT ⟨_,(soI a).symm,rfl,zv⟩
    replace a:=cF i a;refine zT (zs ?_);refine zB (nT (zr (rB (rT (rT ?_)))));refine exL a ?_;rintro rfl;refine oxR ?_;replace b:=(eR (m _ b));refine rB (rT ?_);cases soI b;exact zq
   replace a:=cF g a;refine zU (AWp.exit (xT (xT ?_)));refine exL a ?_;rintro rfl;exact oxI ⟨rfl,b,zv⟩
  rintro _ ⟨b,rfl⟩;have h:=(eL (m _ b));refine xB (nT (zs (zA (nT (zr ?_)))));cases soI h;exact zq
 replace h:=cF j h;refine zT (zs ?_);refine zB (nT (zr (rT ?_)));cases soI h;exact zq

theorem b9M {A:Ar} (hA:SA A) {m j:Int} {s:List D} {y z:Int} {B:List D} (h:M99 A m j s=some (y,z,B)):a0m Try.prog 99 [.mref 0 1 m j,(.func 100 [] [])] [(.arr 1 s)] (.mref 0 1 y z) [(.arr 1 B)]:=by
 unfold M99 at h;refine zI Try.func99 ?_;refine zs (zA (nT (zs (zs ?_))));refine zA (nT ?_);rcases tf (A.zlt j 2) with o | o
 ·replace h:=cT o h;refine zT ?_ (hb:=(by first | rfl | simp only [o,zqa,zqb,zqc,zqd]))
  refine zs ?_;refine zA ?_ { tk:=[0,11] } (h:=(by (repeat (cbv;simp only [o]));try cbv))
  refine nT (zr (rT ?_));cases soI h;exact zq
 replace h:=cF o h;refine zU ?_ (hb:=(by first | rfl | simp only [o,zqa,zqb,zqc,zqd]))
 refine zk (nT (zs (zs ?_)));refine zA ?_ (h:=(by (repeat (cbv;simp only [o]));try cbv))
 refine nT (zb ?_);obtain ⟨s2,d2,W,R,q⟩:=a1u h;refine zM 0 [0] [] 1 (fun τ=>W (.inl ())=some (y,z,B)/\τ=⟨[(0,.mref 0 1 m j)],[(.arr 1 s)],66⟩) ?_ ?_
 ·refine zP d2 [0,1,5] [] 1 (fun p=>⟨[(0,.mref 0 1 m j),(1,(.func 100 [] [])),(5,zi p)],[(.arr 1 s)],66⟩) ⟨rfl,(by first | (cbv;done) | ((repeat (cbv;simp only [o]));try cbv))⟩ ?_
  rintro p j1 a;dsimp only [a9M] at a;refine zs (zs (zA (nT ?_)));rcases tf (A.zlt p j) with e | e
  ·replace a:=cT e a;refine zT ?_ (hb:=(by first | rfl | simp only [e,zqa,zqb,zqc,zqd]))
   refine zk (nT (zs (zb (zs ?_))));refine zQ ?_;obtain ⟨_,X,a⟩:=a0a a;have C:=ckI X;obtain ⟨_,Y,a⟩:=a0a a;have E:=ckI Y;obtain ⟨k2,a0,a⟩:=a0a a;have F:=gcI a0;obtain ⟨_,b0,a⟩:=a0a a;have G:=ckI b0;obtain ⟨_,d0,a⟩:=a0a a;have J:=ckI d0;obtain ⟨l2,e0,a⟩:=a0a a;have K:=gcI e0;obtain ⟨e2,g0,a⟩:=a0a a;refine a2d.c0 hT hA {} rfl (by (repeat (cbv;simp only [e,C,E,F,G,J,K]));try cbv) (b6z hA g0) rfl rfl (lb rfl) rfl rfl ?_
   refine zJ ?_ (h:=(by (repeat (cbv;simp only [e,C,E,F,G,J,K]));try cbv))
   refine nT ?_;rcases tf e2 with k | k
   ·replace a:=cT k a;refine zT ?_ (hb:=(by first | rfl | simp only [e,k,zqa,zqb,zqc,zqd]))
    refine zs ?_;obtain ⟨_,i0,a⟩:=a0a a;have k1:=ckI i0;obtain ⟨_,j0,a⟩:=a0a a;have l1:=ckI j0;obtain ⟨_,k0,a⟩:=a0a a;have m1:=ckI k0;refine zA ?_ (h:=(by (repeat (cbv;simp only [e,k,k1,l1,m1]));try cbv))
    refine nT (zs (zs ?_));refine zA ?_ (h:=(by (repeat (cbv;simp only [e,k]));try cbv))
    refine nT (zb ?_);obtain ⟨r2,c2,V,b2,u⟩:=a1u a;refine zM 2 [0,5] [] 1 (fun τ => ∃ v w,V (v,w)=some j1/\τ=⟨[(0,.mref 0 1 m j),(5,zi v)],[(.arr 1 w)],66⟩) ?_ ?_
    ·refine zP c2 [0,1,5,6,7] [] 1 (fun (S,r,U)=>⟨[(0,.mref 0 1 m j),(1,(.func 100 [] [])),(5,zi S),(6,.mref 0 1 (A.zadd m p) (A.zsub j p)),(7,zi r)],[(.arr 1 U)],66⟩) ⟨rfl,(by first | (cbv;done) | ((repeat (cbv;simp only [e,k]));try cbv))⟩ ?_
     rintro ⟨S,r,U⟩ q2 b;dsimp only [a8n] at b;refine zs (zs (zA (nT ?_)));rcases tf (A.zlt r (A.zsub j p)) with i | i
     ·replace b:=cT i b;refine zT ?_ (hb:=(by first | rfl | simp only [i,zqa,zqb,zqc,zqd]))
      refine zk (nT (zs (zb (zs ?_))));refine zQ ?_;obtain ⟨_,l0,b⟩:=a0a b;have L:=ckI l0;obtain ⟨_,m0,b⟩:=a0a b;have M:=ckI m0;obtain ⟨m2,n0,b⟩:=a0a b;have N:=gcI n0;obtain ⟨_,o0,b⟩:=a0a b;have O:=ckI o0;obtain ⟨_,p0,b⟩:=a0a b;have P:=ckI p0;obtain ⟨n2,q0,b⟩:=a0a b;have Q:=gcI q0;obtain ⟨g2,r0,b⟩:=a0a b;refine a2d.c0 hT hA {} rfl (by (repeat (cbv;simp only [i,L,M,N,O,P,Q]));try cbv) (b6z hA r0) rfl rfl (lb rfl) rfl rfl ?_
      refine zJ ?_ (h:=(by (repeat (cbv;simp only [i,L,M,N,O,P,Q]));try cbv))
      refine nT ?_;obtain ⟨⟨i2,j2⟩,c,b⟩:=a0a b;refine zN [0,1,5,6,7] [] 1 (fun τ=>τ=⟨[(0,.mref 0 1 m j),(1,(.func 100 [] [])),(5,zi i2),(6,.mref 0 1 (A.zadd m p) (A.zsub j p)),(7,zi r)],[(.arr 1 j2)],66⟩) ?_ ?_
      ·rcases tf g2 with l | l
       ·replace c:=cT l c;refine zU ?_ (hb:=(by first | rfl | simp only [i,l,zqa,zqb,zqc,zqd]))
        refine zk ?_;cases soI c;exact (zO (g:=(by first | (cbv;done) | ((repeat (cbv;simp only [i,l]));try cbv))))
       replace c:=cF l c;refine zT ?_ (hb:=(by first | rfl | simp only [i,l,zqa,zqb,zqc,zqd]))
       refine zs ?_;obtain ⟨_,s0,c⟩:=a0a c;have n1:=ckI s0;obtain ⟨_,u0,c⟩:=a0a c;have o1:=ckI u0;obtain ⟨o2,v0,c⟩:=a0a c;have p1:=gcI v0;obtain ⟨_,w0,c⟩:=a0a c;have q1:=ckI w0;obtain ⟨_,y0,c⟩:=a0a c;have r1:=ckI y0;obtain ⟨p2,z0,c⟩:=a0a c;refine zA ?_ { tk:=[55] } (h:=(by (repeat (cbv;simp only [i,l,n1,o1,p1,q1,r1,z0]));try cbv))
       refine nT ?_;refine zA ?_ (h:=(by (repeat (cbv;simp only [i,l]));try cbv))
       cases soI c;exact (zO (g:=(by first | (cbv;done) | ((repeat (cbv;simp only [i,l]));try cbv))))
      rintro _ rfl;refine nB (nT (zA ?_));exact nT ⟨_,(soI b).symm,rfl,zc⟩
     replace b:=cF i b;refine zU ?_ (hb:=(by first | rfl | simp only [i,zqa,zqb,zqc,zqd]))
     refine AWp.exit (xT (xT ?_));refine exL b ?_;rintro rfl;exact oxI ⟨rfl,_,_,u,(by first | (cbv;done) | ((repeat (cbv;simp only [i]));try cbv))⟩
    rintro _ ⟨v,w,u,rfl⟩;have a:=(b2 _ u);refine xB (nT (zs ?_));obtain ⟨_,a1,a⟩:=a0a a;have s1:=ckI a1;obtain ⟨_,b1,a⟩:=a0a a;have u1:=ckI b1;obtain ⟨_,c1,a⟩:=a0a a;have v1:=ckI c1;obtain ⟨_,d1,a⟩:=a0a a;have w1:=ckI d1;refine zA ?_ (h:=(by (repeat (cbv;simp only [s1,u1,v1,w1]));try cbv))
    refine nT (zs ?_);obtain ⟨_,e1,a⟩:=a0a a;have y1:=ckI e1;obtain ⟨_,g1,a⟩:=a0a a;have z1:=ckI g1;obtain ⟨_,i1,a⟩:=a0a a;have a2:=ckI i1;refine zA ?_ { tk:=[64] } (h:=(by (repeat (cbv;simp only [y1,z1,a2]));try cbv))
    refine nT (zr (rB (rT (rT ?_))));refine exL a ?_;rintro rfl;refine oxR ?_;replace q:=(eR (R _ q));refine rB (rT ?_);cases soI q;exact zq
   replace a:=cF k a;refine zU ?_ (hb:=(by first | rfl | simp only [e,k,zqa,zqb,zqc,zqd]))
   refine zk (nB (nT ?_));refine zA ?_ (h:=(by (repeat (cbv;simp only [e,k]));try cbv))
   exact nT ⟨_,(soI a).symm,rfl,(by first | (cbv;done) | ((repeat (cbv;simp only [e,k]));try cbv))⟩
  replace a:=cF e a;refine zU ?_ (hb:=(by first | rfl | simp only [e,zqa,zqb,zqc,zqd]))
  refine AWp.exit (xT (xT ?_));refine exL a ?_;rintro rfl;exact oxI ⟨rfl,q,(by first | (cbv;done) | ((repeat (cbv;simp only [e]));try cbv))⟩
 rintro _ ⟨q,rfl⟩;have h:=(eL (R _ q));refine xB (nT (zs (zA (nT (zr ?_)) { tk:=[0,65] })));cases soI h;exact zq

theorem b9N {A:Ar} (hA:SA A) {g:List D} {i z B:Int} {C:List D} (h:M56 A g i=some (z,B,C)):a0m Try.prog 56 [zl 1 g,.d (.iface i)] [] (.mref 0 1 z B) [(.arr 1 C)]:=by
 unfold M56 at h;refine zI Try.func56 ?_;refine zs (zA (nT (zs ?_)));obtain ⟨_,N,h⟩:=a0a h;have f4:=ckI N;refine zB (nT (zs ?_)) { tk:=[9,12],esc:=[5] };have f5:=lnF hA (l:=((.int .u8 0)::(.int .u8 0)::(.int .u8 0)::(.int .i8 0)::(.int .i8 0)::(.int .i8 0)::(.int .i8 0)::(.int .i8 0)::(.int .i8 0)::(.int .i8 0)::(.int .i8 0)::(.int .i8 0)::(.int .i8 0)::(.int .i8 0)::(.int .i8 0)::(.int .i8 0)::(.int .i8 0)::(.int .i8 0)::(.int .i8 0)::(.int .i8 0)::(.int .i8 0)::(.int .i8 0)::(.int .i8 0)::(.int .i8 0)::(.int .i8 0)::(.int .i8 0)::(.int .i8 0)::(.int .i8 0)::(.int .i8 0)::(.int .i8 0)::(.int .i8 0)::(.int .i8 0)::(.int .i8 0)::(.int .i8 0)::(.int .i8 0)::(.int .i8 0)::(.int .i8 0)::(.int .i8 0)::(.int .i64 0)::(.int .i64 0)::(.int .i64 0)::[])) (n:=41) rfl;refine zB (nT (zs ?_)) { tk:=[14],esc:=[6],gr:=[14] };refine zA (nT (zs (zb ?_)));refine AWp.weak (Wk.settleS 7 rfl (lb rfl)) ?_;refine AWp.weak (Wk.ren [some 0,some 1,some 5,some 2,some 3,some 4,some 6,some 7,some 8] [0,1,5,6,7] rfl rfl) ?_;obtain ⟨l1,c0,F,b0,w⟩:=a1u h;refine AWp.cutXW 0 (fun τ => ∃ s,F s=some (z,B,C)/\τ=⟨[(7,.gref 0 1)],[.gro 1 s,.dead,.dead],47⟩) ?_ ?_
 ·refine AWp.iterW c0 (fun (j,c,E)=>⟨[(0,zl 1 g),(1,.d (.iface i)),(5,.ptr 1 0),(6,.ptr 2 0),(7,.gref 6 1)],[(.map true (.int .u8 :: .int .u8 :: .int .u8 :: .int .i8 :: .int .i8 :: .int .i8 :: .int .i8 :: .int .i8 :: .int .i8 :: .int .i8 :: .int .i8 :: .int .i8 :: .int .i8 :: .int .i8 :: .int .i8 :: .int .i8 :: .int .i8 :: .int .i8 :: .int .i8 :: .int .i8 :: .int .i8 :: .int .i8 :: .int .i8 :: .int .i8 :: .int .i8 :: .int .i8 :: .int .i8 :: .int .i8 :: .int .i8 :: .int .i8 :: .int .i8 :: .int .i8 :: .int .i8 :: .int .i8 :: .int .i8 :: .int .i8 :: .int .i8 :: .int .i8 :: .int .i64 :: .int .i64 :: .int .i64::[]) j),(.cells [(.map 0)]),.cells [.gref 3 41],.gro 41 c,.dead,.dead,.gro 1 E,.dead,.dead],47⟩) ⟨_,zR [some 0,some 1,some 2,some 3,some 4,some 5,some 6,some 7,some 8] [0,1,5,6,7],rfl⟩ ?_;rintro ⟨j,c,E⟩ i0 a;dsimp only [a7h] at a;refine zs (zs (zA (nT ?_)));rcases tf (A.zlt 0 (A.len c)) with u | u
  ·replace a:=cT u a;refine zT (zk (nT (zb (zs ?_))));obtain ⟨_,O,a⟩:=a0a a;have j0:=ckI O;obtain ⟨_,P,a⟩:=a0a a;have k0:=ckI P;obtain ⟨m,Q,a⟩:=a0a a;have l0:=gcI Q;obtain ⟨_,S,a⟩:=a0a a;have n0:=ckI S;obtain ⟨_,R,a⟩:=a0a a;have m0:=ckI R;refine zB (nT (zs ?_)) { tk:=[23],arr:=[8] };obtain ⟨_,U,a⟩:=a0a a;have o0:=ckI U;obtain ⟨_,V,a⟩:=a0a a;have p0:=ckI V;refine zB (nT ?_) { tk:=[28] };refine AWp.weak (Wk.settle 2 0 rfl rfl rfl) ?_;refine zs (zs (zn ?_));obtain ⟨y,W,a⟩:=a0a a;obtain ⟨q0,r0,s0⟩:=gaI W;obtain ⟨d0,X,a⟩:=a0a a;refine zD (b9H hA X) ?_;refine zF (nT ?_);obtain ⟨k,e,a⟩:=a0a a;refine AWp.cutW (fun τ=>τ=⟨[(0,zl 1 g),(1,.d (.iface i)),(5,.ptr 1 0),(6,.ptr 2 0),(7,.gref 7 1),(8,.ptr 3 0)],[(.map true (.int .u8 :: .int .u8 :: .int .u8 :: .int .i8 :: .int .i8 :: .int .i8 :: .int .i8 :: .int .i8 :: .int .i8 :: .int .i8 :: .int .i8 :: .int .i8 :: .int .i8 :: .int .i8 :: .int .i8 :: .int .i8 :: .int .i8 :: .int .i8 :: .int .i8 :: .int .i8 :: .int .i8 :: .int .i8 :: .int .i8 :: .int .i8 :: .int .i8 :: .int .i8 :: .int .i8 :: .int .i8 :: .int .i8 :: .int .i8 :: .int .i8 :: .int .i8 :: .int .i8 :: .int .i8 :: .int .i8 :: .int .i8 :: .int .i8 :: .int .i8 :: .int .i64 :: .int .i64 :: .int .i64::[]) j),(.cells [(.map 0)]),.cells [.gref 4 41],(.arr 1 (A.spl ((.int .u8 0)::(.int .u8 0)::(.int .u8 0)::(.int .i8 0)::(.int .i8 0)::(.int .i8 0)::(.int .i8 0)::(.int .i8 0)::(.int .i8 0)::(.int .i8 0)::(.int .i8 0)::(.int .i8 0)::(.int .i8 0)::(.int .i8 0)::(.int .i8 0)::(.int .i8 0)::(.int .i8 0)::(.int .i8 0)::(.int .i8 0)::(.int .i8 0)::(.int .i8 0)::(.int .i8 0)::(.int .i8 0)::(.int .i8 0)::(.int .i8 0)::(.int .i8 0)::(.int .i8 0)::(.int .i8 0)::(.int .i8 0)::(.int .i8 0)::(.int .i8 0)::(.int .i8 0)::(.int .i8 0)::(.int .i8 0)::(.int .i8 0)::(.int .i8 0)::(.int .i8 0)::(.int .i8 0)::(.int .i64 0)::(.int .i64 0)::(.int .i64 0)::[]) (A.zadd 0 (Int.ofNat 0)) m)),(.gro 41 (A.sub c 0 (A.wrp .i64 (A.zsub (A.len c) 1)))),.dead,.dead,.gro 1 k,.dead,.dead],47⟩) ?_ ?_
   ·rcases tf d0 with v | v
    ·replace e:=cT v e;refine zT (zn ?_);obtain ⟨k1,Y,e⟩:=a0a e;refine zD (b9J hA Y) ?_ { tk:=[7,37] };obtain ⟨w0,a0,e⟩:=a0a e;obtain ⟨u0,v0⟩:=apI a0;refine zF ?_ { tk:=[7,37],gr:=[37] };cases soI e;exact oWi ⟨_,zR [some 0,some 1,some 2,some 9,some 10,some 11,some 12,some 13,some 14,some 15] [0,1,5,6,7,8],rfl⟩
    replace e:=cF v e;refine zU (zk ?_);cases soI e;exact oWi ⟨_,zR [some 0,some 1,some 2,some 9,some 10,some 11,some 12,some 6,some 7,some 8] [0,1,5,6,7,8],rfl⟩
   rintro _ rfl;refine nT ?_;obtain ⟨⟨e0,g0⟩,b,a⟩:=a0a a;refine AWp.cutW (fun τ=>τ=⟨[(0,zl 1 g),(1,.d (.iface i)),(5,.ptr 1 0),(6,.ptr 2 0),(7,.gref 6 1)],[(.map true (.int .u8 :: .int .u8 :: .int .u8 :: .int .i8 :: .int .i8 :: .int .i8 :: .int .i8 :: .int .i8 :: .int .i8 :: .int .i8 :: .int .i8 :: .int .i8 :: .int .i8 :: .int .i8 :: .int .i8 :: .int .i8 :: .int .i8 :: .int .i8 :: .int .i8 :: .int .i8 :: .int .i8 :: .int .i8 :: .int .i8 :: .int .i8 :: .int .i8 :: .int .i8 :: .int .i8 :: .int .i8 :: .int .i8 :: .int .i8 :: .int .i8 :: .int .i8 :: .int .i8 :: .int .i8 :: .int .i8 :: .int .i8 :: .int .i8 :: .int .i8 :: .int .i64 :: .int .i64 :: .int .i64::[]) e0),(.cells [(.map 0)]),.cells [.gref 3 41],.gro 41 g0,.dead,.dead,.gro 1 k,.dead,.dead],47⟩) ?_ ?_
   ·refine zn ?_;rcases tf (A.zeq i (Int.ofNat 143)) with o | o
    ·replace b:=cT o b;rw [ifF hA (n:=143) o];obtain ⟨⟨y0,z0⟩,G,b⟩:=a0a b;refine zD (a0m.emb (args':=[.d (.agg []),zl 1 g,.d (.agg y),(.func 96 [] [.ptr 1 0,.ptr 2 0])]) (b8v hA G) [some 1,some 0,some 2,some 4,some 5,some 6] [(.map true (.int .u8 :: .int .u8 :: .int .u8 :: .int .i8 :: .int .i8 :: .int .i8 :: .int .i8 :: .int .i8 :: .int .i8 :: .int .i8 :: .int .i8 :: .int .i8 :: .int .i8 :: .int .i8 :: .int .i8 :: .int .i8 :: .int .i8 :: .int .i8 :: .int .i8 :: .int .i8 :: .int .i8 :: .int .i8 :: .int .i8 :: .int .i8 :: .int .i8 :: .int .i8 :: .int .i8 :: .int .i8 :: .int .i8 :: .int .i8 :: .int .i8 :: .int .i8 :: .int .i8 :: .int .i8 :: .int .i8 :: .int .i8 :: .int .i8 :: .int .i8 :: .int .i64 :: .int .i64 :: .int .i64::[]) j),(.cells [(.map 0)]),.cells [.gref 4 41],(.arr 1 (A.spl ((.int .u8 0)::(.int .u8 0)::(.int .u8 0)::(.int .i8 0)::(.int .i8 0)::(.int .i8 0)::(.int .i8 0)::(.int .i8 0)::(.int .i8 0)::(.int .i8 0)::(.int .i8 0)::(.int .i8 0)::(.int .i8 0)::(.int .i8 0)::(.int .i8 0)::(.int .i8 0)::(.int .i8 0)::(.int .i8 0)::(.int .i8 0)::(.int .i8 0)::(.int .i8 0)::(.int .i8 0)::(.int .i8 0)::(.int .i8 0)::(.int .i8 0)::(.int .i8 0)::(.int .i8 0)::(.int .i8 0)::(.int .i8 0)::(.int .i8 0)::(.int .i8 0)::(.int .i8 0)::(.int .i8 0)::(.int .i8 0)::(.int .i8 0)::(.int .i8 0)::(.int .i8 0)::(.int .i8 0)::(.int .i64 0)::(.int .i64 0)::(.int .i64 0)::[]) (A.zadd 0 (Int.ofNat 0)) m)),(.gro 41 (A.sub c 0 (A.wrp .i64 (A.zsub (A.len c) 1)))),.dead,.dead,.gro 1 k,.dead,.dead] rfl rfl rfl rfl rfl rfl rfl) ?_;refine zF ?_;cases soI b;exact oWi ⟨_,zR [some 0,some 1,some 2,some 10,some 11,some 12,some 7,some 8,some 9] [0,1,5,6,7],rfl⟩
    replace b:=cF o b;rcases tf (A.zeq i (Int.ofNat 144)) with p | p
    ·replace b:=cT p b;rw [ifF hA (n:=144) p];obtain ⟨⟨a1,b1⟩,J,b⟩:=a0a b;refine zD (a0m.emb (args':=[.d (.agg []),zl 1 g,.d (.agg y),(.func 96 [] [.ptr 1 0,.ptr 2 0])]) (b8z hA J) [some 1,some 0,some 2,some 4,some 5,some 6] [(.map true (.int .u8 :: .int .u8 :: .int .u8 :: .int .i8 :: .int .i8 :: .int .i8 :: .int .i8 :: .int .i8 :: .int .i8 :: .int .i8 :: .int .i8 :: .int .i8 :: .int .i8 :: .int .i8 :: .int .i8 :: .int .i8 :: .int .i8 :: .int .i8 :: .int .i8 :: .int .i8 :: .int .i8 :: .int .i8 :: .int .i8 :: .int .i8 :: .int .i8 :: .int .i8 :: .int .i8 :: .int .i8 :: .int .i8 :: .int .i8 :: .int .i8 :: .int .i8 :: .int .i8 :: .int .i8 :: .int .i8 :: .int .i8 :: .int .i8 :: .int .i8 :: .int .i64 :: .int .i64 :: .int .i64::[]) j),(.cells [(.map 0)]),.cells [.gref 4 41],(.arr 1 (A.spl ((.int .u8 0)::(.int .u8 0)::(.int .u8 0)::(.int .i8 0)::(.int .i8 0)::(.int .i8 0)::(.int .i8 0)::(.int .i8 0)::(.int .i8 0)::(.int .i8 0)::(.int .i8 0)::(.int .i8 0)::(.int .i8 0)::(.int .i8 0)::(.int .i8 0)::(.int .i8 0)::(.int .i8 0)::(.int .i8 0)::(.int .i8 0)::(.int .i8 0)::(.int .i8 0)::(.int .i8 0)::(.int .i8 0)::(.int .i8 0)::(.int .i8 0)::(.int .i8 0)::(.int .i8 0)::(.int .i8 0)::(.int .i8 0)::(.int .i8 0)::(.int .i8 0)::(.int .i8 0)::(.int .i8 0)::(.int .i8 0)::(.int .i8 0)::(.int .i8 0)::(.int .i8 0)::(.int .i8 0)::(.int .i64 0)::(.int .i64 0)::(.int .i64 0)::[]) (A.zadd 0 (Int.ofNat 0)) m)),(.gro 41 (A.sub c 0 (A.wrp .i64 (A.zsub (A.len c) 1)))),.dead,.dead,.gro 1 k,.dead,.dead] rfl rfl rfl rfl rfl rfl rfl) ?_;refine zF ?_;cases soI b;exact oWi ⟨_,zR [some 0,some 1,some 2,some 10,some 11,some 12,some 7,some 8,some 9] [0,1,5,6,7],rfl⟩
    replace b:=cF p b;rcases tf (A.zeq i (Int.ofNat 145)) with q | q
    ·replace b:=cT q b;rw [ifF hA (n:=145) q];obtain ⟨⟨c1,d1⟩,K,b⟩:=a0a b;refine zD (a0m.emb (args':=[.d (.agg []),zl 1 g,.d (.agg y),(.func 96 [] [.ptr 1 0,.ptr 2 0])]) (b8A hA K) [some 1,some 0,some 2,some 4,some 5,some 6] [(.map true (.int .u8 :: .int .u8 :: .int .u8 :: .int .i8 :: .int .i8 :: .int .i8 :: .int .i8 :: .int .i8 :: .int .i8 :: .int .i8 :: .int .i8 :: .int .i8 :: .int .i8 :: .int .i8 :: .int .i8 :: .int .i8 :: .int .i8 :: .int .i8 :: .int .i8 :: .int .i8 :: .int .i8 :: .int .i8 :: .int .i8 :: .int .i8 :: .int .i8 :: .int .i8 :: .int .i8 :: .int .i8 :: .int .i8 :: .int .i8 :: .int .i8 :: .int .i8 :: .int .i8 :: .int .i8 :: .int .i8 :: .int .i8 :: .int .i8 :: .int .i8 :: .int .i64 :: .int .i64 :: .int .i64::[]) j),(.cells [(.map 0)]),.cells [.gref 4 41],(.arr 1 (A.spl ((.int .u8 0)::(.int .u8 0)::(.int .u8 0)::(.int .i8 0)::(.int .i8 0)::(.int .i8 0)::(.int .i8 0)::(.int .i8 0)::(.int .i8 0)::(.int .i8 0)::(.int .i8 0)::(.int .i8 0)::(.int .i8 0)::(.int .i8 0)::(.int .i8 0)::(.int .i8 0)::(.int .i8 0)::(.int .i8 0)::(.int .i8 0)::(.int .i8 0)::(.int .i8 0)::(.int .i8 0)::(.int .i8 0)::(.int .i8 0)::(.int .i8 0)::(.int .i8 0)::(.int .i8 0)::(.int .i8 0)::(.int .i8 0)::(.int .i8 0)::(.int .i8 0)::(.int .i8 0)::(.int .i8 0)::(.int .i8 0)::(.int .i8 0)::(.int .i8 0)::(.int .i8 0)::(.int .i8 0)::(.int .i64 0)::(.int .i64 0)::(.int .i64 0)::[]) (A.zadd 0 (Int.ofNat 0)) m)),(.gro 41 (A.sub c 0 (A.wrp .i64 (A.zsub (A.len c) 1)))),.dead,.dead,.gro 1 k,.dead,.dead] rfl rfl rfl rfl rfl rfl rfl) ?_;refine zF ?_;cases soI b;exact oWi ⟨_,zR [some 0,some 1,some 2,some 10,some 11,some 12,some 7,some 8,some 9] [0,1,5,6,7],rfl⟩
    replace b:=cF q b;cases b
   rintro _ rfl;refine nB ?_;exact nT ⟨_,(soI a).symm,_,zR [some 0,some 1,some 2,some 3,some 4,some 5,some 6,some 7,some 8] [0,1,5,6,7],rfl⟩
  replace a:=cF u a;refine zU (AWp.exit (xT (xT ?_)));refine exL a ?_;rintro rfl;exact b6j ⟨_,zR [some 6,some 7,some 8] [7],_,w,rfl⟩
 rintro _ ⟨s,w,rfl⟩;have h:=(b0 _ w);refine xB (nT (zs ?_));rcases tf (A.zlt 0 (A.len s)) with r | r
 ·replace h:=cT r h;refine AWp.weak (Wk.groArr 7 rfl rfl (neL hA r) (b9U hA)) ?_;refine zn ?_;obtain ⟨e1,L,h⟩:=a0a h;refine zD (b9L hA L) ?_;refine zF (nT (zs (zn ?_)));obtain ⟨⟨g1,i1,j1⟩,M,h⟩:=a0a h;refine zD (b9M hA M) ?_ { tk:=[46] };refine zF (nT ?_) { tk:=[46] };refine AWp.weak (Wk.ren [some 0] [4] rfl rfl) ?_;refine zr ?_;cases soI h;exact zq
 replace h:=cF r h;cases h

theorem b8D {A:Ar} (hA:SA A) {e:List D} {g:Int} {b:List D} {c:Int} (h:M19 A e g=some (b,c)):a0m Try.prog 19 [zl 1 e,zi g] [] (.tuple [zl 1 b,zi c]) []:=by
 unfold M19 at h;refine zI Try.func19 ?_;refine zs (zA (nT (zs (zn ?_))));obtain ⟨⟨z,p⟩,l,h⟩:=a0a h;refine zC (b9G hA l) ?_;refine zE (nT (zs (zs ?_)));refine zA (nT ?_);rcases tf (A.zeq p 0) with a | a
 ·replace h:=cT a h;refine zU (zk (nT (zs (zn ?_))));obtain ⟨q,m,h⟩:=a0a h;have r:=gcI m;obtain ⟨⟨v,w,y⟩,j,h⟩:=a0a h;refine zD (b9N hA j) ?_;refine zF (nT ?_);obtain ⟨u,k,h⟩:=a0a h;obtain ⟨n,o⟩:=fzI hA k;refine AWp.freeze (s:=4) (i:=0) rfl rfl n o ?_;refine zr ?_;cases soI h;exact zq
 replace h:=cF a h;refine zT (zs ?_);refine zB (nT (zr (rT ?_)));cases soI h;exact zq

theorem b8E {A:Ar} (hA:SA A) {c i:List D} {q:Int} {r:Bool} (h:b6t A c i=some (q,r)):a0m Try.prog 103 [zl 1 c,zl 1 i,(.func 98 [] [])] [] (.tuple [zi q,.d (.bool r)]) []:=by
 unfold b6t at h;refine zI Try.func103 ?_;refine zs (zA (nT (zs ?_)));refine zA (nT (zs ?_));refine zA (nT (zs (zb ?_)));obtain ⟨U,C,s,B,m⟩:=a1u h;refine zM 0 [0,1,2,8,9] [] 0 (fun τ => ∃ g,s g=some (q,r)/\τ=⟨[(0,zl 1 c),(1,zl 1 i),(2,(.func 98 [] [])),(8,(.d (.int .i64 (A.len c)))),(9,zi g)],[],49⟩) ?_ ?_
 ·refine zP C [0,1,2,8,9,10] [] 0 (fun (o,p)=>⟨[(0,zl 1 c),(1,zl 1 i),(2,(.func 98 [] [])),(8,(.d (.int .i64 (A.len c)))),(9,zi o),(10,zi p)],[],49⟩) ⟨rfl,zc⟩ ?_;rintro ⟨o,p⟩ M a;dsimp only [a5I] at a;refine zs (zs (zA (nT ?_)));rcases tf (A.zlt o p) with j | j
  ·replace a:=cT j a;refine zT (zk (nT (zb (zs ?_))));obtain ⟨_,u,a⟩:=a0a a;have N:=nkI u;refine zB (nT (zs (zn ?_)));obtain ⟨K,v,a⟩:=a0a a;obtain ⟨O,P⟩:=gtI v;obtain ⟨E,w,a⟩:=a0a a;refine zD (b8C hA w) ?_;refine zF (nT ?_);obtain ⟨⟨F,G⟩,e,a⟩:=a0a a;refine zN [0,1,2,8,9,10] [] 0 (fun τ=>τ=⟨[(0,zl 1 c),(1,zl 1 i),(2,(.func 98 [] [])),(8,(.d (.int .i64 (A.len c)))),(9,zi F),(10,zi G)],[],49⟩) ?_ ?_
   ·rcases tf (A.zlt E 0) with k | k
    ·replace e:=cT k e;refine zT ?_;refine zB ?_;cases soI e;exact zO
    replace e:=cF k e;refine zU ?_;refine zB ?_;cases soI e;exact zO
   rintro _ rfl;refine nB ?_;exact nT ⟨_,(soI a).symm,rfl,zc⟩
  replace a:=cF j a;refine zU (AWp.exit (xT (xT ?_)));refine exL a ?_;rintro rfl;exact oxI ⟨rfl,_,m,zv⟩
 rintro _ ⟨g,m,rfl⟩;have h:=(B _ m);refine xB (nT (zs ?_));obtain ⟨J,b,h⟩:=a0a h;refine zN [6,7] [] 0 (fun τ=>τ=⟨[(6,zi g),(7,.d (.bool J))],[],49⟩) ?_ ?_
 ·refine zn ?_;rcases tf (A.zlt g (A.len c)) with l | l
  ·replace b:=cT l b;obtain ⟨L,y,b⟩:=a0a b;obtain ⟨Q,R⟩:=gtI y;obtain ⟨S,z,b⟩:=a0a b;refine zD (b8C hA z) ?_;refine zF ?_;cases soI b;exact zO
  replace b:=cF l b;refine zF ?_;cases soI b;exact zO
 rintro _ rfl;refine nT (zr ?_);cases soI h;exact zq

theorem b9O {A:Ar} (hA:SA A) {b c:List D} {a:Bool} (h:M59 A b c=some a):a0m Try.prog 59 [zl 1 b,zl 1 c] [] (.d (.bool a)) []:=by
 unfold M59 at h;refine zI Try.func59 ?_;refine zs (zA (nT (zs (zn ?_))));obtain ⟨⟨g,i⟩,e,h⟩:=a0a h;refine zC (b8E hA e) ?_ { tk:=[12] };refine zE (nT (zs ?_)) { tk:=[12] };refine zA (nT (zr ?_)) { tk:=[6,13] };cases soI h;exact zq

theorem b9r {A:Ar} (hA:SA A) {i:List D} {j:Int} {k:List D} {e:Bool} {g:Int} (h:M21 A i j k=some (e,g)):a0m Try.prog 21 [zl 1 i,zi j,zl 1 k] [] (.tuple [.d (.bool e),zi g]) []:=by
 unfold M21 at h;refine zI Try.func21 ?_;refine zs (zA (nT (zs (zn ?_))));obtain ⟨⟨p,c⟩,l,h⟩:=a0a h;refine zC (b8D hA l) ?_;refine zE (nT (zs ?_));obtain ⟨o,a,h⟩:=a0a h;refine zN [6,7] [] 0 (fun τ=>τ=⟨[(6,.d (.bool o)),(7,zi c)],[],24⟩) ?_ ?_
 ·refine zn ?_;rcases tf (A.zeq c 0) with b | b
  ·replace a:=cT b a;obtain ⟨q,m,a⟩:=a0a a;refine zD (b9O hA m) ?_;refine zF ?_;cases soI a;exact zO
  replace a:=cF b a;refine zF ?_;cases soI a;exact zO
 rintro _ rfl;refine nT (zr ?_);cases soI h;exact zq

theorem b8F {A:Ar} (hA:SA A) {g:Bool} (h:M18 A=some g):a0m Try.prog 18 [] [] (.d (.bool g)) []:=by
 unfold M18 at h;refine zI Try.func18 ?_;refine zs (zA (nT (zs ?_)));refine zA (nT (zs (zn ?_)));obtain ⟨⟨k,l⟩,i,h⟩:=a0a h;refine zC (b9r hA i) ?_;refine zE (nT (zs (zn ?_)));obtain ⟨⟨p,m⟩,j,h⟩:=a0a h;refine zC (b9r hA j) ?_;refine zE (nT (zs ?_));obtain ⟨o,a,h⟩:=a0a h;refine zN [0] [] 0 (fun τ=>τ=⟨[(0,.d (.bool o))],[],38⟩) ?_ ?_
 ·rcases tf (A.zeq l 0) with b | b
  ·replace a:=cT b a;rcases tf (A.zeq m 0) with c | c
   ·replace a:=cT c a;rcases tf k with e | e
    ·replace a:=cT e a;refine zB ?_ { tk:=[37] };cases soI a;exact zO
    replace a:=cF e a;refine zB ?_ { tk:=[37] };cases soI a;exact zO
   replace a:=cF c a;refine zB ?_ { tk:=[37] };cases soI a;exact zO
  replace a:=cF b a;refine zB ?_ { tk:=[37] };cases soI a;exact zO
 rintro _ rfl;refine nT (zr ?_);cases soI h;exact zq

theorem b9P {A:Ar} (hA:SA A) {e g:List D} {m:Int} (h:M30 A e g=some m):a0m Try.prog 30 [zl 1 e,zl 1 g] [] (zi m) []:=by
 unfold M30 at h;refine zI Try.func30 ?_;refine zs (zA (nT (zs (zs ?_))));refine zA (nT (zb ?_));obtain ⟨F,w,q,o,b⟩:=a1u h;refine zM 0 [0,1] [] 0 (fun τ=>q (.inl ())=some m/\τ=⟨[(0,zl 1 e),(1,zl 1 g)],[],41⟩) ?_ ?_
 ·refine zP w [0,1,5] [] 0 (fun i=>⟨[(0,zl 1 e),(1,zl 1 g),(5,zi i)],[],41⟩) ⟨rfl,zc⟩ ?_;rintro i y a;dsimp only [a8o] at a;refine zs (zs ?_);obtain ⟨p,c,a⟩:=a0a a;refine zN [0,1,5,15] [] 0 (fun τ=>τ=⟨[(0,zl 1 e),(1,zl 1 g),(5,zi i),(15,.d (.bool p))],[],41⟩) ?_ ?_
  ·rcases tf (A.zlt i (A.len e)) with j | j
   ·replace c:=cT j c;refine zB ?_;cases soI c;exact zO
   replace c:=cF j c;refine zB ?_;cases soI c;exact zO
  rintro _ rfl;refine nT ?_;rcases tf p with k | k
  ·replace a:=cT k a;refine zT (zk (nT (zs (zb (zs ?_)))));obtain ⟨r,u,a⟩:=a0a a;obtain ⟨z,B⟩:=gtI u;obtain ⟨s,v,a⟩:=a0a a;obtain ⟨C,E⟩:=gtI v;refine zH ?_;refine nT ?_;rcases tf (A.zeq r s) with l | l
   ·replace a:=cT l a;refine zU (zk (nB (nT ?_)));refine zB ?_;exact nT ⟨_,(soI a).symm,rfl,zv⟩
   replace a:=cF l a;refine zT (zs ?_);refine zH ?_ { tk:=[35] };refine nT (zr (rB (rT (rT ?_))));refine exL a ?_;rintro rfl;refine oxR ?_;replace b:=(eR (o _ b));refine rB (rT ?_);cases soI b;exact zq
  replace a:=cF k a;refine zU (AWp.exit (xT (xT ?_)));refine exL a ?_;rintro rfl;exact oxI ⟨rfl,b,zv⟩
 rintro _ ⟨b,rfl⟩;have h:=(eL (o _ b));refine xB (nT (zs (zA (nT (zr ?_)) { tk:=[40] })));cases soI h;exact zq

theorem b9Q {A:Ar} (hA:SA A) {c k:List D} {j:Bool} (h:M31 A c k=some j):a0m Try.prog 31 [zl 1 c,zl 1 k] [] (.d (.bool j)) []:=by
 unfold M31 at h;refine zI Try.func31 ?_;refine zs (zA (nT (zs (zs ?_))));refine zA (nT (zb ?_));obtain ⟨y,q,m,l,b⟩:=a1u h;refine zM 0 [] [] 0 (fun τ=>m (.inl ())=some j/\τ=⟨[],[],19⟩) ?_ ?_
 ·refine zP q [0,1,5] [] 0 (fun i=>⟨[(0,zl 1 c),(1,zl 1 k),(5,zi i)],[],19⟩) ⟨rfl,zc⟩ ?_;rintro i u a;dsimp only [b0F] at a;refine zs (zs (zA (nT ?_)));rcases tf (A.zlt i (A.len c)) with e | e
  ·replace a:=cT e a;refine zT (zk (nT (zs (zb (zs (zn ?_))))));obtain ⟨s,o,a⟩:=a0a a;obtain ⟨v,w⟩:=gtI o;obtain ⟨r,p,a⟩:=a0a a;refine zD (b9P hA p) ?_;refine zF (nT ?_);rcases tf (A.zeq r 0) with g | g
   ·replace a:=cT g a;refine zT (zs ?_);refine zB (nT (zr (rB (rT (rT ?_)))));refine exL a ?_;rintro rfl;refine oxR ?_;replace b:=(eR (l _ b));refine rB (rT ?_);cases soI b;exact zq
   replace a:=cF g a;refine zU (zk (nB (nT ?_)));refine zB ?_;exact nT ⟨_,(soI a).symm,rfl,zv⟩
  replace a:=cF e a;refine zU (AWp.exit (xT (xT ?_)));refine exL a ?_;rintro rfl;exact oxI ⟨rfl,b,zv⟩
 rintro _ ⟨b,rfl⟩;have h:=(eL (l _ b));refine xB (nT (zs (zA (nT (zr ?_)))));cases soI h;exact zq

theorem b9R {A:Ar} (hA:SA A) {C:List D} {m r:Int} {J:List D} {K:Int} (h:M47 A C m r=some (J,K)):a0m Try.prog 47 [zl 1 C,zi m,zi r] [] (.tuple [zl 1 J,zi K]) []:=by
 unfold M47 at h;refine zI Try.func47 ?_;refine zs (zA (nT (zs (zb (zs (zn ?_))))));obtain ⟨W,N,h⟩:=a0a h;refine zC (b9p hA N) ?_;refine zE (nT ?_);rcases tf W with c | c
 ·replace h:=cT c h;refine zU ?_ (hb:=(by first | rfl | simp only [c,zqa,zqb,zqc,zqd]))
  refine zs ?_;obtain ⟨G,b,h⟩:=a0a h;refine zN [0,1,2,13] [] 0 (fun τ=>τ=⟨[(0,zl 1 C),(1,zi m),(2,zi r),(13,.d (.bool G))],[],52⟩) ?_ ?_
  ·refine zn ?_;obtain ⟨X,O,b⟩:=a0a b;refine zC (b6e hA O) ?_ (h:=(by (repeat (cbv;simp only [c]));try cbv))
   rcases tf X with p | p
   ·replace b:=cT p b;obtain ⟨Y,L,b⟩:=a0a b;obtain ⟨v,w⟩:=gtI L;obtain ⟨V,M,b⟩:=a0a b;refine zC (b6e hA M) ?_ (h:=(by (repeat (cbv;simp only [c,p,v,w]));try cbv))
    rcases tf V with s | s
    ·replace b:=cT s b;refine zE ?_ (h:=(by (repeat (cbv;simp only [c,p,s,v,w]));try cbv))
     cases soI b;exact (zO (g:=(by first | (cbv;done) | ((repeat (cbv;simp only [c,p,s]));try cbv))))
    replace b:=cF s b;refine zE ?_ (h:=(by (repeat (cbv;simp only [c,p,s,v,w]));try cbv))
    cases soI b;exact (zO (g:=(by first | (cbv;done) | ((repeat (cbv;simp only [c,p,s]));try cbv))))
   replace b:=cF p b;refine zE ?_ (h:=(by (repeat (cbv;simp only [c,p]));try cbv))
   cases soI b;exact (zO (g:=(by first | (cbv;done) | ((repeat (cbv;simp only [c,p]));try cbv))))
  rintro _ rfl;refine nT ?_;rcases tf G with j | j
  ·replace h:=cT j h;refine zT ?_ (hb:=(by first | rfl | simp only [j,zqa,zqb,zqc,zqd]))
   refine zs ?_;refine zA ?_ (h:=(by (repeat (cbv;simp only [j]));try cbv))
   refine nT (zr (rB (rT ?_)));cases soI h;exact zq
  replace h:=cF j h;refine zU ?_ (hb:=(by first | rfl | simp only [j,zqa,zqb,zqc,zqd]))
  refine zk (nB (nT (zs (zn ?_))));obtain ⟨a0,e,h⟩:=a0a h;obtain ⟨rJ,eJ,e⟩:=a0a e;obtain ⟨aJ,eg,e⟩:=a0a e;obtain ⟨u,E⟩:=gtI eg;obtain ⟨_,ek,e⟩:=a0a e;have R:0<=r:=of_decide_eq_true (ckI ek);obtain ⟨_,P,e⟩:=a0a e;have S:r<=(aJ.length:Int):=of_decide_eq_true (ckI P);obtain ⟨_,Q,e⟩:=a0a e;have U:aJ.length<=1000000:=of_decide_eq_true (ckI Q);refine zC (b8u hA eJ) ?_ (h:=(by (repeat (cbv;simp only [j]));try cbv))
  refine zE ?_ (h:=(by (repeat (cbv;simp only [j]));try cbv))
  refine nT ?_;have B:A.zlt m (A.len rJ)=true:=b9m hA u E;have F:A.zeq m m=true:=b5Y hA m;refine AWp.weak (Wk.openGA hA 0 m (k:=3) (l:=rJ) (y:=aJ) rfl u E) ?_;refine zs (zn ?_);have hI:a0m Try.prog 91 [.gref 3 3,.d (.int .i64 r),.gref 6 3] [.jag 3 rJ (some (m,.gref 3 3)),.dead,.dead,.gro 3 aJ,.dead,.dead,.gro 3 [.agg [.int .i64 3,.int .i64 0,.int .i64 0]],.dead,.dead] (.gref 9 3)
    [.jag 3 rJ (some (m,.gref 3 3)),.dead,.dead,.dead,.dead,.dead,.gro 3 [.agg [.int .i64 3,.int .i64 0,.int .i64 0]],.dead,.dead,.gro 3 (b6v aJ r),.dead,.dead] :=
   a0m.ins (a:=3) (q:=6) (y:=aJ) (z:=r) rfl rfl (by decide) R S U rfl
  obtain ⟨yJ,hyJ⟩ : ∃ yJ,yJ=b6v aJ r:=⟨_,rfl⟩;rw [<-hyJ] at hI e;refine a1G.cc hT hA { gr:=[48] } (by (repeat (cbv;simp only [j,u,B,F]));try cbv) (lb rfl) hI rfl (.inl rfl) rfl rfl rfl (lb rfl) rfl rfl ?_
  refine zE ?_ (h:=(by (repeat (cbv;simp only [j,u,B,F]));try cbv))
  refine nT ?_;refine AWp.weak (Wk.shutGA hA 0 (q:=9) (k:=3) (z:=m) (l:=rJ) (y:=yJ) rfl rfl u B) ?_;refine AWp.weak (Wk.frzJ 8 (i:=0) (k:=3) (o:=none) rfl rfl rfl) ?_;cases soI e;refine zs ?_;refine zA ?_ (h:=(by (repeat (cbv;simp only [j]));try cbv))
  refine nT (zr ?_);cases soI h;exact zq
 replace h:=cF c h;refine zT ?_ (hb:=(by first | rfl | simp only [c,zqa,zqb,zqc,zqd]))
 refine zs ?_;refine zA ?_ (h:=(by (repeat (cbv;simp only [c]));try cbv))
 refine nT (zr (rB (rT ?_)));cases soI h;exact zq

theorem b9S {A:Ar} (hA:SA A) {C:List D} {O P:Int} {N:Bool} (h:M12 A C O P=some N):a0m Try.prog 12 [zl 1 C,.d (.agg [.int .u8 O,.int .u8 P])] [] (.d (.bool N)) []:=by
 unfold M12 at h;refine zI Try.func12 ?_;refine zs (zA (nT (zs (zs ?_))));obtain ⟨Y,q,h⟩:=a0a h;refine zN [0,3,20] [] 0 (fun τ=>τ=⟨[(0,zl 1 C),(3,(.lbox [.d (.int .u8 O),.d (.int .u8 P)])),(20,.d (.bool Y))],[],111⟩) ?_ ?_
 ·refine zn ?_;obtain ⟨r5,e4,q⟩:=a0a q;refine zC (b9y hA e4) ?_;rcases tf r5 with v | v
  ·replace q:=cT v q;refine zE ?_ (h:=(by (repeat (cbv;simp only [v]));try cbv))
   cases soI q;exact (zO (g:=(by first | (cbv;done) | ((repeat (cbv;simp only [v]));try cbv))))
  replace q:=cF v q;obtain ⟨r8,e7,q⟩:=a0a q;refine zC (b9A hA e7) ?_ (h:=(by (repeat (cbv;simp only [v]));try cbv))
  refine zE ?_ (h:=(by (repeat (cbv;simp only [v]));try cbv))
  cases soI q;exact (zO (g:=(by first | (cbv;done) | ((repeat (cbv;simp only [v]));try cbv))))
 rintro _ rfl;refine nT ?_;rcases tf Y with a | a
 ·replace h:=cT a h;refine zT ?_ (hb:=(by first | rfl | simp only [a,zqa,zqb,zqc,zqd]))
  refine zs (zn ?_);obtain ⟨d1,e0,h⟩:=a0a h;refine zC (b8F hA e0) ?_ { tk:=[21] } (h:=(by (repeat (cbv;simp only [a]));try cbv))
  refine zE ?_ { tk:=[21] } (h:=(by (repeat (cbv;simp only [a]));try cbv))
  refine nT (zr (rT ?_));cases soI h;exact zq
 replace h:=cF a h;refine zU ?_ (hb:=(by first | rfl | simp only [a,zqa,zqb,zqc,zqd]))
 refine zk (nT (zs ?_));obtain ⟨_,g0,h⟩:=a0a h;have s0:=nkI g0;refine zA ?_ (h:=(by (repeat (cbv;simp only [a,s0]));try cbv))
 refine nT (zs ?_);refine zQ ?_;obtain ⟨d0,i0,h⟩:=a0a h;obtain ⟨E,F⟩:=gtI i0;obtain ⟨_,j0,h⟩:=a0a h;have Q:=nkI j0;obtain ⟨⟨J,V⟩,k0,h⟩:=a0a h;refine a2d.c0 hT hA {} rfl (by (repeat (cbv;simp only [a,E,F,Q]));try cbv) (b9R hA k0) rfl rfl (lb rfl) rfl rfl ?_
 refine zJ ?_ (h:=(by (repeat (cbv;simp only [a,E,F,Q]));try cbv))
 refine nT (zs (zs ?_));refine zA ?_ (h:=(by (repeat (cbv;simp only [a]));try cbv))
 refine nT ?_;rcases tf (A.zeq V 0) with i | i
 ·replace h:=cT i h;refine zU ?_ (hb:=(by first | rfl | simp only [a,i,zqa,zqb,zqc,zqd]))
  refine zk (nT (zs (zs ?_)));refine zA ?_ (h:=(by (repeat (cbv;simp only [a,i]));try cbv))
  refine nT (zb ?_);obtain ⟨j1,v0,b0,K,s⟩:=a1u h;refine zM 0 [] [] 0 (fun τ=>b0 (.inl ())=some N/\τ=⟨[],[],111⟩) ?_ ?_
  ·refine zP v0 [0,6,8] [] 0 (fun B=>⟨[(0,zl 1 C),(6,zl 1 J),(8,zi B)],[],111⟩) ⟨rfl,(by first | (cbv;done) | ((repeat (cbv;simp only [a,i]));try cbv))⟩ ?_
   rintro B r0 b;dsimp only [a9O] at b;refine zs (zs (zA (nT ?_)));rcases tf (A.zle B 3) with c | c
   ·replace b:=cT c b;refine zT ?_ (hb:=(by first | rfl | simp only [c,zqa,zqb,zqc,zqd]))
    refine zk (nT (zs (zb (zs (zn ?_)))));obtain ⟨⟨L,w0⟩,m0,b⟩:=a0a b;refine zC (b8D hA m0) ?_ (h:=(by (repeat (cbv;simp only [c]));try cbv))
    refine zE ?_ (h:=(by (repeat (cbv;simp only [c]));try cbv))
    refine nT (zs (zn ?_));obtain ⟨⟨W,y0⟩,n0,b⟩:=a0a b;refine zC (b8D hA n0) ?_ (h:=(by (repeat (cbv;simp only [c]));try cbv))
    refine zE ?_ (h:=(by (repeat (cbv;simp only [c]));try cbv))
    refine nT (zs (zs ?_));obtain ⟨X,k,b⟩:=a0a b;refine zN [0,6,8,9,11,96] [] 0 (fun τ=>τ=⟨[(0,zl 1 C),(6,zl 1 J),(8,zi B),(9,zl 1 L),(11,zl 1 W),(96,.d (.bool X))],[],111⟩) ?_ ?_
    ·rcases tf (A.zeq w0 0) with o | o
     ·replace k:=cT o k;rcases tf (A.zeq y0 0) with r | r
      ·replace k:=cT r k;rcases tf (A.zeq B 1) with z | z
       ·replace k:=cT z k;refine zA ?_ (h:=(by (repeat (cbv;simp only [c,o,r,z]));try cbv))
        cases soI k;exact (zO (g:=(by first | (cbv;done) | ((repeat (cbv;simp only [c,o,r,z]));try cbv))))
       replace k:=cF z k;refine zA ?_ (h:=(by (repeat (cbv;simp only [c,o,r,z]));try cbv))
       cases soI k;exact (zO (g:=(by first | (cbv;done) | ((repeat (cbv;simp only [c,o,r,z]));try cbv))))
      replace k:=cF r k;refine zA ?_ (h:=(by (repeat (cbv;simp only [c,o,r]));try cbv))
      cases soI k;exact (zO (g:=(by first | (cbv;done) | ((repeat (cbv;simp only [c,o,r]));try cbv))))
     replace k:=cF o k;refine zA ?_ (h:=(by (repeat (cbv;simp only [c,o]));try cbv))
     cases soI k;exact (zO (g:=(by first | (cbv;done) | ((repeat (cbv;simp only [c,o]));try cbv))))
    rintro _ rfl;refine nT ?_;rcases tf X with w | w
    ·replace b:=cT w b;refine zT ?_ (hb:=(by first | rfl | simp only [w,zqa,zqb,zqc,zqd]))
     refine zs ?_;refine zA ?_ (h:=(by (repeat (cbv;simp only [w]));try cbv))
     refine nT (zr (rT (rB (rT (rT ?_)))));refine exL b ?_;rintro rfl;refine oxR ?_;replace s:=(eR (K _ s));refine rB (rT ?_);cases soI s;exact zq
    replace b:=cF w b;refine zU ?_ (hb:=(by first | rfl | simp only [w,zqa,zqb,zqc,zqd]))
    refine zk (nT (zs ?_));refine zA ?_ (h:=(by (repeat (cbv;simp only [w]));try cbv))
    refine nT (zb ?_);obtain ⟨i1,u0,a0,U,G⟩:=a1u b;refine zM 2 [0,6,8] [] 0 (fun τ=>a0 (.inl ())=some r0/\τ=⟨[(0,zl 1 C),(6,zl 1 J),(8,zi B)],[],111⟩) ?_ ?_
    ·refine zP u0 [0,6,8,9,11,13] [] 0 (fun M=>⟨[(0,zl 1 C),(6,zl 1 J),(8,zi B),(9,zl 1 L),(11,zl 1 W),(13,zi M)],[],111⟩) ⟨rfl,(by first | (cbv;done) | ((repeat (cbv;simp only [w]));try cbv))⟩ ?_
     rintro M c1 j;dsimp only [a9N] at j;refine zs (zs (zA (nT ?_)));rcases tf (A.zlt M (A.len L)) with l | l
     ·replace j:=cT l j;refine zT ?_ (hb:=(by first | rfl | simp only [l,zqa,zqb,zqc,zqd]))
      refine zk (nT (zs (zb (zs (zn ?_)))));obtain ⟨b1,o0,j⟩:=a0a j;obtain ⟨R,S⟩:=gtI o0;obtain ⟨z0,p0,j⟩:=a0a j;refine zC (b9Q hA p0) ?_ (h:=(by (repeat (cbv;simp only [l,R,S]));try cbv))
      refine zE ?_ (h:=(by (repeat (cbv;simp only [l,R,S]));try cbv))
      refine nT ?_;rcases tf z0 with y | y
      ·replace j:=cT y j;refine zU ?_ (hb:=(by first | rfl | simp only [l,y,zqa,zqb,zqc,zqd]))
       refine zk (nB (nT ?_));refine zA ?_ (h:=(by (repeat (cbv;simp only [l,y]));try cbv))
       exact nT ⟨_,(soI j).symm,rfl,(by first | (cbv;done) | ((repeat (cbv;simp only [l,y]));try cbv))⟩
      replace j:=cF y j;refine zT ?_ (hb:=(by first | rfl | simp only [l,y,zqa,zqb,zqc,zqd]))
      refine zs ?_;refine zA ?_ (h:=(by (repeat (cbv;simp only [l,y]));try cbv))
      refine nT (zr (rB (rT (rT ?_))));refine exL j ?_;rintro rfl;refine oxR ?_;replace G:=(eR (U _ G));refine rB (rB (rT (rT ?_)));refine exL G ?_;rintro rfl;refine oxR ?_;replace s:=(eR (K _ s));refine rB (rT ?_);cases soI s;exact zq
     replace j:=cF l j;refine zU ?_ (hb:=(by first | rfl | simp only [l,zqa,zqb,zqc,zqd]))
     refine AWp.exit (xT (xT ?_));refine exL j ?_;rintro rfl;exact oxI ⟨rfl,G,(by first | (cbv;done) | ((repeat (cbv;simp only [l]));try cbv))⟩
    rintro _ ⟨G,rfl⟩;have b:=(eL (U _ G));refine xB (nB (nT (zA ?_)));exact nT ⟨_,(soI b).symm,rfl,zc⟩
   replace b:=cF c b;refine zU ?_ (hb:=(by first | rfl | simp only [c,zqa,zqb,zqc,zqd]))
   refine AWp.exit (xT (xT ?_));refine exL b ?_;rintro rfl;exact oxI ⟨rfl,s,(by first | (cbv;done) | ((repeat (cbv;simp only [c]));try cbv))⟩
  rintro _ ⟨s,rfl⟩;have h:=(eL (K _ s));refine xB (nT (zs (zn ?_)));obtain ⟨g1,q0,h⟩:=a0a h;refine zC (b8F hA q0) ?_ { tk:=[110] };refine zE (nT (zr ?_)) { tk:=[110] };cases soI h;exact zq
 replace h:=cF i h;refine zT ?_ (hb:=(by first | rfl | simp only [a,i,zqa,zqb,zqc,zqd]))
 refine zs ?_;obtain ⟨a1,e,h⟩:=a0a h;refine zN [4] [] 0 (fun τ=>τ=⟨[(4,.d (.bool a1))],[],111⟩) ?_ ?_
 ·refine zn ?_;rcases tf (A.zeq V 2) with m | m
  ·replace e:=cT m e;rcases tf (A.zeq (A.len d0) 7) with p | p
   ·replace e:=cT p e;rcases tf (A.zeq (A.len J) 0) with u | u
    ·replace e:=cT u e;obtain ⟨e1,l0,e⟩:=a0a e;refine zC (b8F hA l0) ?_ { tk:=[63] } (h:=(by (repeat (cbv;simp only [a,i,m,p,u,E,F]));try cbv))
     refine zE ?_ { tk:=[63] } (h:=(by (repeat (cbv;simp only [a,i,m,p,u,E,F]));try cbv))
     cases soI e;exact (zO (g:=(by first | (cbv;done) | ((repeat (cbv;simp only [a,i,m,p,u]));try cbv))))
    replace e:=cF u e;refine zE ?_ { tk:=[63] } (h:=(by (repeat (cbv;simp only [a,i,m,p,u,E,F]));try cbv))
    cases soI e;exact (zO (g:=(by first | (cbv;done) | ((repeat (cbv;simp only [a,i,m,p,u]));try cbv))))
   replace e:=cF p e;refine zE ?_ { tk:=[63] } (h:=(by (repeat (cbv;simp only [a,i,m,p,E,F]));try cbv))
   cases soI e;exact (zO (g:=(by first | (cbv;done) | ((repeat (cbv;simp only [a,i,m,p]));try cbv))))
  replace e:=cF m e;refine zE ?_ { tk:=[63] } (h:=(by (repeat (cbv;simp only [a,i,m]));try cbv))
  cases soI e;exact (zO (g:=(by first | (cbv;done) | ((repeat (cbv;simp only [a,i,m]));try cbv))))
 rintro _ rfl;refine nT (zr (rT ?_));cases soI h;exact zq
end Go.Am
