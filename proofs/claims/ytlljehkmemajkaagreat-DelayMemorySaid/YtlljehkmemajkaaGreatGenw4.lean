import Derived.Test.YtlljehkmemajkaaGreatGenw3
set_option maxRecDepth 100000
set_option maxHeartbeats 2000000
set_option linter.unusedVariables false
set_option linter.unusedSimpArgs false
namespace Go.Am
open Go Go.Proofs
theorem c2h {A:Ar} (hA:SA A) {a b:Int} {d r:List D} (h:N61 A a b d=some r):a0g Tryz.prog 61 [.mref 0 1 a b,(.func 62 [] [])] [(.arr 1 d)] (.tuple []) [(.arr 1 r)] :=
 a0g.sortOne Tryz.sort61 rfl (c:=(cL 1)) (fun _=>rfl) (g:=62) (caps:=[]) rfl (fun _ _ _ h=>b9x hA h) rfl rfl h (i:=0) rfl rfl

theorem c1s {A:Ar} (hA:SA A) {c e:List D} {l:Bool} (h:N64 A c e=some l):a0g Tryz.prog 64 [zl 1 c,zl 1 e] [] (.d (.bool l)) []:=by
 unfold N64 at h;refine zI Tryz.func64 ?_;refine zs (zA (nT (zs (zs ?_))));refine zA (nT ?_);rcases tf (A.zeq (A.len c) (A.len e)) with j | j
 ·replace h:=cT j h;refine zU (zk (nT (zs (zs ?_))));refine zB (nT (zb ?_));obtain ⟨C,u,o,m,b⟩:=a0E h;refine zM 0 [] [] 0 (fun τ=>o (.inl ())=some l/\τ=⟨[],[],26⟩) ?_ ?_
  ·refine zP u [0,1,12,13] [] 0 (fun k=>⟨[(0,zl 1 c),(1,zl 1 e),(12,(.d (.int .i64 (A.len c)))),(13,zi k)],[],26⟩) ⟨rfl,zv⟩ ?_;rintro k v a;dsimp only [b1s] at a;refine zs (zA (nT (zs ?_)));rcases tf (A.zlt k (A.len c)) with g | g
   ·replace a:=cT g a;refine zT (zk (nT (zs (zb (zs ?_)))));refine zB (nT (zs ?_));obtain ⟨p,r,a⟩:=a0a a;obtain ⟨w,y⟩:=gtI r;obtain ⟨q,s,a⟩:=a0a a;obtain ⟨z,B⟩:=gtI s;refine zH ?_;refine nT ?_;rcases tf (A.zeq p q) with i | i
    ·replace a:=cT i a;refine zU (zk (nB (nT ?_)));refine zB ?_;exact nT ⟨_,(soI a).symm,rfl,zv⟩
    replace a:=cF i a;refine zT (zs ?_);refine zB (nT (zr (rB (rT (rT ?_)))));refine exL a ?_;rintro rfl;refine oxR ?_;replace b:=(eR (m _ b));refine rB (rT ?_);cases soI b;exact zq
   replace a:=cF g a;refine zU (AWp.exit (xT (xT ?_)));refine exL a ?_;rintro rfl;exact oxI ⟨rfl,b,zv⟩
  rintro _ ⟨b,rfl⟩;have h:=(eL (m _ b));refine xB (nT (zs (zA (nT (zr ?_)))));cases soI h;exact zq
 replace h:=cF j h;refine zT (zs ?_);refine zB (nT (zr (rT ?_)));cases soI h;exact zq

theorem c2i {A:Ar} (hA:SA A) {m j:Int} {s:List D} {y z:Int} {B:List D} (h:N63 A m j s=some (y,z,B)):a0g Tryz.prog 63 [.mref 0 1 m j,(.func 64 [] [])] [(.arr 1 s)] (.mref 0 1 y z) [(.arr 1 B)]:=by
 unfold N63 at h;refine zI Tryz.func63 ?_;refine zs (zA (nT (zs (zs ?_))));refine zA (nT ?_);rcases tf (A.zlt j 2) with o | o
 ·replace h:=cT o h;refine zT ?_ (hb:=(by first | rfl | simp only [o,zqa,zqb,zqc,zqd]))
  refine zs ?_;refine zA ?_ { tk:=[0,11] } (h:=(by (repeat (cbv;simp only [o]));try cbv))
  refine nT (zr (rT ?_));cases soI h;exact zq
 replace h:=cF o h;refine zU ?_ (hb:=(by first | rfl | simp only [o,zqa,zqb,zqc,zqd]))
 refine zk (nT (zs (zs ?_)));refine zA ?_ (h:=(by (repeat (cbv;simp only [o]));try cbv))
 refine nT (zb ?_);obtain ⟨s2,d2,W,R,q⟩:=a0E h;refine zM 0 [0] [] 1 (fun τ=>W (.inl ())=some (y,z,B)/\τ=⟨[(0,.mref 0 1 m j)],[(.arr 1 s)],66⟩) ?_ ?_
 ·refine zP d2 [0,1,5] [] 1 (fun p=>⟨[(0,.mref 0 1 m j),(1,(.func 64 [] [])),(5,zi p)],[(.arr 1 s)],66⟩) ⟨rfl,(by first | (cbv;done) | ((repeat (cbv;simp only [o]));try cbv))⟩ ?_
  rintro p j1 a;dsimp only [b0u] at a;refine zs (zs (zA (nT ?_)));rcases tf (A.zlt p j) with e | e
  ·replace a:=cT e a;refine zT ?_ (hb:=(by first | rfl | simp only [e,zqa,zqb,zqc,zqd]))
   refine zk (nT (zs (zb (zs ?_))));refine zQ ?_;obtain ⟨_,X,a⟩:=a0a a;have C:=ckI X;obtain ⟨_,Y,a⟩:=a0a a;have E:=ckI Y;obtain ⟨k2,a0,a⟩:=a0a a;have F:=gcI a0;obtain ⟨_,b0,a⟩:=a0a a;have G:=ckI b0;obtain ⟨_,d0,a⟩:=a0a a;have J:=ckI d0;obtain ⟨l2,e0,a⟩:=a0a a;have K:=gcI e0;obtain ⟨e2,g0,a⟩:=a0a a;refine a0Z.c0 hT hA {} rfl (by (repeat (cbv;simp only [e,C,E,F,G,J,K]));try cbv) (c1s hA g0) rfl rfl (lb rfl) rfl rfl ?_
   refine zJ ?_ (h:=(by (repeat (cbv;simp only [e,C,E,F,G,J,K]));try cbv))
   refine nT ?_;rcases tf e2 with k | k
   ·replace a:=cT k a;refine zT ?_ (hb:=(by first | rfl | simp only [e,k,zqa,zqb,zqc,zqd]))
    refine zs ?_;obtain ⟨_,i0,a⟩:=a0a a;have k1:=ckI i0;obtain ⟨_,j0,a⟩:=a0a a;have l1:=ckI j0;obtain ⟨_,k0,a⟩:=a0a a;have m1:=ckI k0;refine zA ?_ (h:=(by (repeat (cbv;simp only [e,k,k1,l1,m1]));try cbv))
    refine nT (zs (zs ?_));refine zA ?_ (h:=(by (repeat (cbv;simp only [e,k]));try cbv))
    refine nT (zb ?_);obtain ⟨r2,c2,V,b2,u⟩:=a0E a;refine zM 2 [0,5] [] 1 (fun τ => ∃ v w,V (v,w)=some j1/\τ=⟨[(0,.mref 0 1 m j),(5,zi v)],[(.arr 1 w)],66⟩) ?_ ?_
    ·refine zP c2 [0,1,5,6,7] [] 1 (fun (S,r,U)=>⟨[(0,.mref 0 1 m j),(1,(.func 64 [] [])),(5,zi S),(6,.mref 0 1 (A.zadd m p) (A.zsub j p)),(7,zi r)],[(.arr 1 U)],66⟩) ⟨rfl,(by first | (cbv;done) | ((repeat (cbv;simp only [e,k]));try cbv))⟩ ?_
     rintro ⟨S,r,U⟩ q2 b;dsimp only [a8L] at b;refine zs (zs (zA (nT ?_)));rcases tf (A.zlt r (A.zsub j p)) with i | i
     ·replace b:=cT i b;refine zT ?_ (hb:=(by first | rfl | simp only [i,zqa,zqb,zqc,zqd]))
      refine zk (nT (zs (zb (zs ?_))));refine zQ ?_;obtain ⟨_,l0,b⟩:=a0a b;have L:=ckI l0;obtain ⟨_,m0,b⟩:=a0a b;have M:=ckI m0;obtain ⟨m2,n0,b⟩:=a0a b;have N:=gcI n0;obtain ⟨_,o0,b⟩:=a0a b;have O:=ckI o0;obtain ⟨_,p0,b⟩:=a0a b;have P:=ckI p0;obtain ⟨n2,q0,b⟩:=a0a b;have Q:=gcI q0;obtain ⟨g2,r0,b⟩:=a0a b;refine a0Z.c0 hT hA {} rfl (by (repeat (cbv;simp only [i,L,M,N,O,P,Q]));try cbv) (c1s hA r0) rfl rfl (lb rfl) rfl rfl ?_
      refine zJ ?_ (h:=(by (repeat (cbv;simp only [i,L,M,N,O,P,Q]));try cbv))
      refine nT ?_;obtain ⟨⟨i2,j2⟩,c,b⟩:=a0a b;refine zN [0,1,5,6,7] [] 1 (fun τ=>τ=⟨[(0,.mref 0 1 m j),(1,(.func 64 [] [])),(5,zi i2),(6,.mref 0 1 (A.zadd m p) (A.zsub j p)),(7,zi r)],[(.arr 1 j2)],66⟩) ?_ ?_
      ·rcases tf g2 with l | l
       ·replace c:=cT l c;refine zU ?_ (hb:=(by first | rfl | simp only [i,l,zqa,zqb,zqc,zqd]))
        refine zk ?_;cases soI c;exact (zO (g:=(by first | (cbv;done) | ((repeat (cbv;simp only [i,l]));try cbv))))
       replace c:=cF l c;refine zT ?_ (hb:=(by first | rfl | simp only [i,l,zqa,zqb,zqc,zqd]))
       refine zs ?_;obtain ⟨_,s0,c⟩:=a0a c;have n1:=ckI s0;obtain ⟨_,u0,c⟩:=a0a c;have o1:=ckI u0;obtain ⟨o2,v0,c⟩:=a0a c;have p1:=gcI v0;obtain ⟨_,w0,c⟩:=a0a c;have q1:=ckI w0;obtain ⟨_,y0,c⟩:=a0a c;have r1:=ckI y0;obtain ⟨p2,z0,c⟩:=a0a c;refine zA ?_ { tk:=[55] } (h:=(by (repeat (cbv;simp only [i,l,n1,o1,p1,q1,r1,z0]));try cbv))
       refine nT ?_;refine zA ?_ (h:=(by (repeat (cbv;simp only [i,l]));try cbv))
       cases soI c;exact (zO (g:=(by first | (cbv;done) | ((repeat (cbv;simp only [i,l]));try cbv))))
      rintro _ rfl;refine nB (nT (zA ?_));exact nT ⟨_,(soI b).symm,rfl,zc⟩
     replace b:=cF i b;refine zU ?_ (hb:=(by first | rfl | simp only [i,zqa,zqb,zqc,zqd]))
     refine AWp.exit (xT (xT ?_));refine exL b ?_;rintro rfl;exact oxI ⟨rfl,_,_,u,(by first | (cbv;done) | ((repeat (cbv;simp only [i]));try cbv))⟩
    rintro _ ⟨v,w,u,rfl⟩;have a:=(b2 _ u);refine xB (nT (zs ?_));obtain ⟨_,a1,a⟩:=a0a a;have s1:=ckI a1;obtain ⟨_,b1,a⟩:=a0a a;have u1:=ckI b1;obtain ⟨_,c1,a⟩:=a0a a;have v1:=ckI c1;obtain ⟨_,d1,a⟩:=a0a a;have w1:=ckI d1;refine zA ?_ (h:=(by (repeat (cbv;simp only [s1,u1,v1,w1]));try cbv))
    refine nT (zs ?_);obtain ⟨_,e1,a⟩:=a0a a;have y1:=ckI e1;obtain ⟨_,g1,a⟩:=a0a a;have z1:=ckI g1;obtain ⟨_,i1,a⟩:=a0a a;have a2:=ckI i1;refine zA ?_ { tk:=[64] } (h:=(by (repeat (cbv;simp only [y1,z1,a2]));try cbv))
    refine nT (zr (rB (rT (rT ?_))));refine exL a ?_;rintro rfl;refine oxR ?_;replace q:=(eR (R _ q));refine rB (rT ?_);cases soI q;exact zq
   replace a:=cF k a;refine zU ?_ (hb:=(by first | rfl | simp only [e,k,zqa,zqb,zqc,zqd]))
   refine zk (nB (nT ?_));refine zA ?_ (h:=(by (repeat (cbv;simp only [e,k]));try cbv))
   exact nT ⟨_,(soI a).symm,rfl,(by first | (cbv;done) | ((repeat (cbv;simp only [e,k]));try cbv))⟩
  replace a:=cF e a;refine zU ?_ (hb:=(by first | rfl | simp only [e,zqa,zqb,zqc,zqd]))
  refine AWp.exit (xT (xT ?_));refine exL a ?_;rintro rfl;exact oxI ⟨rfl,q,(by first | (cbv;done) | ((repeat (cbv;simp only [e]));try cbv))⟩
 rintro _ ⟨q,rfl⟩;have h:=(eL (R _ q));refine xB (nT (zs (zA (nT (zr ?_)) { tk:=[0,65] })));cases soI h;exact zq

theorem c0w {A:Ar} (hA:SA A) {g:List D} {i z B:Int} {C:List D} (h:N30 A g i=some (z,B,C)):a0g Tryz.prog 30 [zl 1 g,.d (.iface i)] [] (.mref 0 1 z B) [(.arr 1 C)]:=by
 unfold N30 at h;refine zI Tryz.func30 ?_;refine zs (zA (nT (zs ?_)));obtain ⟨_,N,h⟩:=a0a h;have f4:=ckI N;refine zB (nT (zs ?_)) { tk:=[9,12],esc:=[5] };have f5:=lnF hA (l:=((.int .u8 0)::(.int .u8 0)::(.int .u8 0)::(.int .i8 0)::(.int .i8 0)::(.int .i8 0)::(.int .i8 0)::(.int .i8 0)::(.int .i8 0)::(.int .i8 0)::(.int .i8 0)::(.int .i8 0)::(.int .i8 0)::(.int .i8 0)::(.int .i8 0)::(.int .i8 0)::(.int .i8 0)::(.int .i8 0)::(.int .i8 0)::(.int .i8 0)::(.int .i8 0)::(.int .i8 0)::(.int .i8 0)::(.int .i8 0)::(.int .i8 0)::(.int .i8 0)::(.int .i8 0)::(.int .i8 0)::(.int .i8 0)::(.int .i8 0)::(.int .i8 0)::(.int .i8 0)::(.int .i8 0)::(.int .i8 0)::(.int .i8 0)::(.int .i8 0)::(.int .i8 0)::(.int .i8 0)::(.int .i64 0)::(.int .i64 0)::(.int .i64 0)::[])) (n:=41) rfl;refine zB (nT (zs ?_)) { tk:=[14],esc:=[6],gr:=[14] };refine zA (nT (zs (zb ?_)));refine AWp.weak (Wk.settleS 7 rfl (lb rfl)) ?_;refine AWp.weak (Wk.ren [some 0,some 1,some 5,some 2,some 3,some 4,some 6,some 7,some 8] [0,1,5,6,7] rfl rfl) ?_;obtain ⟨l1,c0,F,b0,w⟩:=a0E h;refine AWp.cutXW 0 (fun τ => ∃ s,F s=some (z,B,C)/\τ=⟨[(7,.gref 0 1)],[.gro 1 s,.dead,.dead],47⟩) ?_ ?_
 ·refine AWp.iterW c0 (fun (j,c,E)=>⟨[(0,zl 1 g),(1,.d (.iface i)),(5,.ptr 1 0),(6,.ptr 2 0),(7,.gref 6 1)],[(.map true (.int .u8 :: .int .u8 :: .int .u8 :: .int .i8 :: .int .i8 :: .int .i8 :: .int .i8 :: .int .i8 :: .int .i8 :: .int .i8 :: .int .i8 :: .int .i8 :: .int .i8 :: .int .i8 :: .int .i8 :: .int .i8 :: .int .i8 :: .int .i8 :: .int .i8 :: .int .i8 :: .int .i8 :: .int .i8 :: .int .i8 :: .int .i8 :: .int .i8 :: .int .i8 :: .int .i8 :: .int .i8 :: .int .i8 :: .int .i8 :: .int .i8 :: .int .i8 :: .int .i8 :: .int .i8 :: .int .i8 :: .int .i8 :: .int .i8 :: .int .i8 :: .int .i64 :: .int .i64 :: .int .i64::[]) j),(.cells [(.map 0)]),.cells [.gref 3 41],.gro 41 c,.dead,.dead,.gro 1 E,.dead,.dead],47⟩) ⟨_,zR [some 0,some 1,some 2,some 3,some 4,some 5,some 6,some 7,some 8] [0,1,5,6,7],rfl⟩ ?_;rintro ⟨j,c,E⟩ i0 a;dsimp only [a7I] at a;refine zs (zs (zA (nT ?_)));rcases tf (A.zlt 0 (A.len c)) with u | u
  ·replace a:=cT u a;refine zT (zk (nT (zb (zs ?_))));obtain ⟨_,O,a⟩:=a0a a;have j0:=ckI O;obtain ⟨_,P,a⟩:=a0a a;have k0:=ckI P;obtain ⟨m,Q,a⟩:=a0a a;have l0:=gcI Q;obtain ⟨_,S,a⟩:=a0a a;have n0:=ckI S;obtain ⟨_,R,a⟩:=a0a a;have m0:=ckI R;refine zB (nT (zs ?_)) { tk:=[23],arr:=[8] };obtain ⟨_,U,a⟩:=a0a a;have o0:=ckI U;obtain ⟨_,V,a⟩:=a0a a;have p0:=ckI V;refine zB (nT ?_) { tk:=[28] };refine AWp.weak (Wk.settle 2 0 rfl rfl rfl) ?_;refine zs (zs (zn ?_));obtain ⟨y,W,a⟩:=a0a a;obtain ⟨q0,r0,s0⟩:=gaI W;obtain ⟨d0,X,a⟩:=a0a a;refine zD (c2d hA X) ?_;refine zF (nT ?_);obtain ⟨k,e,a⟩:=a0a a;refine AWp.cutW (fun τ=>τ=⟨[(0,zl 1 g),(1,.d (.iface i)),(5,.ptr 1 0),(6,.ptr 2 0),(7,.gref 7 1),(8,.ptr 3 0)],[(.map true (.int .u8 :: .int .u8 :: .int .u8 :: .int .i8 :: .int .i8 :: .int .i8 :: .int .i8 :: .int .i8 :: .int .i8 :: .int .i8 :: .int .i8 :: .int .i8 :: .int .i8 :: .int .i8 :: .int .i8 :: .int .i8 :: .int .i8 :: .int .i8 :: .int .i8 :: .int .i8 :: .int .i8 :: .int .i8 :: .int .i8 :: .int .i8 :: .int .i8 :: .int .i8 :: .int .i8 :: .int .i8 :: .int .i8 :: .int .i8 :: .int .i8 :: .int .i8 :: .int .i8 :: .int .i8 :: .int .i8 :: .int .i8 :: .int .i8 :: .int .i8 :: .int .i64 :: .int .i64 :: .int .i64::[]) j),(.cells [(.map 0)]),.cells [.gref 4 41],(.arr 1 (A.spl ((.int .u8 0)::(.int .u8 0)::(.int .u8 0)::(.int .i8 0)::(.int .i8 0)::(.int .i8 0)::(.int .i8 0)::(.int .i8 0)::(.int .i8 0)::(.int .i8 0)::(.int .i8 0)::(.int .i8 0)::(.int .i8 0)::(.int .i8 0)::(.int .i8 0)::(.int .i8 0)::(.int .i8 0)::(.int .i8 0)::(.int .i8 0)::(.int .i8 0)::(.int .i8 0)::(.int .i8 0)::(.int .i8 0)::(.int .i8 0)::(.int .i8 0)::(.int .i8 0)::(.int .i8 0)::(.int .i8 0)::(.int .i8 0)::(.int .i8 0)::(.int .i8 0)::(.int .i8 0)::(.int .i8 0)::(.int .i8 0)::(.int .i8 0)::(.int .i8 0)::(.int .i8 0)::(.int .i8 0)::(.int .i64 0)::(.int .i64 0)::(.int .i64 0)::[]) (A.zadd 0 (Int.ofNat 0)) m)),(.gro 41 (A.sub c 0 (A.wrp .i64 (A.zsub (A.len c) 1)))),.dead,.dead,.gro 1 k,.dead,.dead],47⟩) ?_ ?_
   ·rcases tf d0 with v | v
    ·replace e:=cT v e;refine zT (zn ?_);obtain ⟨k1,Y,e⟩:=a0a e;refine zD (c2g hA Y) ?_ { tk:=[7,37] };obtain ⟨w0,a0,e⟩:=a0a e;obtain ⟨u0,v0⟩:=apI a0;refine zF ?_ { tk:=[7,37],gr:=[37] };cases soI e;exact oWi ⟨_,zR [some 0,some 1,some 2,some 9,some 10,some 11,some 12,some 13,some 14,some 15] [0,1,5,6,7,8],rfl⟩
    replace e:=cF v e;refine zU (zk ?_);cases soI e;exact oWi ⟨_,zR [some 0,some 1,some 2,some 9,some 10,some 11,some 12,some 6,some 7,some 8] [0,1,5,6,7,8],rfl⟩
   rintro _ rfl;refine nT ?_;obtain ⟨⟨e0,g0⟩,b,a⟩:=a0a a;refine AWp.cutW (fun τ=>τ=⟨[(0,zl 1 g),(1,.d (.iface i)),(5,.ptr 1 0),(6,.ptr 2 0),(7,.gref 6 1)],[(.map true (.int .u8 :: .int .u8 :: .int .u8 :: .int .i8 :: .int .i8 :: .int .i8 :: .int .i8 :: .int .i8 :: .int .i8 :: .int .i8 :: .int .i8 :: .int .i8 :: .int .i8 :: .int .i8 :: .int .i8 :: .int .i8 :: .int .i8 :: .int .i8 :: .int .i8 :: .int .i8 :: .int .i8 :: .int .i8 :: .int .i8 :: .int .i8 :: .int .i8 :: .int .i8 :: .int .i8 :: .int .i8 :: .int .i8 :: .int .i8 :: .int .i8 :: .int .i8 :: .int .i8 :: .int .i8 :: .int .i8 :: .int .i8 :: .int .i8 :: .int .i8 :: .int .i64 :: .int .i64 :: .int .i64::[]) e0),(.cells [(.map 0)]),.cells [.gref 3 41],.gro 41 g0,.dead,.dead,.gro 1 k,.dead,.dead],47⟩) ?_ ?_
   ·refine zn ?_;rcases tf (A.zeq i (Int.ofNat 151)) with o | o
    ·replace b:=cT o b;rw [ifF hA (n:=151) o];obtain ⟨⟨y0,z0⟩,G,b⟩:=a0a b;refine zD (a0g.emb (args':=[.d (.agg []),zl 1 g,.d (.agg y),(.func 60 [] [.ptr 1 0,.ptr 2 0])]) (c0q hA G) [some 1,some 0,some 2,some 4,some 5,some 6] [(.map true (.int .u8 :: .int .u8 :: .int .u8 :: .int .i8 :: .int .i8 :: .int .i8 :: .int .i8 :: .int .i8 :: .int .i8 :: .int .i8 :: .int .i8 :: .int .i8 :: .int .i8 :: .int .i8 :: .int .i8 :: .int .i8 :: .int .i8 :: .int .i8 :: .int .i8 :: .int .i8 :: .int .i8 :: .int .i8 :: .int .i8 :: .int .i8 :: .int .i8 :: .int .i8 :: .int .i8 :: .int .i8 :: .int .i8 :: .int .i8 :: .int .i8 :: .int .i8 :: .int .i8 :: .int .i8 :: .int .i8 :: .int .i8 :: .int .i8 :: .int .i8 :: .int .i64 :: .int .i64 :: .int .i64::[]) j),(.cells [(.map 0)]),.cells [.gref 4 41],(.arr 1 (A.spl ((.int .u8 0)::(.int .u8 0)::(.int .u8 0)::(.int .i8 0)::(.int .i8 0)::(.int .i8 0)::(.int .i8 0)::(.int .i8 0)::(.int .i8 0)::(.int .i8 0)::(.int .i8 0)::(.int .i8 0)::(.int .i8 0)::(.int .i8 0)::(.int .i8 0)::(.int .i8 0)::(.int .i8 0)::(.int .i8 0)::(.int .i8 0)::(.int .i8 0)::(.int .i8 0)::(.int .i8 0)::(.int .i8 0)::(.int .i8 0)::(.int .i8 0)::(.int .i8 0)::(.int .i8 0)::(.int .i8 0)::(.int .i8 0)::(.int .i8 0)::(.int .i8 0)::(.int .i8 0)::(.int .i8 0)::(.int .i8 0)::(.int .i8 0)::(.int .i8 0)::(.int .i8 0)::(.int .i8 0)::(.int .i64 0)::(.int .i64 0)::(.int .i64 0)::[]) (A.zadd 0 (Int.ofNat 0)) m)),(.gro 41 (A.sub c 0 (A.wrp .i64 (A.zsub (A.len c) 1)))),.dead,.dead,.gro 1 k,.dead,.dead] rfl rfl rfl rfl rfl rfl rfl) ?_;refine zF ?_;cases soI b;exact oWi ⟨_,zR [some 0,some 1,some 2,some 10,some 11,some 12,some 7,some 8,some 9] [0,1,5,6,7],rfl⟩
    replace b:=cF o b;rcases tf (A.zeq i (Int.ofNat 152)) with p | p
    ·replace b:=cT p b;rw [ifF hA (n:=152) p];obtain ⟨⟨a1,b1⟩,J,b⟩:=a0a b;refine zD (a0g.emb (args':=[.d (.agg []),zl 1 g,.d (.agg y),(.func 60 [] [.ptr 1 0,.ptr 2 0])]) (c0u hA J) [some 1,some 0,some 2,some 4,some 5,some 6] [(.map true (.int .u8 :: .int .u8 :: .int .u8 :: .int .i8 :: .int .i8 :: .int .i8 :: .int .i8 :: .int .i8 :: .int .i8 :: .int .i8 :: .int .i8 :: .int .i8 :: .int .i8 :: .int .i8 :: .int .i8 :: .int .i8 :: .int .i8 :: .int .i8 :: .int .i8 :: .int .i8 :: .int .i8 :: .int .i8 :: .int .i8 :: .int .i8 :: .int .i8 :: .int .i8 :: .int .i8 :: .int .i8 :: .int .i8 :: .int .i8 :: .int .i8 :: .int .i8 :: .int .i8 :: .int .i8 :: .int .i8 :: .int .i8 :: .int .i8 :: .int .i8 :: .int .i64 :: .int .i64 :: .int .i64::[]) j),(.cells [(.map 0)]),.cells [.gref 4 41],(.arr 1 (A.spl ((.int .u8 0)::(.int .u8 0)::(.int .u8 0)::(.int .i8 0)::(.int .i8 0)::(.int .i8 0)::(.int .i8 0)::(.int .i8 0)::(.int .i8 0)::(.int .i8 0)::(.int .i8 0)::(.int .i8 0)::(.int .i8 0)::(.int .i8 0)::(.int .i8 0)::(.int .i8 0)::(.int .i8 0)::(.int .i8 0)::(.int .i8 0)::(.int .i8 0)::(.int .i8 0)::(.int .i8 0)::(.int .i8 0)::(.int .i8 0)::(.int .i8 0)::(.int .i8 0)::(.int .i8 0)::(.int .i8 0)::(.int .i8 0)::(.int .i8 0)::(.int .i8 0)::(.int .i8 0)::(.int .i8 0)::(.int .i8 0)::(.int .i8 0)::(.int .i8 0)::(.int .i8 0)::(.int .i8 0)::(.int .i64 0)::(.int .i64 0)::(.int .i64 0)::[]) (A.zadd 0 (Int.ofNat 0)) m)),(.gro 41 (A.sub c 0 (A.wrp .i64 (A.zsub (A.len c) 1)))),.dead,.dead,.gro 1 k,.dead,.dead] rfl rfl rfl rfl rfl rfl rfl) ?_;refine zF ?_;cases soI b;exact oWi ⟨_,zR [some 0,some 1,some 2,some 10,some 11,some 12,some 7,some 8,some 9] [0,1,5,6,7],rfl⟩
    replace b:=cF p b;rcases tf (A.zeq i (Int.ofNat 153)) with q | q
    ·replace b:=cT q b;rw [ifF hA (n:=153) q];obtain ⟨⟨c1,d1⟩,K,b⟩:=a0a b;refine zD (a0g.emb (args':=[.d (.agg []),zl 1 g,.d (.agg y),(.func 60 [] [.ptr 1 0,.ptr 2 0])]) (c0v hA K) [some 1,some 0,some 2,some 4,some 5,some 6] [(.map true (.int .u8 :: .int .u8 :: .int .u8 :: .int .i8 :: .int .i8 :: .int .i8 :: .int .i8 :: .int .i8 :: .int .i8 :: .int .i8 :: .int .i8 :: .int .i8 :: .int .i8 :: .int .i8 :: .int .i8 :: .int .i8 :: .int .i8 :: .int .i8 :: .int .i8 :: .int .i8 :: .int .i8 :: .int .i8 :: .int .i8 :: .int .i8 :: .int .i8 :: .int .i8 :: .int .i8 :: .int .i8 :: .int .i8 :: .int .i8 :: .int .i8 :: .int .i8 :: .int .i8 :: .int .i8 :: .int .i8 :: .int .i8 :: .int .i8 :: .int .i8 :: .int .i64 :: .int .i64 :: .int .i64::[]) j),(.cells [(.map 0)]),.cells [.gref 4 41],(.arr 1 (A.spl ((.int .u8 0)::(.int .u8 0)::(.int .u8 0)::(.int .i8 0)::(.int .i8 0)::(.int .i8 0)::(.int .i8 0)::(.int .i8 0)::(.int .i8 0)::(.int .i8 0)::(.int .i8 0)::(.int .i8 0)::(.int .i8 0)::(.int .i8 0)::(.int .i8 0)::(.int .i8 0)::(.int .i8 0)::(.int .i8 0)::(.int .i8 0)::(.int .i8 0)::(.int .i8 0)::(.int .i8 0)::(.int .i8 0)::(.int .i8 0)::(.int .i8 0)::(.int .i8 0)::(.int .i8 0)::(.int .i8 0)::(.int .i8 0)::(.int .i8 0)::(.int .i8 0)::(.int .i8 0)::(.int .i8 0)::(.int .i8 0)::(.int .i8 0)::(.int .i8 0)::(.int .i8 0)::(.int .i8 0)::(.int .i64 0)::(.int .i64 0)::(.int .i64 0)::[]) (A.zadd 0 (Int.ofNat 0)) m)),(.gro 41 (A.sub c 0 (A.wrp .i64 (A.zsub (A.len c) 1)))),.dead,.dead,.gro 1 k,.dead,.dead] rfl rfl rfl rfl rfl rfl rfl) ?_;refine zF ?_;cases soI b;exact oWi ⟨_,zR [some 0,some 1,some 2,some 10,some 11,some 12,some 7,some 8,some 9] [0,1,5,6,7],rfl⟩
    replace b:=cF q b;cases b
   rintro _ rfl;refine nB ?_;exact nT ⟨_,(soI a).symm,_,zR [some 0,some 1,some 2,some 3,some 4,some 5,some 6,some 7,some 8] [0,1,5,6,7],rfl⟩
  replace a:=cF u a;refine zU (AWp.exit (xT (xT ?_)));refine exL a ?_;rintro rfl;exact b7o ⟨_,zR [some 6,some 7,some 8] [7],_,w,rfl⟩
 rintro _ ⟨s,w,rfl⟩;have h:=(b0 _ w);refine xB (nT (zs ?_));rcases tf (A.zlt 0 (A.len s)) with r | r
 ·replace h:=cT r h;refine AWp.weak (Wk.groArr 7 rfl rfl (neL hA r) (c0A hA)) ?_;refine zn ?_;obtain ⟨e1,L,h⟩:=a0a h;refine zD (c2h hA L) ?_;refine zF (nT (zs (zn ?_)));obtain ⟨⟨g1,i1,j1⟩,M,h⟩:=a0a h;refine zD (c2i hA M) ?_ { tk:=[46] };refine zF (nT ?_) { tk:=[46] };refine AWp.weak (Wk.ren [some 0] [4] rfl rfl) ?_;refine zr ?_;cases soI h;exact zq
 replace h:=cF r h;cases h

theorem N9w {A:Ar} (hA:SA A) {e:List D} {g:Int} {b:List D} {c:Int} (h:N9 A e g=some (b,c)):a0g Tryz.prog 9 [zl 1 e,zi g] [] (.tuple [zl 1 b,zi c]) []:=by
 unfold N9 at h;refine zI Tryz.func9 ?_;refine zs (zA (nT (zs (zn ?_))));obtain ⟨⟨z,p⟩,l,h⟩:=a0a h;refine zC (c1r hA l) ?_;refine zE (nT (zs (zs ?_)));refine zA (nT ?_);rcases tf (A.zeq p 0) with a | a
 ·replace h:=cT a h;refine zU (zk (nT (zs (zn ?_))));obtain ⟨q,m,h⟩:=a0a h;have r:=gcI m;obtain ⟨⟨v,w,y⟩,j,h⟩:=a0a h;refine zD (c0w hA j) ?_;refine zF (nT ?_);obtain ⟨u,k,h⟩:=a0a h;obtain ⟨n,o⟩:=fzI hA k;refine AWp.freeze (s:=4) (i:=0) rfl rfl n o ?_;refine zr ?_;cases soI h;exact zq
 replace h:=cF a h;refine zT (zs ?_);refine zB (nT (zr (rT ?_)));cases soI h;exact zq

theorem c0x {A:Ar} (hA:SA A) {c i:List D} {q:Int} {r:Bool} (h:b7x A c i=some (q,r)):a0g Tryz.prog 103 [zl 1 c,zl 1 i,(.func 62 [] [])] [] (.tuple [zi q,.d (.bool r)]) []:=by
 unfold b7x at h;refine zI Tryz.func103 ?_;refine zs (zA (nT (zs ?_)));refine zA (nT (zs ?_));refine zA (nT (zs (zb ?_)));obtain ⟨U,C,s,B,m⟩:=a0E h;refine zM 0 [0,1,2,8,9] [] 0 (fun τ => ∃ g,s g=some (q,r)/\τ=⟨[(0,zl 1 c),(1,zl 1 i),(2,(.func 62 [] [])),(8,(.d (.int .i64 (A.len c)))),(9,zi g)],[],49⟩) ?_ ?_
 ·refine zP C [0,1,2,8,9,10] [] 0 (fun (o,p)=>⟨[(0,zl 1 c),(1,zl 1 i),(2,(.func 62 [] [])),(8,(.d (.int .i64 (A.len c)))),(9,zi o),(10,zi p)],[],49⟩) ⟨rfl,zc⟩ ?_;rintro ⟨o,p⟩ M a;dsimp only [a6i] at a;refine zs (zs (zA (nT ?_)));rcases tf (A.zlt o p) with j | j
  ·replace a:=cT j a;refine zT (zk (nT (zb (zs ?_))));obtain ⟨_,u,a⟩:=a0a a;have N:=nkI u;refine zB (nT (zs (zn ?_)));obtain ⟨K,v,a⟩:=a0a a;obtain ⟨O,P⟩:=gtI v;obtain ⟨E,w,a⟩:=a0a a;refine zD (b9x hA w) ?_;refine zF (nT ?_);obtain ⟨⟨F,G⟩,e,a⟩:=a0a a;refine zN [0,1,2,8,9,10] [] 0 (fun τ=>τ=⟨[(0,zl 1 c),(1,zl 1 i),(2,(.func 62 [] [])),(8,(.d (.int .i64 (A.len c)))),(9,zi F),(10,zi G)],[],49⟩) ?_ ?_
   ·rcases tf (A.zlt E 0) with k | k
    ·replace e:=cT k e;refine zT ?_;refine zB ?_;cases soI e;exact zO
    replace e:=cF k e;refine zU ?_;refine zB ?_;cases soI e;exact zO
   rintro _ rfl;refine nB ?_;exact nT ⟨_,(soI a).symm,rfl,zc⟩
  replace a:=cF j a;refine zU (AWp.exit (xT (xT ?_)));refine exL a ?_;rintro rfl;exact oxI ⟨rfl,_,m,zv⟩
 rintro _ ⟨g,m,rfl⟩;have h:=(B _ m);refine xB (nT (zs ?_));obtain ⟨J,b,h⟩:=a0a h;refine zN [6,7] [] 0 (fun τ=>τ=⟨[(6,zi g),(7,.d (.bool J))],[],49⟩) ?_ ?_
 ·refine zn ?_;rcases tf (A.zlt g (A.len c)) with l | l
  ·replace b:=cT l b;obtain ⟨L,y,b⟩:=a0a b;obtain ⟨Q,R⟩:=gtI y;obtain ⟨S,z,b⟩:=a0a b;refine zD (b9x hA z) ?_;refine zF ?_;cases soI b;exact zO
  replace b:=cF l b;refine zF ?_;cases soI b;exact zO
 rintro _ rfl;refine nT (zr ?_);cases soI h;exact zq

theorem c2j {A:Ar} (hA:SA A) {b c:List D} {a:Bool} (h:N67 A b c=some a):a0g Tryz.prog 67 [zl 1 b,zl 1 c] [] (.d (.bool a)) []:=by
 unfold N67 at h;refine zI Tryz.func67 ?_;refine zs (zA (nT (zs (zn ?_))));obtain ⟨⟨g,i⟩,e,h⟩:=a0a h;refine zC (c0x hA e) ?_ { tk:=[12] };refine zE (nT (zs ?_)) { tk:=[12] };refine zA (nT (zr ?_)) { tk:=[6,13] };cases soI h;exact zq

theorem c1t {A:Ar} (hA:SA A) {c a:List D} {b:Bool} (h:N66 A c a=some b):a0g Tryz.prog 66 [zl 1 c,.ptr 1 0] [.dead,.cells [zl 1 a]] (.d (.bool b)) [.dead,.cells [zl 1 a]]:=by
 unfold N66 at h;refine zI Tryz.func66 ?_;refine zs (zA (nT (zs (zn ?_))));obtain ⟨g,e,h⟩:=a0a h;refine zC (c2j hA e) ?_ { tk:=[6] };refine zE (nT (zr ?_)) { tk:=[6] };cases soI h;exact zq

theorem c0y {A:Ar} (hA:SA A) {m c:Int} {e g:List D} {l:Int} (h:b7y A m c e g=some l):a0g Tryz.prog 102 [.mref 2 1 m c,(.func 66 [] [.ptr 1 0])] [.dead,.cells [zl 1 e],(.arr 1 g)] (zi l) [.dead,.cells [zl 1 e],(.arr 1 g)]:=by
 unfold b7y at h;refine zI Tryz.func102 ?_;refine zs (zA (nT (zs (zs ?_))));refine zA (nT (zb ?_));obtain ⟨F,v,p,o,b⟩:=a0E h;refine zM 0 [] [] 3 (fun τ=>p (.inl ())=some l/\τ=⟨[],[.dead,.cells [zl 1 e],(.arr 1 g)],19⟩) ?_ ?_
 ·refine zP v [0,1,7,8] [] 3 (fun k=>⟨[(0,.mref 2 1 m c),(1,(.func 66 [] [.ptr 1 0])),(7,zi c),(8,zi k)],[.dead,.cells [zl 1 e],(.arr 1 g)],19⟩) ⟨rfl,zc⟩ ?_;rintro k z a;dsimp only [a7J] at a;refine zs (zA (nT (zs ?_)));rcases tf (A.zlt k c) with i | i
  ·replace a:=cT i a;refine zT (zk (nT (zs (zb (zs ?_)))));refine zB (nT (zs (zn ?_))) { tk:=[8,10] };obtain ⟨_,q,a⟩:=a0a a;have B:=ckI q;obtain ⟨_,r,a⟩:=a0a a;have C:=ckI r;obtain ⟨y,s,a⟩:=a0a a;have E:=gcI s;obtain ⟨w,u,a⟩:=a0a a;refine zD (c1t hA u) ?_;refine zF (nT ?_);rcases tf w with j | j
   ·replace a:=cT j a;refine zT (zs ?_);refine zB (nT (zr (rB (rT (rT ?_))))) { tk:=[5,17] };refine exL a ?_;rintro rfl;refine oxR ?_;replace b:=(eR (o _ b));refine rB (rT ?_);cases soI b;exact zq
   replace a:=cF j a;refine zU (zk (nB (nT ?_)));refine zB ?_ { tk:=[18] };exact nT ⟨_,(soI a).symm,rfl,zv⟩
  replace a:=cF i a;refine zU (AWp.exit (xT (xT ?_)));refine exL a ?_;rintro rfl;exact oxI ⟨rfl,b,zv⟩
 rintro _ ⟨b,rfl⟩;have h:=(eL (o _ b));refine xB (nT (zs (zA (nT (zr ?_)))));cases soI h;exact zq

theorem c2k {A:Ar} (hA:SA A) {g c:Int} {e w:List D} {q r:Int} {s:List D} (h:N65 A g c e w=some (q,r,s)):a0g Tryz.prog 65 [.mref 2 1 g c,(.func 66 [] [.ptr 1 0])] [.dead,.cells [zl 1 e],(.arr 1 w)] (.mref 2 1 q r) [.dead,.cells [zl 1 e],(.arr 1 s)]:=by
 unfold N65 at h;refine zI Tryz.func65 ?_;refine zs (zA (nT (zs (zn ?_))));obtain ⟨V,J,h⟩:=a0a h;refine zC (c0y hA J) ?_;refine zE (nT (zs (zs ?_)));refine zA (nT ?_);rcases tf (A.zeq V (-1)) with l | l
 ·replace h:=cT l h;refine zT (zs ?_);refine zB (nT (zr (rT ?_))) { tk:=[0,13] };cases soI h;exact zq
 replace h:=cF l h;refine zU (zk (nT (zs (zs ?_))));refine zB (nT (zb ?_));obtain ⟨r0,S,y,R,m⟩:=a0E h;refine zM 0 [0,5] [] 3 (fun τ => ∃ o p,y (o,p)=some (q,r,s)/\τ=⟨[(0,.mref 2 1 g c),(5,zi o)],[.dead,.cells [zl 1 e],(.arr 1 p)],42⟩) ?_ ?_
 ·refine zP S [0,1,5,6] [] 3 (fun (u,i,v)=>⟨[(0,.mref 2 1 g c),(1,(.func 66 [] [.ptr 1 0])),(5,zi u),(6,zi i)],[.dead,.cells [zl 1 e],(.arr 1 v)],42⟩) ⟨rfl,zv⟩ ?_;rintro ⟨u,i,v⟩ c0 a;dsimp only [b0v] at a;refine zs (zs (zA (nT ?_)));rcases tf (A.zlt i c) with j | j
  ·replace a:=cT j a;refine zT (zk (nT (zs (zb (zs ?_)))));obtain ⟨_,z,a⟩:=a0a a;have d0:=ckI z;obtain ⟨_,B,a⟩:=a0a a;have e0:=ckI B;obtain ⟨Y,C,a⟩:=a0a a;have g0:=gcI C;refine zB (nT (zs (zn ?_))) { tk:=[25] };obtain ⟨U,E,a⟩:=a0a a;refine zD (c1t hA E) ?_;refine zF (nT ?_);obtain ⟨⟨W,X⟩,b,a⟩:=a0a a;refine zN [0,1,5,6] [] 3 (fun τ=>τ=⟨[(0,.mref 2 1 g c),(1,(.func 66 [] [.ptr 1 0])),(5,zi W),(6,zi i)],[.dead,.cells [zl 1 e],(.arr 1 X)],42⟩) ?_ ?_
   ·rcases tf U with k | k
    ·replace b:=cT k b;refine zU (zk ?_);cases soI b;exact zO
    replace b:=cF k b;refine zT (zs ?_);obtain ⟨_,F,b⟩:=a0a b;have i0:=ckI F;obtain ⟨_,G,b⟩:=a0a b;have j0:=ckI G;obtain ⟨a0,b0,b⟩:=a0a b;refine zB (nT ?_) { tk:=[7,32] };refine zB ?_;cases soI b;exact zO
   rintro _ rfl;refine nB (nT (zA ?_));exact nT ⟨_,(soI a).symm,rfl,zc⟩
  replace a:=cF j a;refine zU (AWp.exit (xT (xT ?_)));refine exL a ?_;rintro rfl;exact oxI ⟨rfl,_,_,m,zv⟩
 rintro _ ⟨o,p,m,rfl⟩;have h:=(R _ m);refine xB (nT (zs ?_));obtain ⟨_,K,h⟩:=a0a h;have k0:=ckI K;obtain ⟨_,L,h⟩:=a0a h;have l0:=ckI L;obtain ⟨_,M,h⟩:=a0a h;have m0:=ckI M;obtain ⟨_,N,h⟩:=a0a h;have n0:=ckI N;refine zB (nT (zs ?_));obtain ⟨_,O,h⟩:=a0a h;have o0:=ckI O;obtain ⟨_,P,h⟩:=a0a h;have p0:=ckI P;obtain ⟨_,Q,h⟩:=a0a h;have q0:=ckI Q;refine zB (nT (zr ?_)) { tk:=[41] };cases soI h;exact zq

theorem c2l {A:Ar} (hA:SA A) {e:List D} {g j:Int} {b:List D} {c:Int} (h:N31 A e g j=some (b,c)):a0g Tryz.prog 31 [zl 1 e,zi g,zi j] [] (.tuple [zl 1 b,zi c]) []:=by
 unfold N31 at h;refine zI Tryz.func31 ?_;refine zs (zA (nT (zs (zn ?_))));obtain ⟨⟨U,B⟩,q,h⟩:=a0a h;refine zC (c1r hA q) ?_;refine zE (nT (zs (zs ?_)));refine zA (nT ?_);rcases tf (A.zeq B 0) with a | a
 ·replace h:=cT a h;refine zU (zk (nT (zs (zn ?_))));obtain ⟨E,r,h⟩:=a0a h;have F:=gcI r;obtain ⟨⟨K,L,M⟩,k,h⟩:=a0a h;refine zD (c0w hA k) ?_ { tk:=[26],esc:=[10] };obtain ⟨z,l,h⟩:=a0a h;obtain ⟨u,v⟩:=fzI hA l;refine a1l.freeze (s:=26) (i:=0) rfl rfl u v ?_;refine zF (nT (zs (zn ?_))) { tk:=[26],esc:=[10] };obtain ⟨C,m,h⟩:=a0a h;have G:=gcI m;obtain ⟨⟨N,O,P⟩,n,h⟩:=a0a h;refine zD (a0g.shift (c0w hA n) rfl rfl [.dead,.cells [zl 1 z]] rfl rfl rfl rfl) ?_;obtain ⟨⟨Q,R,S⟩,o,h⟩:=a0a h;refine zD (c2k hA o) ?_;refine zF (nT ?_);obtain ⟨J,p,h⟩:=a0a h;obtain ⟨w,y⟩:=fzI hA p;refine AWp.freeze (s:=6) (i:=2) rfl rfl w y ?_;refine zr ?_;cases soI h;exact zq
 replace h:=cF a h;refine zT (zs ?_);refine zB (nT (zr (rT ?_)));cases soI h;exact zq

theorem c2m {A:Ar} (hA:SA A) {i:List D} {e:Bool} {g:Int} (h:N10 A i=some (e,g)):a0g Tryz.prog 10 [zl 1 i] [] (.tuple [.d (.bool e),zi g]) []:=by
 unfold N10 at h;refine zI Tryz.func10 ?_;refine zs (zA (nT (zs (zn ?_))));obtain ⟨⟨l,c⟩,j,h⟩:=a0a h;refine zC (c2l hA j) ?_;refine zE (nT (zs ?_));obtain ⟨k,a,h⟩:=a0a h;refine zN [2,3] [] 0 (fun τ=>τ=⟨[(2,.d (.bool k)),(3,zi c)],[],19⟩) ?_ ?_
 ·rcases tf (A.zeq c 0) with b | b
  ·replace a:=cT b a;refine zB ?_;cases soI a;exact zO
  replace a:=cF b a;refine zB ?_;cases soI a;exact zO
 rintro _ rfl;refine nT (zr ?_);cases soI h;exact zq

theorem N3w {A:Ar} (hA:SA A) {F G:List D} {O:Bool} (h:N3 A F G=some O):a0g Tryz.prog 3 [zl 1 F,zl 2 G] [] (.d (.bool O)) []:=by
 unfold N3 at h;refine zI Tryz.func3 ?_;refine zs (zA (nT (zs (zs ?_))));obtain ⟨P,y,h⟩:=a0a h;refine zN [0,1,22] [] 0 (fun τ=>τ=⟨[(0,zl 1 F),(1,zl 2 G),(22,.d (.bool P))],[],121⟩) ?_ ?_
 ·refine zn ?_;obtain ⟨r4,W,y⟩:=a0a y;refine zC (N5w hA W) ?_;rcases tf r4 with B | B
  ·replace y:=cT B y;refine zE ?_ (h:=(by (repeat (cbv;simp only [B]));try cbv))
   cases soI y;exact (zO (g:=(by first | (cbv;done) | ((repeat (cbv;simp only [B]));try cbv))))
  replace y:=cF B y;refine zE ?_ (h:=(by (repeat (cbv;simp only [B]));try cbv))
  cases soI y;exact (zO (g:=(by first | (cbv;done) | ((repeat (cbv;simp only [B]));try cbv))))
 rintro _ rfl;refine nT ?_;rcases tf P with a | a
 ·replace h:=cT a h;refine zT ?_ (hb:=(by first | rfl | simp only [a,zqa,zqb,zqc,zqd]))
  refine zs (zn ?_);obtain ⟨m0,e9,h⟩:=a0a h;refine zC (N6w hA e9) ?_ { tk:=[23] } (h:=(by (repeat (cbv;simp only [a]));try cbv))
  refine zE ?_ { tk:=[23] } (h:=(by (repeat (cbv;simp only [a]));try cbv))
  refine nT (zr (rT ?_));cases soI h;exact zq
 replace h:=cF a h;refine zU ?_ (hb:=(by first | rfl | simp only [a,zqa,zqb,zqc,zqd]))
 refine zk (nT (zs (zn ?_)));obtain ⟨⟨J,E⟩,Q,h⟩:=a0a h;refine zC (N7w hA Q) ?_ (h:=(by (repeat (cbv;simp only [a]));try cbv))
 refine zE ?_ (h:=(by (repeat (cbv;simp only [a]));try cbv))
 refine nT (zs (zn ?_));obtain ⟨⟨c0,d0⟩,R,h⟩:=a0a h;refine zC (N8w hA R) ?_ (h:=(by (repeat (cbv;simp only [a]));try cbv))
 refine zE ?_ (h:=(by (repeat (cbv;simp only [a]));try cbv))
 refine nT (zs (zs ?_));refine zA ?_ (h:=(by (repeat (cbv;simp only [a]));try cbv))
 refine nT ?_;rcases tf (A.zeq E d0) with b | b
 ·replace h:=cT b h;refine zU ?_ (hb:=(by first | rfl | simp only [a,b,zqa,zqb,zqc,zqd]))
  refine zk (nT (zs (zs ?_)));refine zA ?_ (h:=(by (repeat (cbv;simp only [a,b]));try cbv))
  refine nT ?_;rcases tf (A.zeq E 0) with c | c
  ·replace h:=cT c h;refine zU ?_ (hb:=(by first | rfl | simp only [a,b,c,zqa,zqb,zqc,zqd]))
   refine zk (nT (zs (zn ?_)));obtain ⟨⟨C,e0⟩,U,h⟩:=a0a h;refine zC (N9w hA U) ?_ (h:=(by (repeat (cbv;simp only [a,b,c]));try cbv))
   refine zE ?_ (h:=(by (repeat (cbv;simp only [a,b,c]));try cbv))
   refine nT (zs (zn ?_));obtain ⟨⟨K,g0⟩,V,h⟩:=a0a h;refine zC (N9w hA V) ?_ (h:=(by (repeat (cbv;simp only [a,b,c]));try cbv))
   refine zE ?_ (h:=(by (repeat (cbv;simp only [a,b,c]));try cbv))
   refine nT (zs (zn ?_));obtain ⟨⟨L,i0⟩,X,h⟩:=a0a h;refine zC (N9w hA X) ?_ (h:=(by (repeat (cbv;simp only [a,b,c]));try cbv))
   refine zE ?_ (h:=(by (repeat (cbv;simp only [a,b,c]));try cbv))
   refine nT (zs (zn ?_));obtain ⟨⟨M,j0⟩,Y,h⟩:=a0a h;refine zC (c2m hA Y) ?_ (h:=(by (repeat (cbv;simp only [a,b,c]));try cbv))
   refine zE ?_ (h:=(by (repeat (cbv;simp only [a,b,c]));try cbv))
   refine nT (zs (zs ?_));obtain ⟨N,e,h⟩:=a0a h;refine zN [5,9,10,11,13,98] [] 0 (fun τ=>τ=⟨[(5,.d (.bool J)),(9,zl 1 C),(10,zl 1 K),(11,zl 1 L),(13,.d (.bool M)),(98,.d (.bool N))],[],121⟩) ?_ ?_
   ·rcases tf (A.zeq e0 0) with k | k
    ·replace e:=cT k e;rcases tf (A.zeq g0 0) with m | m
     ·replace e:=cT m e;rcases tf (A.zeq i0 0) with q | q
      ·replace e:=cT q e;rcases tf (A.zeq j0 0) with u | u
       ·replace e:=cT u e;rcases tf (A.zeq (A.len C) 0) with z | z
        ·replace e:=cT z e;refine zA ?_ (h:=(by (repeat (cbv;simp only [a,b,c,k,m,q,u,z]));try cbv))
         cases soI e;exact (zO (g:=(by first | (cbv;done) | ((repeat (cbv;simp only [a,b,c,k,m,q,u,z]));try cbv))))
        replace e:=cF z e;refine zA ?_ (h:=(by (repeat (cbv;simp only [a,b,c,k,m,q,u,z]));try cbv))
        cases soI e;exact (zO (g:=(by first | (cbv;done) | ((repeat (cbv;simp only [a,b,c,k,m,q,u,z]));try cbv))))
       replace e:=cF u e;refine zA ?_ (h:=(by (repeat (cbv;simp only [a,b,c,k,m,q,u]));try cbv))
       cases soI e;exact (zO (g:=(by first | (cbv;done) | ((repeat (cbv;simp only [a,b,c,k,m,q,u]));try cbv))))
      replace e:=cF q e;refine zA ?_ (h:=(by (repeat (cbv;simp only [a,b,c,k,m,q]));try cbv))
      cases soI e;exact (zO (g:=(by first | (cbv;done) | ((repeat (cbv;simp only [a,b,c,k,m,q]));try cbv))))
     replace e:=cF m e;refine zA ?_ (h:=(by (repeat (cbv;simp only [a,b,c,k,m]));try cbv))
     cases soI e;exact (zO (g:=(by first | (cbv;done) | ((repeat (cbv;simp only [a,b,c,k,m]));try cbv))))
    replace e:=cF k e;refine zA ?_ (h:=(by (repeat (cbv;simp only [a,b,c,k]));try cbv))
    cases soI e;exact (zO (g:=(by first | (cbv;done) | ((repeat (cbv;simp only [a,b,c,k]));try cbv))))
   rintro _ rfl;refine nT ?_;rcases tf N with j | j
   ·replace h:=cT j h;refine zT ?_ (hb:=(by first | rfl | simp only [j,zqa,zqb,zqc,zqd]))
    refine zs ?_;refine zA ?_ (h:=(by (repeat (cbv;simp only [j]));try cbv))
    refine nT (zr (rT ?_));cases soI h;exact zq
   replace h:=cF j h;refine zU ?_ (hb:=(by first | rfl | simp only [j,zqa,zqb,zqc,zqd]))
   refine zk (nT (zs ?_));obtain ⟨l0,i,h⟩:=a0a h;refine zN [4] [] 0 (fun τ=>τ=⟨[(4,.d (.bool l0))],[],121⟩) ?_ ?_
   ·refine zn ?_;rcases tf J with l | l
    ·replace i:=cT l i;rcases tf (A.zeq (A.len L) (A.len C)) with p | p
     ·replace i:=cT p i;rcases tf (A.zeq (A.len K) (A.len C)) with s | s
      ·replace i:=cT s i;rcases tf M with w | w
       ·replace i:=cT w i;obtain ⟨o0,a0,i⟩:=a0a i;refine zC (N6w hA a0) ?_ { tk:=[120] } (h:=(by (repeat (cbv;simp only [j,l,p,s,w]));try cbv))
        refine zE ?_ { tk:=[120] } (h:=(by (repeat (cbv;simp only [j,l,p,s,w]));try cbv))
        cases soI i;exact (zO (g:=(by first | (cbv;done) | ((repeat (cbv;simp only [j,l,p,s,w]));try cbv))))
       replace i:=cF w i;refine zE ?_ { tk:=[120] } (h:=(by (repeat (cbv;simp only [j,l,p,s,w]));try cbv))
       cases soI i;exact (zO (g:=(by first | (cbv;done) | ((repeat (cbv;simp only [j,l,p,s,w]));try cbv))))
      replace i:=cF s i;refine zE ?_ { tk:=[120] } (h:=(by (repeat (cbv;simp only [j,l,p,s]));try cbv))
      cases soI i;exact (zO (g:=(by first | (cbv;done) | ((repeat (cbv;simp only [j,l,p,s]));try cbv))))
     replace i:=cF p i;refine zE ?_ { tk:=[120] } (h:=(by (repeat (cbv;simp only [j,l,p]));try cbv))
     cases soI i;exact (zO (g:=(by first | (cbv;done) | ((repeat (cbv;simp only [j,l,p]));try cbv))))
    replace i:=cF l i;obtain ⟨p0,b0,i⟩:=a0a i;refine zC (N6w hA b0) ?_ { tk:=[120] } (h:=(by (repeat (cbv;simp only [j,l]));try cbv))
    refine zE ?_ { tk:=[120] } (h:=(by (repeat (cbv;simp only [j,l]));try cbv))
    cases soI i;exact (zO (g:=(by first | (cbv;done) | ((repeat (cbv;simp only [j,l]));try cbv))))
   rintro _ rfl;refine nT (zr ?_);cases soI h;exact zq
  replace h:=cF c h;refine zT ?_ (hb:=(by first | rfl | simp only [a,b,c,zqa,zqb,zqc,zqd]))
  refine zs ?_;obtain ⟨k0,o,h⟩:=a0a h;refine zN [4] [] 0 (fun τ=>τ=⟨[(4,.d (.bool k0))],[],121⟩) ?_ ?_
  ·refine zn ?_;rcases tf (A.zeq E 2) with r | r
   ·replace o:=cT r o;rcases tf (A.zeq (A.len c0) 0) with v | v
    ·replace o:=cT v o;obtain ⟨n0,S,o⟩:=a0a o;refine zC (N6w hA S) ?_ { tk:=[50] } (h:=(by (repeat (cbv;simp only [a,b,c,r,v]));try cbv))
     refine zE ?_ { tk:=[50] } (h:=(by (repeat (cbv;simp only [a,b,c,r,v]));try cbv))
     cases soI o;exact (zO (g:=(by first | (cbv;done) | ((repeat (cbv;simp only [a,b,c,r,v]));try cbv))))
    replace o:=cF v o;refine zE ?_ { tk:=[50] } (h:=(by (repeat (cbv;simp only [a,b,c,r,v]));try cbv))
    cases soI o;exact (zO (g:=(by first | (cbv;done) | ((repeat (cbv;simp only [a,b,c,r,v]));try cbv))))
   replace o:=cF r o;refine zE ?_ { tk:=[50] } (h:=(by (repeat (cbv;simp only [a,b,c,r]));try cbv))
   cases soI o;exact (zO (g:=(by first | (cbv;done) | ((repeat (cbv;simp only [a,b,c,r]));try cbv))))
  rintro _ rfl;refine nT (zr (rT ?_));cases soI h;exact zq
 replace h:=cF b h;refine zT ?_ (hb:=(by first | rfl | simp only [a,b,zqa,zqb,zqc,zqd]))
 refine zs ?_;refine zA ?_ (h:=(by (repeat (cbv;simp only [a,b]));try cbv))
 refine nT (zr (rT ?_));cases soI h;exact zq
end Go.Am
