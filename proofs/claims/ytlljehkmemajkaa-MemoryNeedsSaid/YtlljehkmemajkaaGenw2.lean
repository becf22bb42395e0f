import Derived.Test.YtlljehkmemajkaaGenw1
set_option maxRecDepth 100000
set_option maxHeartbeats 2000000
set_option linter.unusedVariables false
set_option linter.unusedSimpArgs false
namespace Go.Am
open Go Go.Proofs
theorem c2M {A:Ar} (hA:SA A) {a b:Int} {d r:List D} (h:M97 A a b d=some r):a0h Try.prog 97 [.mref 0 1 a b,(.func 98 [] [])] [(.arr 1 d)] (.tuple []) [(.arr 1 r)] :=
 a0h.sortOne Try.sort97 rfl (c:=(cL 1)) (fun _=>rfl) (g:=98) (caps:=[]) rfl (fun _ _ _ h=>c1w hA h) rfl rfl h (i:=0) rfl rfl

theorem b9h {A:Ar} (hA:SA A) {c e:List D} {l:Bool} (h:b8F A c e=some l):a0h Try.prog 100 [zl 1 c,zl 1 e] [] (.d (.bool l)) []:=by
 unfold b8F at h;refine zI Try.func100 ?_;refine zs (zA (nT (zs (zs ?_))));refine zA (nT ?_);rcases tf (A.zeq (A.len c) (A.len e)) with j | j
 ·replace h:=cT j h;refine zU (zk (nT (zs (zs ?_))));refine zB (nT (zb ?_));obtain ⟨C,u,o,m,b⟩:=a0Q h;refine zM 0 [] [] 0 (fun τ=>o (.inl ())=some l/\τ=⟨[],[],26⟩) ?_ ?_
  ·refine zP u [0,1,12,13] [] 0 (fun k=>⟨[(0,zl 1 c),(1,zl 1 e),(12,(.d (.int .i64 (A.len c)))),(13,zi k)],[],26⟩) ⟨rfl,zv⟩ ?_;rintro k v a;dsimp only [a8k] at a;refine zs (zA (nT (zs ?_)));rcases tf (A.zlt k (A.len c)) with g | g
   ·replace a:=cT g a;refine zT (zk (nT (zs (zb (zs ?_)))));refine zB (nT (zs ?_));obtain ⟨p,r,a⟩:=a0a a;obtain ⟨w,y⟩:=gtI r;obtain ⟨q,s,a⟩:=a0a a;obtain ⟨z,B⟩:=gtI s;refine zH ?_;refine nT ?_;rcases tf (A.zeq p q) with i | i
    ·replace a:=cT i a;refine zU (zk (nB (nT ?_)));refine zB ?_;exact nT ⟨_,(soI a).symm,rfl,zv⟩
    replace a:=cF i a;refine zT (zs ?_);refine zB (nT (zr (rB (rT (rT ?_)))));refine exL a ?_;rintro rfl;refine oxR ?_;replace b:=(eR (m _ b));refine rB (rT ?_);cases soI b;exact zq
   replace a:=cF g a;refine zU (AWp.exit (xT (xT ?_)));refine exL a ?_;rintro rfl;exact oxI ⟨rfl,b,zv⟩
  rintro _ ⟨b,rfl⟩;have h:=(eL (m _ b));refine xB (nT (zs (zA (nT (zr ?_)))));cases soI h;exact zq
 replace h:=cF j h;refine zT (zs ?_);refine zB (nT (zr (rT ?_)));cases soI h;exact zq

theorem c2N {A:Ar} (hA:SA A) {m j:Int} {s:List D} {y z:Int} {B:List D} (h:M99 A m j s=some (y,z,B)):a0h Try.prog 99 [.mref 0 1 m j,(.func 100 [] [])] [(.arr 1 s)] (.mref 0 1 y z) [(.arr 1 B)]:=by
 unfold M99 at h;refine zI Try.func99 ?_;refine zs (zA (nT (zs (zs ?_))));refine zA (nT ?_);rcases tf (A.zlt j 2) with o | o
 ·replace h:=cT o h;refine zT ?_ (hb:=(by first | rfl | simp only [o,zqa,zqb,zqc,zqd]))
  refine zs ?_;refine zA ?_ { tk:=[0,11] } (h:=(by (repeat (cbv;simp only [o]));try cbv))
  refine nT (zr (rT ?_));cases soI h;exact zq
 replace h:=cF o h;refine zU ?_ (hb:=(by first | rfl | simp only [o,zqa,zqb,zqc,zqd]))
 refine zk (nT (zs (zs ?_)));refine zA ?_ (h:=(by (repeat (cbv;simp only [o]));try cbv))
 refine nT (zb ?_);obtain ⟨s2,d2,W,R,q⟩:=a0Q h;refine zM 0 [0] [] 1 (fun τ=>W (.inl ())=some (y,z,B)/\τ=⟨[(0,.mref 0 1 m j)],[(.arr 1 s)],66⟩) ?_ ?_
 ·refine zP d2 [0,1,5] [] 1 (fun p=>⟨[(0,.mref 0 1 m j),(1,(.func 100 [] [])),(5,zi p)],[(.arr 1 s)],66⟩) ⟨rfl,(by first | (cbv;done) | ((repeat (cbv;simp only [o]));try cbv))⟩ ?_
  rintro p j1 a;dsimp only [b1h] at a;refine zs (zs (zA (nT ?_)));rcases tf (A.zlt p j) with e | e
  ·replace a:=cT e a;refine zT ?_ (hb:=(by first | rfl | simp only [e,zqa,zqb,zqc,zqd]))
   refine zk (nT (zs (zb (zs ?_))));refine zQ ?_;obtain ⟨_,X,a⟩:=a0a a;have C:=ckI X;obtain ⟨_,Y,a⟩:=a0a a;have E:=ckI Y;obtain ⟨k2,a0,a⟩:=a0a a;have F:=gcI a0;obtain ⟨_,b0,a⟩:=a0a a;have G:=ckI b0;obtain ⟨_,d0,a⟩:=a0a a;have J:=ckI d0;obtain ⟨l2,e0,a⟩:=a0a a;have K:=gcI e0;obtain ⟨e2,g0,a⟩:=a0a a;refine a1N.c0 hT hA {} rfl (by (repeat (cbv;simp only [e,C,E,F,G,J,K]));try cbv) (b9h hA g0) rfl rfl (lb rfl) rfl rfl ?_
   refine zJ ?_ (h:=(by (repeat (cbv;simp only [e,C,E,F,G,J,K]));try cbv))
   refine nT ?_;rcases tf e2 with k | k
   ·replace a:=cT k a;refine zT ?_ (hb:=(by first | rfl | simp only [e,k,zqa,zqb,zqc,zqd]))
    refine zs ?_;obtain ⟨_,i0,a⟩:=a0a a;have k1:=ckI i0;obtain ⟨_,j0,a⟩:=a0a a;have l1:=ckI j0;obtain ⟨_,k0,a⟩:=a0a a;have m1:=ckI k0;refine zA ?_ (h:=(by (repeat (cbv;simp only [e,k,k1,l1,m1]));try cbv))
    refine nT (zs (zs ?_));refine zA ?_ (h:=(by (repeat (cbv;simp only [e,k]));try cbv))
    refine nT (zb ?_);obtain ⟨r2,c2,V,b2,u⟩:=a0Q a;refine zM 2 [0,5] [] 1 (fun τ => ∃ v w,V (v,w)=some j1/\τ=⟨[(0,.mref 0 1 m j),(5,zi v)],[(.arr 1 w)],66⟩) ?_ ?_
    ·refine zP c2 [0,1,5,6,7] [] 1 (fun (S,r,U)=>⟨[(0,.mref 0 1 m j),(1,(.func 100 [] [])),(5,zi S),(6,.mref 0 1 (A.zadd m p) (A.zsub j p)),(7,zi r)],[(.arr 1 U)],66⟩) ⟨rfl,(by first | (cbv;done) | ((repeat (cbv;simp only [e,k]));try cbv))⟩ ?_
     rintro ⟨S,r,U⟩ q2 b;dsimp only [a9x] at b;refine zs (zs (zA (nT ?_)));rcases tf (A.zlt r (A.zsub j p)) with i | i
     ·replace b:=cT i b;refine zT ?_ (hb:=(by first | rfl | simp only [i,zqa,zqb,zqc,zqd]))
      refine zk (nT (zs (zb (zs ?_))));refine zQ ?_;obtain ⟨_,l0,b⟩:=a0a b;have L:=ckI l0;obtain ⟨_,m0,b⟩:=a0a b;have M:=ckI m0;obtain ⟨m2,n0,b⟩:=a0a b;have N:=gcI n0;obtain ⟨_,o0,b⟩:=a0a b;have O:=ckI o0;obtain ⟨_,p0,b⟩:=a0a b;have P:=ckI p0;obtain ⟨n2,q0,b⟩:=a0a b;have Q:=gcI q0;obtain ⟨g2,r0,b⟩:=a0a b;refine a1N.c0 hT hA {} rfl (by (repeat (cbv;simp only [i,L,M,N,O,P,Q]));try cbv) (b9h hA r0) rfl rfl (lb rfl) rfl rfl ?_
      refine zJ ?_ (h:=(by (repeat (cbv;simp only [i,L,M,N,O,P,Q]));try cbv))
      refine nT ?_;obtain ⟨⟨i2,j2⟩,c,b⟩:=a0a b;refine zN [0,1,5,6,7] [] 1 (fun τ=>τ=⟨[(0,.mref 0 1 m j),(1,(.func 100 [] [])),(5,zi i2),(6,.mref 0 1 (A.zadd m p) (A.zsub j p)),(7,zi r)],[(.arr 1 j2)],66⟩) ?_ ?_
      ·rcases tf g2 with l | l
       ·replace c:=cT l c;refine zU ?_ (hb:=(by first | rfl | simp only [i,l,zqa,zqb,zqc,zqd]))
        refine zk ?_;cases soI c;exact (zO (g:=(by first | (cbv;done) | ((repeat (cbv;simp only [i,l]));try cbv))))
       replace c:=cF l c;refine zT ?_ (hb:=(by first | rfl | simp only [i,l,zqa,zqb,zqc,zqd]))
       refine zs ?_;obtain ⟨_,s0,c⟩:=a0a c;have n1:=ckI s0;obtain ⟨_,u0,c⟩:=a0a c;have o1:=ckI u0;obtain ⟨o2,v0,c⟩:=a0a c;have p1:=gcI v0;obtain ⟨_,w0,c⟩:=a0a c;have q1:=ckI w0;obtain ⟨_,y0,c⟩:=a0a c;have r1:=ckI y0;obtain ⟨p2,z0,c⟩:=a0a c;refine zA ?_ { tk:=[55] } (h:=(by (repeat (cbv;simp only [i,l,n1,o1,p1,q1,r1,z0]));try cbv))
       refine nT ?_;refine zA ?_ (h:=(by (repeat (cbv;simp only [i,l]));try cbv))
       cases soI c;exact (zO (g:=(by first | (cbv;done) | ((repeat (cbv;simp only [i,l]));try cbv))))
      rintro _ rfl;refine nB (nT (zA ?_));exact nT ⟨_,(soI b).symm,rfl,zc⟩
     replace b:=cF i b;refine zU ?_ (hb:=(by first | rfl | simp only [i,zqa,zqb,zqc,zqd]))
     refine AWp.exit (xT (xT ?_));refine exL b ?_;rintro rfl;exact oxI ⟨rfl,_,_,u,(by first | (cbv;done) | ((repeat (cbv;simp only [i]));try cbv))⟩
    rintro _ ⟨v,w,u,rfl⟩;have a:=(b2 _ u);refine xB (nT (zs ?_));obtain ⟨_,a1,a⟩:=a0a a;have s1:=ckI a1;obtain ⟨_,b1,a⟩:=a0a a;have u1:=ckI b1;obtain ⟨_,c1,a⟩:=a0a a;have v1:=ckI c1;obtain ⟨_,d1,a⟩:=a0a a;have w1:=ckI d1;refine zA ?_ (h:=(by (repeat (cbv;simp only [s1,u1,v1,w1]));try cbv))
    refine nT (zs ?_);obtain ⟨_,e1,a⟩:=a0a a;have y1:=ckI e1;obtain ⟨_,g1,a⟩:=a0a a;have z1:=ckI g1;obtain ⟨_,i1,a⟩:=a0a a;have a2:=ckI i1;refine zA ?_ { tk:=[64] } (h:=(by (repeat (cbv;simp only [y1,z1,a2]));try cbv))
    refine nT (zr (rB (rT (rT ?_))));refine exL a ?_;rintro rfl;refine oxR ?_;replace q:=(eR (R _ q));refine rB (rT ?_);cases soI q;exact zq
   replace a:=cF k a;refine zU ?_ (hb:=(by first | rfl | simp only [e,k,zqa,zqb,zqc,zqd]))
   refine zk (nB (nT ?_));refine zA ?_ (h:=(by (repeat (cbv;simp only [e,k]));try cbv))
   exact nT ⟨_,(soI a).symm,rfl,(by first | (cbv;done) | ((repeat (cbv;simp only [e,k]));try cbv))⟩
  replace a:=cF e a;refine zU ?_ (hb:=(by first | rfl | simp only [e,zqa,zqb,zqc,zqd]))
  refine AWp.exit (xT (xT ?_));refine exL a ?_;rintro rfl;exact oxI ⟨rfl,q,(by first | (cbv;done) | ((repeat (cbv;simp only [e]));try cbv))⟩
 rintro _ ⟨q,rfl⟩;have h:=(eL (R _ q));refine xB (nT (zs (zA (nT (zr ?_)) { tk:=[0,65] })));cases soI h;exact zq

theorem b9i {A:Ar} (hA:SA A) {g:List D} {i z B:Int} {C:List D} (h:M56 A g i=some (z,B,C)):a0h Try.prog 56 [zl 1 g,.d (.iface i)] [] (.mref 0 1 z B) [(.arr 1 C)]:=by
 unfold M56 at h;refine zI Try.func56 ?_;refine zs (zA (nT (zs ?_)));obtain ⟨_,N,h⟩:=a0a h;have f4:=ckI N;refine zB (nT (zs ?_)) { tk:=[9,12],esc:=[5] };have f5:=lnF hA (l:=(zz0)) (n:=41) rfl;refine zB (nT (zs ?_)) { tk:=[14],esc:=[6],gr:=[14] };refine zA (nT (zs (zb ?_)));refine AWp.weak (Wk.settleS 7 rfl (lb rfl)) ?_;refine AWp.weak (Wk.ren [some 0,some 1,some 5,some 2,some 3,some 4,some 6,some 7,some 8] [0,1,5,6,7] rfl rfl) ?_;obtain ⟨l1,c0,F,b0,w⟩:=a0Q h;refine AWp.cutXW 0 (fun τ => ∃ s,F s=some (z,B,C)/\τ=⟨[(7,.gref 0 1)],[.gro 1 s,.dead,.dead],47⟩) ?_ ?_
 ·refine AWp.iterW c0 (fun (j,c,E)=>⟨[(0,zl 1 g),(1,.d (.iface i)),(5,.ptr 1 0),(6,.ptr 2 0),(7,.gref 6 1)],[(.map true (zz1) j),(.cells [(.map 0)]),.cells [.gref 3 41],.gro 41 c,.dead,.dead,.gro 1 E,.dead,.dead],47⟩) ⟨_,zR zy7 [0,1,5,6,7],rfl⟩ ?_;rintro ⟨j,c,E⟩ i0 a;dsimp only [a8l] at a;refine zs (zs (zA (nT ?_)));rcases tf (A.zlt 0 (A.len c)) with u | u
  ·replace a:=cT u a;refine zT (zk (nT (zb (zs ?_))));obtain ⟨_,O,a⟩:=a0a a;have j0:=ckI O;obtain ⟨_,P,a⟩:=a0a a;have k0:=ckI P;obtain ⟨m,Q,a⟩:=a0a a;have l0:=gcI Q;obtain ⟨_,S,a⟩:=a0a a;have n0:=ckI S;obtain ⟨_,R,a⟩:=a0a a;have m0:=ckI R;refine zB (nT (zs ?_)) { tk:=[23],arr:=[8] };obtain ⟨_,U,a⟩:=a0a a;have o0:=ckI U;obtain ⟨_,V,a⟩:=a0a a;have p0:=ckI V;refine zB (nT ?_) { tk:=[28] };refine AWp.weak (Wk.settle 2 0 rfl rfl rfl) ?_;refine zs (zs (zn ?_));obtain ⟨y,W,a⟩:=a0a a;obtain ⟨q0,r0,s0⟩:=gaI W;obtain ⟨d0,X,a⟩:=a0a a;refine zD (c2J hA X) ?_;refine zF (nT ?_);obtain ⟨k,e,a⟩:=a0a a;refine AWp.cutW (fun τ=>τ=⟨[(0,zl 1 g),(1,.d (.iface i)),(5,.ptr 1 0),(6,.ptr 2 0),(7,.gref 7 1),(8,.ptr 3 0)],[(.map true (zz1) j),(.cells [(.map 0)]),.cells [.gref 4 41],(.arr 1 (A.spl (zz0) (A.zadd 0 (Int.ofNat 0)) m)),(.gro 41 (A.sub c 0 (A.wrp .i64 (A.zsub (A.len c) 1)))),.dead,.dead,.gro 1 k,.dead,.dead],47⟩) ?_ ?_
   ·rcases tf d0 with v | v
    ·replace e:=cT v e;refine zT (zn ?_);obtain ⟨k1,Y,e⟩:=a0a e;refine zD (c2L hA Y) ?_ { tk:=[7,37] };obtain ⟨w0,a0,e⟩:=a0a e;obtain ⟨u0,v0⟩:=apI a0;refine zF ?_ { tk:=[7,37],gr:=[37] };cases soI e;exact oWi ⟨_,zR [some 0,some 1,some 2,some 9,some 10,some 11,some 12,some 13,some 14,some 15] [0,1,5,6,7,8],rfl⟩
    replace e:=cF v e;refine zU (zk ?_);cases soI e;exact oWi ⟨_,zR [some 0,some 1,some 2,some 9,some 10,some 11,some 12,some 6,some 7,some 8] [0,1,5,6,7,8],rfl⟩
   rintro _ rfl;refine nT ?_;obtain ⟨⟨e0,g0⟩,b,a⟩:=a0a a;refine AWp.cutW (fun τ=>τ=⟨[(0,zl 1 g),(1,.d (.iface i)),(5,.ptr 1 0),(6,.ptr 2 0),(7,.gref 6 1)],[(.map true (zz1) e0),(.cells [(.map 0)]),.cells [.gref 3 41],.gro 41 g0,.dead,.dead,.gro 1 k,.dead,.dead],47⟩) ?_ ?_
   ·refine zn ?_;rcases tf (A.zeq i (Int.ofNat 143)) with o | o
    ·replace b:=cT o b;rw [ifF hA (n:=143) o];obtain ⟨⟨y0,z0⟩,G,b⟩:=a0a b;refine zD (a0h.emb (args':=[.d (.agg []),zl 1 g,.d (.agg y),(.func 96 [] [.ptr 1 0,.ptr 2 0])]) (c1p hA G) [some 1,some 0,some 2,some 4,some 5,some 6] [(.map true (zz1) j),(.cells [(.map 0)]),.cells [.gref 4 41],(.arr 1 (A.spl (zz0) (A.zadd 0 (Int.ofNat 0)) m)),(.gro 41 (A.sub c 0 (A.wrp .i64 (A.zsub (A.len c) 1)))),.dead,.dead,.gro 1 k,.dead,.dead] rfl rfl rfl rfl rfl rfl rfl) ?_;refine zF ?_;cases soI b;exact oWi ⟨_,zR zy0 [0,1,5,6,7],rfl⟩
    replace b:=cF o b;rcases tf (A.zeq i (Int.ofNat 144)) with p | p
    ·replace b:=cT p b;rw [ifF hA (n:=144) p];obtain ⟨⟨a1,b1⟩,J,b⟩:=a0a b;refine zD (a0h.emb (args':=[.d (.agg []),zl 1 g,.d (.agg y),(.func 96 [] [.ptr 1 0,.ptr 2 0])]) (c1t hA J) [some 1,some 0,some 2,some 4,some 5,some 6] [(.map true (zz1) j),(.cells [(.map 0)]),.cells [.gref 4 41],(.arr 1 (A.spl (zz0) (A.zadd 0 (Int.ofNat 0)) m)),(.gro 41 (A.sub c 0 (A.wrp .i64 (A.zsub (A.len c) 1)))),.dead,.dead,.gro 1 k,.dead,.dead] rfl rfl rfl rfl rfl rfl rfl) ?_;refine zF ?_;cases soI b;exact oWi ⟨_,zR zy0 [0,1,5,6,7],rfl⟩
    replace b:=cF p b;rcases tf (A.zeq i (Int.ofNat 145)) with q | q
    ·replace b:=cT q b;rw [ifF hA (n:=145) q];obtain ⟨⟨c1,d1⟩,K,b⟩:=a0a b;refine zD (a0h.emb (args':=[.d (.agg []),zl 1 g,.d (.agg y),(.func 96 [] [.ptr 1 0,.ptr 2 0])]) (c1u hA K) [some 1,some 0,some 2,some 4,some 5,some 6] [(.map true (zz1) j),(.cells [(.map 0)]),.cells [.gref 4 41],(.arr 1 (A.spl (zz0) (A.zadd 0 (Int.ofNat 0)) m)),(.gro 41 (A.sub c 0 (A.wrp .i64 (A.zsub (A.len c) 1)))),.dead,.dead,.gro 1 k,.dead,.dead] rfl rfl rfl rfl rfl rfl rfl) ?_;refine zF ?_;cases soI b;exact oWi ⟨_,zR zy0 [0,1,5,6,7],rfl⟩
    replace b:=cF q b;cases b
   rintro _ rfl;refine nB ?_;exact nT ⟨_,(soI a).symm,_,zR zy7 [0,1,5,6,7],rfl⟩
  replace a:=cF u a;refine zU (AWp.exit (xT (xT ?_)));refine exL a ?_;rintro rfl;exact a7Z ⟨_,zR [some 6,some 7,some 8] [7],_,w,rfl⟩
 rintro _ ⟨s,w,rfl⟩;have h:=(b0 _ w);refine xB (nT (zs ?_));rcases tf (A.zlt 0 (A.len s)) with r | r
 ·replace h:=cT r h;refine AWp.weak (Wk.groArr 7 rfl rfl (neL hA r) (c3b hA)) ?_;refine zn ?_;obtain ⟨e1,L,h⟩:=a0a h;refine zD (c2M hA L) ?_;refine zF (nT (zs (zn ?_)));obtain ⟨⟨g1,i1,j1⟩,M,h⟩:=a0a h;refine zD (c2N hA M) ?_ { tk:=[46] };refine zF (nT ?_) { tk:=[46] };refine AWp.weak (Wk.ren [some 0] [4] rfl rfl) ?_;refine zr ?_;cases soI h;exact zq
 replace h:=cF r h;cases h

theorem c2O {A:Ar} (hA:SA A) {e:List D} {g:Int} {b:List D} {c:Int} (h:M19 A e g=some (b,c)):a0h Try.prog 19 [zl 1 e,zi g] [] (.tuple [zl 1 b,zi c]) []:=by
 unfold M19 at h;refine zI Try.func19 ?_;refine zs (zA (nT (zs (zn ?_))));obtain ⟨⟨z,p⟩,l,h⟩:=a0a h;refine zC (c1n hA l) ?_;refine zE (nT (zs (zs ?_)));refine zA (nT ?_);rcases tf (A.zeq p 0) with a | a
 ·replace h:=cT a h;refine zU (zk (nT (zs (zn ?_))));obtain ⟨q,m,h⟩:=a0a h;have r:=gcI m;obtain ⟨⟨v,w,y⟩,j,h⟩:=a0a h;refine zD (b9i hA j) ?_;refine zF (nT ?_);obtain ⟨u,k,h⟩:=a0a h;obtain ⟨n,o⟩:=fzI hA k;refine AWp.freeze (s:=4) (i:=0) rfl rfl n o ?_;refine zr ?_;cases soI h;exact zq
 replace h:=cF a h;refine zT (zs ?_);refine zB (nT (zr (rT ?_)));cases soI h;exact zq

theorem c1x {A:Ar} (hA:SA A) {c i:List D} {q:Int} {r:Bool} (h:b8X A c i=some (q,r)):a0h Try.prog 103 [zl 1 c,zl 1 i,(.func 98 [] [])] [] (.tuple [zi q,.d (.bool r)]) []:=by
 unfold b8X at h;refine zI Try.func103 ?_;refine zs (zA (nT (zs ?_)));refine zA (nT (zs ?_));refine zA (nT (zs (zb ?_)));obtain ⟨U,C,s,B,m⟩:=a0Q h;refine zM 0 [0,1,2,8,9] [] 0 (fun τ => ∃ g,s g=some (q,r)/\τ=⟨[(0,zl 1 c),(1,zl 1 i),(2,(.func 98 [] [])),(8,(.d (.int .i64 (A.len c)))),(9,zi g)],[],49⟩) ?_ ?_
 ·refine zP C [0,1,2,8,9,10] [] 0 (fun (o,p)=>⟨[(0,zl 1 c),(1,zl 1 i),(2,(.func 98 [] [])),(8,(.d (.int .i64 (A.len c)))),(9,zi o),(10,zi p)],[],49⟩) ⟨rfl,zc⟩ ?_;rintro ⟨o,p⟩ M a;dsimp only [a6t] at a;refine zs (zs (zA (nT ?_)));rcases tf (A.zlt o p) with j | j
  ·replace a:=cT j a;refine zT (zk (nT (zb (zs ?_))));obtain ⟨_,u,a⟩:=a0a a;have N:=nkI u;refine zB (nT (zs (zn ?_)));obtain ⟨K,v,a⟩:=a0a a;obtain ⟨O,P⟩:=gtI v;obtain ⟨E,w,a⟩:=a0a a;refine zD (c1w hA w) ?_;refine zF (nT ?_);obtain ⟨⟨F,G⟩,e,a⟩:=a0a a;refine zN [0,1,2,8,9,10] [] 0 (fun τ=>τ=⟨[(0,zl 1 c),(1,zl 1 i),(2,(.func 98 [] [])),(8,(.d (.int .i64 (A.len c)))),(9,zi F),(10,zi G)],[],49⟩) ?_ ?_
   ·rcases tf (A.zlt E 0) with k | k
    ·replace e:=cT k e;refine zT ?_;refine zB ?_;cases soI e;exact zO
    replace e:=cF k e;refine zU ?_;refine zB ?_;cases soI e;exact zO
   rintro _ rfl;refine nB ?_;exact nT ⟨_,(soI a).symm,rfl,zc⟩
  replace a:=cF j a;refine zU (AWp.exit (xT (xT ?_)));refine exL a ?_;rintro rfl;exact oxI ⟨rfl,_,m,zv⟩
 rintro _ ⟨g,m,rfl⟩;have h:=(B _ m);refine xB (nT (zs ?_));obtain ⟨J,b,h⟩:=a0a h;refine zN [6,7] [] 0 (fun τ=>τ=⟨[(6,zi g),(7,.d (.bool J))],[],49⟩) ?_ ?_
 ·refine zn ?_;rcases tf (A.zlt g (A.len c)) with l | l
  ·replace b:=cT l b;obtain ⟨L,y,b⟩:=a0a b;obtain ⟨Q,R⟩:=gtI y;obtain ⟨S,z,b⟩:=a0a b;refine zD (c1w hA z) ?_;refine zF ?_;cases soI b;exact zO
  replace b:=cF l b;refine zF ?_;cases soI b;exact zO
 rintro _ rfl;refine nT (zr ?_);cases soI h;exact zq

theorem c2s {A:Ar} (hA:SA A) {b c:List D} {a:Bool} (h:M59 A b c=some a):a0h Try.prog 59 [zl 1 b,zl 1 c] [] (.d (.bool a)) []:=by
 unfold M59 at h;refine zI Try.func59 ?_;refine zs (zA (nT (zs (zn ?_))));obtain ⟨⟨g,i⟩,e,h⟩:=a0a h;refine zC (c1x hA e) ?_ { tk:=[12] };refine zE (nT (zs ?_)) { tk:=[12] };refine zA (nT (zr ?_)) { tk:=[6,13] };cases soI h;exact zq

theorem c2t {A:Ar} (hA:SA A) {i:List D} {j:Int} {k:List D} {e:Bool} {g:Int} (h:M21 A i j k=some (e,g)):a0h Try.prog 21 [zl 1 i,zi j,zl 1 k] [] (.tuple [.d (.bool e),zi g]) []:=by
 unfold M21 at h;refine zI Try.func21 ?_;refine zs (zA (nT (zs (zn ?_))));obtain ⟨⟨p,c⟩,l,h⟩:=a0a h;refine zC (c2O hA l) ?_;refine zE (nT (zs ?_));obtain ⟨o,a,h⟩:=a0a h;refine zN [6,7] [] 0 (fun τ=>τ=⟨[(6,.d (.bool o)),(7,zi c)],[],24⟩) ?_ ?_
 ·refine zn ?_;rcases tf (A.zeq c 0) with b | b
  ·replace a:=cT b a;obtain ⟨q,m,a⟩:=a0a a;refine zD (c2s hA m) ?_;refine zF ?_;cases soI a;exact zO
  replace a:=cF b a;refine zF ?_;cases soI a;exact zO
 rintro _ rfl;refine nT (zr ?_);cases soI h;exact zq

theorem c2u {A:Ar} (hA:SA A) {g:Bool} (h:M18 A=some g):a0h Try.prog 18 [] [] (.d (.bool g)) []:=by
 unfold M18 at h;refine zI Try.func18 ?_;refine zs (zA (nT (zs ?_)));refine zA (nT (zs (zn ?_)));obtain ⟨⟨k,l⟩,i,h⟩:=a0a h;refine zC (c2t hA i) ?_;refine zE (nT (zs (zn ?_)));obtain ⟨⟨p,m⟩,j,h⟩:=a0a h;refine zC (c2t hA j) ?_;refine zE (nT (zs ?_));obtain ⟨o,a,h⟩:=a0a h;refine zN [0] [] 0 (fun τ=>τ=⟨[(0,.d (.bool o))],[],38⟩) ?_ ?_
 ·rcases tf (A.zeq l 0) with b | b
  ·replace a:=cT b a;rcases tf (A.zeq m 0) with c | c
   ·replace a:=cT c a;rcases tf k with e | e
    ·replace a:=cT e a;refine zB ?_ { tk:=[37] };cases soI a;exact zO
    replace a:=cF e a;refine zB ?_ { tk:=[37] };cases soI a;exact zO
   replace a:=cF c a;refine zB ?_ { tk:=[37] };cases soI a;exact zO
  replace a:=cF b a;refine zB ?_ { tk:=[37] };cases soI a;exact zO
 rintro _ rfl;refine nT (zr ?_);cases soI h;exact zq

theorem c1y {A:Ar} (hA:SA A) {e g:List D} {m:Int} (h:M30 A e g=some m):a0h Try.prog 30 [zl 1 e,zl 1 g] [] (zi m) []:=by
 unfold M30 at h;refine zI Try.func30 ?_;refine zs (zA (nT (zs (zs ?_))));refine zA (nT (zb ?_));obtain ⟨F,w,q,o,b⟩:=a0Q h;refine zM 0 [0,1] [] 0 (fun τ=>q (.inl ())=some m/\τ=⟨[(0,zl 1 e),(1,zl 1 g)],[],41⟩) ?_ ?_
 ·refine zP w [0,1,5] [] 0 (fun i=>⟨[(0,zl 1 e),(1,zl 1 g),(5,zi i)],[],41⟩) ⟨rfl,zc⟩ ?_;rintro i y a;dsimp only [a4f] at a;refine zs (zs ?_);obtain ⟨p,c,a⟩:=a0a a;refine zN [0,1,5,15] [] 0 (fun τ=>τ=⟨[(0,zl 1 e),(1,zl 1 g),(5,zi i),(15,.d (.bool p))],[],41⟩) ?_ ?_
  ·rcases tf (A.zlt i (A.len e)) with j | j
   ·replace c:=cT j c;refine zB ?_;cases soI c;exact zO
   replace c:=cF j c;refine zB ?_;cases soI c;exact zO
  rintro _ rfl;refine nT ?_;rcases tf p with k | k
  ·replace a:=cT k a;refine zT (zk (nT (zs (zb (zs ?_)))));obtain ⟨r,u,a⟩:=a0a a;obtain ⟨z,B⟩:=gtI u;obtain ⟨s,v,a⟩:=a0a a;obtain ⟨C,E⟩:=gtI v;refine zH ?_;refine nT ?_;rcases tf (A.zeq r s) with l | l
   ·replace a:=cT l a;refine zU (zk (nB (nT ?_)));refine zB ?_;exact nT ⟨_,(soI a).symm,rfl,zv⟩
   replace a:=cF l a;refine zT (zs ?_);refine zH ?_ { tk:=[35] };refine nT (zr (rB (rT (rT ?_))));refine exL a ?_;rintro rfl;refine oxR ?_;replace b:=(eR (o _ b));refine rB (rT ?_);cases soI b;exact zq
  replace a:=cF k a;refine zU (AWp.exit (xT (xT ?_)));refine exL a ?_;rintro rfl;exact oxI ⟨rfl,b,zv⟩
 rintro _ ⟨b,rfl⟩;have h:=(eL (o _ b));refine xB (nT (zs (zA (nT (zr ?_)) { tk:=[40] })));cases soI h;exact zq

theorem c2v {A:Ar} (hA:SA A) {c a:List D} {b:Bool} (h:M69 A c a=some b):a0h Try.prog 69 [zl 1 c,.ptr 1 0] [.dead,.cells [zl 1 a]] (.d (.bool b)) [.dead,.cells [zl 1 a]]:=by
 unfold M69 at h;refine zI Try.func69 ?_;refine zs (zA (nT (zs (zn ?_))));obtain ⟨g,e,h⟩:=a0a h;refine zC (c2s hA e) ?_ { tk:=[6] };refine zE (nT (zr ?_)) { tk:=[6] };cases soI h;exact zq

theorem c1z {A:Ar} (hA:SA A) {m c:Int} {e g:List D} {l:Int} (h:b8Y A m c e g=some l):a0h Try.prog 105 [.mref 2 1 m c,(.func 69 [] [.ptr 1 0])] [.dead,.cells [zl 1 e],(.arr 1 g)] (zi l) [.dead,.cells [zl 1 e],(.arr 1 g)]:=by
 unfold b8Y at h;refine zI Try.func105 ?_;refine zs (zA (nT (zs (zs ?_))));refine zA (nT (zb ?_));obtain ⟨F,v,p,o,b⟩:=a0Q h;refine zM 0 [] [] 3 (fun τ=>p (.inl ())=some l/\τ=⟨[],[.dead,.cells [zl 1 e],(.arr 1 g)],19⟩) ?_ ?_
 ·refine zP v [0,1,7,8] [] 3 (fun k=>⟨[(0,.mref 2 1 m c),(1,(.func 69 [] [.ptr 1 0])),(7,zi c),(8,zi k)],[.dead,.cells [zl 1 e],(.arr 1 g)],19⟩) ⟨rfl,zc⟩ ?_;rintro k z a;dsimp only [a8m] at a;refine zs (zA (nT (zs ?_)));rcases tf (A.zlt k c) with i | i
  ·replace a:=cT i a;refine zT (zk (nT (zs (zb (zs ?_)))));refine zB (nT (zs (zn ?_))) { tk:=[8,10] };obtain ⟨_,q,a⟩:=a0a a;have B:=ckI q;obtain ⟨_,r,a⟩:=a0a a;have C:=ckI r;obtain ⟨y,s,a⟩:=a0a a;have E:=gcI s;obtain ⟨w,u,a⟩:=a0a a;refine zD (c2v hA u) ?_;refine zF (nT ?_);rcases tf w with j | j
   ·replace a:=cT j a;refine zT (zs ?_);refine zB (nT (zr (rB (rT (rT ?_))))) { tk:=[5,17] };refine exL a ?_;rintro rfl;refine oxR ?_;replace b:=(eR (o _ b));refine rB (rT ?_);cases soI b;exact zq
   replace a:=cF j a;refine zU (zk (nB (nT ?_)));refine zB ?_ { tk:=[18] };exact nT ⟨_,(soI a).symm,rfl,zv⟩
  replace a:=cF i a;refine zU (AWp.exit (xT (xT ?_)));refine exL a ?_;rintro rfl;exact oxI ⟨rfl,b,zv⟩
 rintro _ ⟨b,rfl⟩;have h:=(eL (o _ b));refine xB (nT (zs (zA (nT (zr ?_)))));cases soI h;exact zq

theorem c2P {A:Ar} (hA:SA A) {g c:Int} {e w:List D} {q r:Int} {s:List D} (h:M68 A g c e w=some (q,r,s)):a0h Try.prog 68 [.mref 2 1 g c,(.func 69 [] [.ptr 1 0])] [.dead,.cells [zl 1 e],(.arr 1 w)] (.mref 2 1 q r) [.dead,.cells [zl 1 e],(.arr 1 s)]:=by
 unfold M68 at h;refine zI Try.func68 ?_;refine zs (zA (nT (zs (zn ?_))));obtain ⟨V,J,h⟩:=a0a h;refine zC (c1z hA J) ?_;refine zE (nT (zs (zs ?_)));refine zA (nT ?_);rcases tf (A.zeq V (-1)) with l | l
 ·replace h:=cT l h;refine zT (zs ?_);refine zB (nT (zr (rT ?_))) { tk:=[0,13] };cases soI h;exact zq
 replace h:=cF l h;refine zU (zk (nT (zs (zs ?_))));refine zB (nT (zb ?_));obtain ⟨r0,S,y,R,m⟩:=a0Q h;refine zM 0 [0,5] [] 3 (fun τ => ∃ o p,y (o,p)=some (q,r,s)/\τ=⟨[(0,.mref 2 1 g c),(5,zi o)],[.dead,.cells [zl 1 e],(.arr 1 p)],42⟩) ?_ ?_
 ·refine zP S [0,1,5,6] [] 3 (fun (u,i,v)=>⟨[(0,.mref 2 1 g c),(1,(.func 69 [] [.ptr 1 0])),(5,zi u),(6,zi i)],[.dead,.cells [zl 1 e],(.arr 1 v)],42⟩) ⟨rfl,zv⟩ ?_;rintro ⟨u,i,v⟩ c0 a;dsimp only [b1i] at a;refine zs (zs (zA (nT ?_)));rcases tf (A.zlt i c) with j | j
  ·replace a:=cT j a;refine zT (zk (nT (zs (zb (zs ?_)))));obtain ⟨_,z,a⟩:=a0a a;have d0:=ckI z;obtain ⟨_,B,a⟩:=a0a a;have e0:=ckI B;obtain ⟨Y,C,a⟩:=a0a a;have g0:=gcI C;refine zB (nT (zs (zn ?_))) { tk:=[25] };obtain ⟨U,E,a⟩:=a0a a;refine zD (c2v hA E) ?_;refine zF (nT ?_);obtain ⟨⟨W,X⟩,b,a⟩:=a0a a;refine zN [0,1,5,6] [] 3 (fun τ=>τ=⟨[(0,.mref 2 1 g c),(1,(.func 69 [] [.ptr 1 0])),(5,zi W),(6,zi i)],[.dead,.cells [zl 1 e],(.arr 1 X)],42⟩) ?_ ?_
   ·rcases tf U with k | k
    ·replace b:=cT k b;refine zU (zk ?_);cases soI b;exact zO
    replace b:=cF k b;refine zT (zs ?_);obtain ⟨_,F,b⟩:=a0a b;have i0:=ckI F;obtain ⟨_,G,b⟩:=a0a b;have j0:=ckI G;obtain ⟨a0,b0,b⟩:=a0a b;refine zB (nT ?_) { tk:=[7,32] };refine zB ?_;cases soI b;exact zO
   rintro _ rfl;refine nB (nT (zA ?_));exact nT ⟨_,(soI a).symm,rfl,zc⟩
  replace a:=cF j a;refine zU (AWp.exit (xT (xT ?_)));refine exL a ?_;rintro rfl;exact oxI ⟨rfl,_,_,m,zv⟩
 rintro _ ⟨o,p,m,rfl⟩;have h:=(R _ m);refine xB (nT (zs ?_));obtain ⟨_,K,h⟩:=a0a h;have k0:=ckI K;obtain ⟨_,L,h⟩:=a0a h;have l0:=ckI L;obtain ⟨_,M,h⟩:=a0a h;have m0:=ckI M;obtain ⟨_,N,h⟩:=a0a h;have n0:=ckI N;refine zB (nT (zs ?_));obtain ⟨_,O,h⟩:=a0a h;have o0:=ckI O;obtain ⟨_,P,h⟩:=a0a h;have p0:=ckI P;obtain ⟨_,Q,h⟩:=a0a h;have q0:=ckI Q;refine zB (nT (zr ?_)) { tk:=[41] };cases soI h;exact zq

theorem c2Q {A:Ar} (hA:SA A) {e:List D} {g j:Int} {b:List D} {c:Int} (h:M26 A e g j=some (b,c)):a0h Try.prog 26 [zl 1 e,zi g,zi j] [] (.tuple [zl 1 b,zi c]) []:=by
 unfold M26 at h;refine zI Try.func26 ?_;refine zs (zA (nT (zs (zn ?_))));obtain ⟨⟨U,B⟩,q,h⟩:=a0a h;refine zC (c1n hA q) ?_;refine zE (nT (zs (zs ?_)));refine zA (nT ?_);rcases tf (A.zeq B 0) with a | a
 ·replace h:=cT a h;refine zU (zk (nT (zs (zn ?_))));obtain ⟨E,r,h⟩:=a0a h;have F:=gcI r;obtain ⟨⟨K,L,M⟩,k,h⟩:=a0a h;refine zD (b9i hA k) ?_ { tk:=[26],esc:=[10] };obtain ⟨z,l,h⟩:=a0a h;obtain ⟨u,v⟩:=fzI hA l;refine a1h.freeze (s:=26) (i:=0) rfl rfl u v ?_;refine zF (nT (zs (zn ?_))) { tk:=[26],esc:=[10] };obtain ⟨C,m,h⟩:=a0a h;have G:=gcI m;obtain ⟨⟨N,O,P⟩,n,h⟩:=a0a h;refine zD (a0h.shift (b9i hA n) rfl rfl [.dead,.cells [zl 1 z]] rfl rfl rfl rfl) ?_;obtain ⟨⟨Q,R,S⟩,o,h⟩:=a0a h;refine zD (c2P hA o) ?_;refine zF (nT ?_);obtain ⟨J,p,h⟩:=a0a h;obtain ⟨w,y⟩:=fzI hA p;refine AWp.freeze (s:=6) (i:=2) rfl rfl w y ?_;refine zr ?_;cases soI h;exact zq
 replace h:=cF a h;refine zT (zs ?_);refine zB (nT (zr (rT ?_)));cases soI h;exact zq

theorem c2R {A:Ar} (hA:SA A) {i:List D} {e:Bool} {g:Int} (h:M32 A i=some (e,g)):a0h Try.prog 32 [zl 1 i] [] (.tuple [.d (.bool e),zi g]) []:=by
 unfold M32 at h;refine zI Try.func32 ?_;refine zs (zA (nT (zs (zn ?_))));obtain ⟨⟨l,c⟩,j,h⟩:=a0a h;refine zC (c2Q hA j) ?_;refine zE (nT (zs ?_));obtain ⟨k,a,h⟩:=a0a h;refine zN [2,3] [] 0 (fun τ=>τ=⟨[(2,.d (.bool k)),(3,zi c)],[],19⟩) ?_ ?_
 ·rcases tf (A.zeq c 0) with b | b
  ·replace a:=cT b a;refine zB ?_;cases soI a;exact zO
  replace a:=cF b a;refine zB ?_;cases soI a;exact zO
 rintro _ rfl;refine nT (zr ?_);cases soI h;exact zq

theorem c2S {A:Ar} (hA:SA A) {c e:List D} {l:Bool} (h:M25 A c e=some l):a0h Try.prog 25 [zl 1 c,zl 1 e] [] (.d (.bool l)) []:=by
 unfold M25 at h;refine zI Try.func25 ?_;refine zs (zA (nT (zs (zs ?_))));refine zA (nT ?_);rcases tf (A.zeq (A.len c) (A.len e)) with j | j
 ·replace h:=cT j h;refine zU (zk (nT (zs (zs ?_))));refine zB (nT (zb ?_));obtain ⟨F,s,o,m,b⟩:=a0Q h;refine zM 0 [] [] 0 (fun τ=>o (.inl ())=some l/\τ=⟨[],[],27⟩) ?_ ?_
  ·refine zP s [0,1,5] [] 0 (fun k=>⟨[(0,zl 1 c),(1,zl 1 e),(5,zi k)],[],27⟩) ⟨rfl,zv⟩ ?_;rintro k y a;dsimp only [b2i] at a;refine zs (zs (zA (nT ?_)));rcases tf (A.zlt k (A.len c)) with g | g
   ·replace a:=cT g a;refine zT (zk (nT (zs (zb (zs ?_)))));refine zQ ?_;obtain ⟨v,p,a⟩:=a0a a;obtain ⟨z,B⟩:=gtI p;obtain ⟨w,q,a⟩:=a0a a;obtain ⟨C,E⟩:=gtI q;obtain ⟨u,r,a⟩:=a0a a;refine a1N.c0 hT hA {} rfl zu (c1y hA r) rfl rfl (lb rfl) rfl rfl ?_;refine zJ ?_;refine nT ?_;rcases tf (A.zeq u 0) with i | i
    ·replace a:=cT i a;refine zU (zk (nB (nT ?_)));refine zB ?_;exact nT ⟨_,(soI a).symm,rfl,zv⟩
    replace a:=cF i a;refine zT (zs ?_);refine zB (nT (zr (rB (rT (rT ?_)))));refine exL a ?_;rintro rfl;refine oxR ?_;replace b:=(eR (m _ b));refine rB (rT ?_);cases soI b;exact zq
   replace a:=cF g a;refine zU (AWp.exit (xT (xT ?_)));refine exL a ?_;rintro rfl;exact oxI ⟨rfl,b,zv⟩
  rintro _ ⟨b,rfl⟩;have h:=(eL (m _ b));refine xB (nT (zs (zA (nT (zr ?_)))));cases soI h;exact zq
 replace h:=cF j h;refine zT (zs ?_);refine zB (nT (zr (rT ?_)));cases soI h;exact zq

theorem b9j {A:Ar} (hA:SA A) {b R:Int} {C:List D} {p E F G:Int} {j J m:List D} {c0:Bool} (h:b5X A b R C p E F G j J m=some c0):a0h Try.prog 120 [.ptr 0 0,zi b,zi R] (zW C p E F G j J m []) (.d (.bool c0)) (zW C p E F G j J m []):=by
 unfold b5X at h;refine zI Try.func120 ?_;refine zs (zA (nT (zs ?_)));obtain ⟨a2,u0,h⟩:=a0a h;obtain ⟨j1,k1⟩:=gtI u0;obtain ⟨⟨N,U,V⟩,w0,h⟩:=a0a h;obtain ⟨l1,m1⟩:=gtI w0;refine zA ?_ { tk:=[20] } (h:=(by (repeat (cbv;simp only [j1,k1,l1,m1]));try cbv))
 refine nT (zs (zs ?_));obtain ⟨l0,y0,h⟩:=a0a h;obtain ⟨W,X⟩:=gtI y0;have n1:=a2V hA W X;have o1:=a1f hA b;refine AWp.weak (Wk.openGA hA 1 b (k:=1) (l:=j) (y:=l0) rfl W X) ?_;obtain ⟨_,z0,h⟩:=a0a h;have p1:=ckI z0;obtain ⟨_,a1,h⟩:=a0a h;have q1:=ckI a1;obtain ⟨n0,b1,h⟩:=a0a h;have r1:=gcI b1;refine zA ?_ (h:=(by (repeat (cbv;simp only [W,X,n1,o1,p1,q1,r1]));try cbv))
 refine nT ?_;refine AWp.weak (Wk.shutSA hA 1 (q:=10) (k:=1) (z:=b) (l:=j) (y:=l0) rfl rfl W X) ?_;rcases tf n0 with v | v
 ·replace h:=cT v h;refine zT ?_ (hb:=(by first | rfl | simp only [v,zqa,zqb,zqc,zqd]))
  refine zs ?_;refine zA ?_ (h:=(by (repeat (cbv;simp only [v]));try cbv))
  refine nT ?_;refine AWp.weak (Wk.ren zy6 [6] rfl rfl) ?_;refine zr (rT ?_);cases soI h;exact zq
 replace h:=cF v h;refine zU ?_ (hb:=(by first | rfl | simp only [v,zqa,zqb,zqc,zqd]))
 refine zk (nT (zs (zs ?_)));refine zA ?_ (h:=(by (repeat (cbv;simp only [v]));try cbv))
 refine nT (zb ?_);refine AWp.weak (Wk.ren zy6 [0,1,2,7,8] rfl rfl) ?_;obtain ⟨i2,y1,m0,i0,Q⟩:=a0Q h;refine AWp.cutXW 0 (fun τ=>m0 (.inl ())=some c0/\τ=⟨[(0,.ptr 0 0),(1,zi b),(7,(.lbox [zi N,zi U,zi V]))],(zW C p E F G j J m []),103⟩) ?_ ?_
 ·refine AWp.iterW y1 (fun S=>⟨[(0,.ptr 0 0),(1,zi b),(2,zi R),(7,(.lbox [zi N,zi U,zi V])),(8,zi S)],(zW C p E F G j J m []),103⟩) ⟨_,zR zy6 [0,1,2,7,8] (h:=(by first | (cbv;done) | ((repeat (cbv;simp only [v]));try cbv))),rfl⟩ ?_
  rintro S g2 a;dsimp only [a6v] at a;refine zs (zs (zA (nT ?_)));rcases tf (A.zlt S R) with e | e
  ·replace a:=cT e a;refine zT ?_ (hb:=(by first | rfl | simp only [e,zqa,zqb,zqc,zqd]))
   refine zk (nT (zs (zb (zs ?_))));obtain ⟨c2,c1,a⟩:=a0a a;obtain ⟨s1,u1⟩:=gtI c1;obtain ⟨⟨o0,d2,e2⟩,d1,a⟩:=a0a a;obtain ⟨v1,w1⟩:=gtI d1;refine zA ?_ { tk:=[45] } (h:=(by (repeat (cbv;simp only [e,s1,u1,v1,w1]));try cbv))
   refine nT (zs ?_);obtain ⟨k0,c,a⟩:=a0a a;refine AWp.cutW (fun τ=>τ=⟨[(0,.ptr 0 0),(1,zi b),(2,zi R),(7,(.lbox [zi N,zi U,zi V])),(8,zi S),(10,.d (.bool k0))],(zW C p E F G j J m []),103⟩) ?_ ?_
   ·rcases tf (A.zeq p 3) with o | o
    ·replace c:=cT o c;rcases tf (A.zeq N 3) with s | s
     ·replace c:=cT s c;refine zA ?_ (h:=(by (repeat (cbv;simp only [e,o,s]));try cbv))
      cases soI c;exact oWi ⟨_,(zR zy6 [0,1,2,7,8,10] (h:=(by first | (cbv;done) | ((repeat (cbv;simp only [e,o,s]));try cbv)))),rfl⟩
     replace c:=cF s c;rcases tf (A.zeq o0 3) with M | M
     ·replace c:=cT M c;refine zA ?_ (h:=(by (repeat (cbv;simp only [e,o,s,M]));try cbv))
      cases soI c;exact oWi ⟨_,(zR zy6 [0,1,2,7,8,10] (h:=(by first | (cbv;done) | ((repeat (cbv;simp only [e,o,s,M]));try cbv)))),rfl⟩
     replace c:=cF M c;refine zA ?_ (h:=(by (repeat (cbv;simp only [e,o,s,M]));try cbv))
     cases soI c;exact oWi ⟨_,(zR zy6 [0,1,2,7,8,10] (h:=(by first | (cbv;done) | ((repeat (cbv;simp only [e,o,s,M]));try cbv)))),rfl⟩
    replace c:=cF o c;refine zA ?_ (h:=(by (repeat (cbv;simp only [e,o]));try cbv))
    cases soI c;exact oWi ⟨_,(zR zy6 [0,1,2,7,8,10] (h:=(by first | (cbv;done) | ((repeat (cbv;simp only [e,o]));try cbv)))),rfl⟩
   rintro _ rfl;refine nT (zs ?_);obtain ⟨j0,g,a⟩:=a0a a;refine AWp.cutW (fun τ=>τ=⟨[(0,.ptr 0 0),(1,zi b),(2,zi R),(7,(.lbox [zi N,zi U,zi V])),(8,zi S),(81,.d (.bool j0))],(zW C p E F G j J m []),103⟩) ?_ ?_
   ·obtain ⟨d0,p0,g⟩:=a0a g;obtain ⟨O,P⟩:=gtI p0;have e0:=a2V hA O P;have g0:=a1f hA b;refine AWp.weak (Wk.openGA hA 1 b (k:=1) (l:=j) (y:=d0) rfl O P) ?_;rcases tf k0 with K | K
    ·replace g:=cT K g;obtain ⟨_,q0,g⟩:=a0a g;have e1:=ckI q0;obtain ⟨_,r0,g⟩:=a0a g;have g1:=ckI r0;obtain ⟨b2,s0,g⟩:=a0a g;have i1:=gcI s0;refine zA ?_ (h:=(by (repeat (cbv;simp only [K,O,P,e0,g0,e1,g1,i1]));try cbv))
     cases soI g;exact oWi ⟨_,(Wk.trans (Wk.shutSA hA 1 (q:=10) (k:=1) (z:=b) (l:=j) (y:=d0) rfl rfl O P) (zR zy6 [0,1,2,7,8,81] (h:=(by first | (cbv;done) | ((repeat (cbv;simp only [K]));try cbv))))),rfl⟩
    replace g:=cF K g;refine zA ?_ (h:=(by (repeat (cbv;simp only [K,O,P,e0,g0]));try cbv))
    cases soI g;exact oWi ⟨_,(Wk.trans (Wk.shutSA hA 1 (q:=10) (k:=1) (z:=b) (l:=j) (y:=d0) rfl rfl O P) (zR zy6 [0,1,2,7,8,81] (h:=(by first | (cbv;done) | ((repeat (cbv;simp only [K]));try cbv))))),rfl⟩
   rintro _ rfl;refine nT ?_;rcases tf j0 with u | u
   ·replace a:=cT u a;refine zT ?_ (hb:=(by first | rfl | simp only [u,zqa,zqb,zqc,zqd]))
    refine zs ?_;refine zA ?_ (h:=(by (repeat (cbv;simp only [u]));try cbv))
    refine nT (zr (rB (rT (rT ?_))));refine exL a ?_;rintro rfl;refine c3p ?_;replace Q:=(eR (i0 _ Q));refine rB (rT ?_);cases soI Q;exact zq
   replace a:=cF u a;refine zU ?_ (hb:=(by first | rfl | simp only [u,zqa,zqb,zqc,zqd]))
   refine zk (nB (nT ?_));refine zA ?_ (h:=(by (repeat (cbv;simp only [u]));try cbv))
   exact nT ⟨_,(soI a).symm,_,(zR zy6 [0,1,2,7,8] (h:=(by first | (cbv;done) | ((repeat (cbv;simp only [u]));try cbv)))),rfl⟩
  replace a:=cF e a;refine zU ?_ (hb:=(by first | rfl | simp only [e,zqa,zqb,zqc,zqd]))
  refine AWp.exit (xT (xT ?_));refine exL a ?_;rintro rfl;exact a7Z ⟨_,(zR zy6 [0,1,7] (h:=(by first | (cbv;done) | ((repeat (cbv;simp only [e]));try cbv)))),Q,rfl⟩
 rintro _ ⟨Q,rfl⟩;have h:=(eL (i0 _ Q));refine xB (nT (zs ?_));obtain ⟨z1,i,h⟩:=a0a h;refine AWp.cutW (fun τ=>τ=⟨[(6,.d (.bool z1))],(zW C p E F G j J m []),103⟩) ?_ ?_
 ·obtain ⟨Y,v0,i⟩:=a0a i;obtain ⟨w,B⟩:=gtI v0;have a0:=a2V hA w B;have b0:=a1f hA b;refine AWp.weak (Wk.openGA hA 7 b (k:=2) (l:=m) (y:=Y) rfl w B) ?_;rcases tf (A.zeq p 2) with r | r
  ·replace i:=cT r i;rcases tf (A.zeq N 3) with L | L
   ·replace i:=cT L i;refine zA ?_ { tk:=[102] } (h:=(by (repeat (cbv;simp only [r,L,w,B,a0,b0]));try cbv))
    cases soI i;exact oWi ⟨_,(Wk.trans (Wk.shutSA hA 7 (q:=10) (k:=2) (z:=b) (l:=m) (y:=Y) rfl rfl w B) (zR zy6 [6] (h:=(by first | (cbv;done) | ((repeat (cbv;simp only [r,L]));try cbv))))),rfl⟩
   replace i:=cF L i;refine zA ?_ { tk:=[102] } (h:=(by (repeat (cbv;simp only [r,L,w,B,a0,b0]));try cbv))
   cases soI i;exact oWi ⟨_,(Wk.trans (Wk.shutSA hA 7 (q:=10) (k:=2) (z:=b) (l:=m) (y:=Y) rfl rfl w B) (zR zy6 [6] (h:=(by first | (cbv;done) | ((repeat (cbv;simp only [r,L]));try cbv))))),rfl⟩
  replace i:=cF r i;refine zA ?_ { tk:=[102] } (h:=(by (repeat (cbv;simp only [r,w,B,a0,b0]));try cbv))
  cases soI i;exact oWi ⟨_,(Wk.trans (Wk.shutSA hA 7 (q:=10) (k:=2) (z:=b) (l:=m) (y:=Y) rfl rfl w B) (zR zy6 [6] (h:=(by first | (cbv;done) | ((repeat (cbv;simp only [r]));try cbv))))),rfl⟩
 rintro _ rfl;refine nT (zr ?_);cases soI h;exact zq

theorem b6U {A:Ar} (hA:SA A) {g:List D} {j m o p:Int} {x6 r x8 U V:List D} (h:b5Y A g j m o p x6 r x8=some (U,V)):a0h Try.prog 119 [.ptr 0 0] (zW g j m o p x6 r x8 []) (.tuple []) (zW g j m o p U r V []):=by
 unfold b5Y at h;refine zI Try.func119 ?_;refine zs (zA (nT (zb ?_)));obtain ⟨b2,b1,g0,z0,O⟩:=a0Q h;refine AWp.cutXW 0 (fun τ => ∃ R S,g0 (R,S)=some (U,V)/\τ=⟨[],(zW g j m o p R r S []),90⟩) ?_ ?_
 ·refine AWp.iterW b1 (fun (c,b0,c0)=>⟨[(0,.ptr 0 0),(2,zi c)],(zW g j m o p b0 r c0 []),90⟩) ⟨_,zR zy6 [0,2],rfl⟩ ?_;rintro ⟨c,b0,c0⟩ v0 s;dsimp only [a6w] at s;refine zs (zs (zA (nT ?_)));rcases tf (A.zlt c (A.len g)) with C | C
  ·replace s:=cT C s;refine zT (zk (nT (zs (zb (zs ?_)))));refine zB (nT (zb ?_));obtain ⟨a2,a1,e0,y0,N⟩:=a0Q s;refine AWp.cutXW 2 (fun τ => ∃ P Q,e0 (P,Q)=some v0/\τ=⟨[(0,.ptr 0 0),(2,zi c)],(zW g j m o p P r Q []),90⟩) ?_ ?_
   ·refine AWp.iterW a1 (fun (u,v,B)=>⟨[(0,.ptr 0 0),(2,zi c),(3,zi u)],(zW g j m o p v r B []),90⟩) ⟨_,zR zy6 [0,2,3],rfl⟩ ?_;rintro ⟨u,v,B⟩ k1 e;dsimp only [a5m] at e;refine zs (zs ?_);obtain ⟨i0,l0,e⟩:=a0a e;obtain ⟨l1,m1⟩:=gtI l0;refine zB (nT ?_);rcases tf (A.zlt u (A.len i0)) with E | E
    ·replace e:=cT E e;refine zT (zk (nT (zs ?_)));obtain ⟨⟨e1,g1⟩,a,e⟩:=a0a e;refine AWp.cutW (fun τ=>τ=⟨[(0,.ptr 0 0),(2,zi c),(3,zi u)],(zW g j m o p e1 r g1 []),90⟩) ?_ ?_
     ·refine zb (zs ?_);obtain ⟨⟨w,j0,k0⟩,m0,a⟩:=a0a a;obtain ⟨n1,o1⟩:=gtI m0;refine zB (nT (zs (zs ?_))) { tk:=[35] };obtain ⟨d0,b,a⟩:=a0a a;refine AWp.cutW (fun τ=>τ=⟨[(0,.ptr 0 0),(2,zi c),(3,zi u),(4,(.lbox [zi w,zi j0,zi k0])),(57,.d (.bool d0))],(zW g j m o p v r B []),90⟩) ?_ ?_
      ·refine zn ?_;obtain ⟨c1,n0,b⟩:=a0a b;refine zD (b9j hA n0) ?_;rcases tf c1 with F | F
       ·replace b:=cT F b;rcases tf (A.zeq w 1) with G | G
        ·replace b:=cT G b;refine zF ?_;cases soI b;exact oWi ⟨_,zR zy6 [0,2,3,4,57],rfl⟩
        replace b:=cF G b;rcases tf (A.zeq w 2) with J | J
        ·replace b:=cT J b;refine zF ?_;cases soI b;exact oWi ⟨_,zR zy6 [0,2,3,4,57],rfl⟩
        replace b:=cF J b;refine zF ?_;cases soI b;exact oWi ⟨_,zR zy6 [0,2,3,4,57],rfl⟩
       replace b:=cF F b;refine zF ?_;cases soI b;exact oWi ⟨_,zR zy6 [0,2,3,4,57],rfl⟩
      rintro _ rfl;refine nT ?_;rcases tf d0 with K | K
      ·replace a:=cT K a;refine zT (AWp.exit (xT (xB ?_)));cases soI a;exact oWi ⟨_,zR zy6 [0,2,3],rfl⟩
      replace a:=cF K a;refine zU (zk (nT (zs ?_)));obtain ⟨W,o0,a⟩:=a0a a;obtain ⟨M,X⟩:=gtI o0;have w0:=a2V hA M X;have p1:=a1f hA c;refine AWp.weak (Wk.openGA hA 1 c (k:=1) (l:=v) (y:=W) rfl M X) ?_;obtain ⟨_,p0,a⟩:=a0a a;have q1:=ckI p0;obtain ⟨_,q0,a⟩:=a0a a;have r1:=ckI q0;obtain ⟨j1,r0,a⟩:=a0a a;have s1:=gcI r0;refine zB (nT ?_);refine AWp.weak (Wk.shutGA hA 1 (q:=10) (k:=1) (z:=c) (l:=v) (y:=(A.lset W (A.nat u) (.bool true))) rfl rfl M w0) ?_;refine zs (zB (nT ?_));obtain ⟨d1,i,a⟩:=a0a a;refine AWp.cutW (fun τ=>τ=⟨[(0,.ptr 0 0),(2,zi c),(3,zi u)],[.cells [zl 1 g,zi j,.gref 1 1,.gref 4 1,.gref 7 1,zi m,zi o,zi p],(.jag 1 (A.lset v (A.nat c) (.list 1 (A.lset W (A.nat u) (.bool true)))) none),.dead,.dead,(.jag 1 r none),.dead,.dead,(.jag 2 d1 none),.dead,.dead],90⟩) ?_ ?_
      ·rcases tf (A.zeq w 2) with L | L
       ·replace i:=cT L i;refine zT ?_;obtain ⟨i1,s0,i⟩:=a0a i;obtain ⟨Y,a0⟩:=gtI s0;have u1:=a2V hA Y a0;have v1:=a1f hA c;refine AWp.weak (Wk.openGA hA 7 c (k:=2) (l:=B) (y:=i1) rfl Y a0) ?_;obtain ⟨z1,u0,i⟩:=a0a i;obtain ⟨w1,y1⟩:=apI u0;refine zH ?_ { tk:=[81,88] };cases soI i;exact oWi ⟨_,zR zy6 [0,2,3],rfl⟩
       replace i:=cF L i;refine zU (zk ?_);cases soI i;exact oWi ⟨_,zR zy6 [0,2,3],rfl⟩
      rintro _ rfl;refine nB ?_;cases soI a;exact oWi ⟨_,zR zy6 [0,2,3],rfl⟩
     rintro _ rfl;refine nT (zA ?_);exact nT ⟨_,(soI e).symm,_,zR zy6 [0,2,3],rfl⟩
    replace e:=cF E e;refine zU (AWp.exit (xT (xT ?_)));refine exL e ?_;rintro rfl;exact a7Z ⟨_,zR zy6 [0,2],_,_,N,rfl⟩
   rintro _ ⟨P,Q,N,rfl⟩;have s:=(y0 _ N);refine xB (nB (nT (zA ?_)));exact nT ⟨_,(soI s).symm,_,zR zy6 [0,2],rfl⟩
  replace s:=cF C s;refine zU (AWp.exit (xT (xT ?_)));refine exL s ?_;rintro rfl;exact a7Z ⟨_,zR zy6 [],_,_,O,rfl⟩
 rintro _ ⟨R,S,O,rfl⟩;have h:=(z0 _ O);refine xB ?_;cases soI h;exact zq
end Go.Am
