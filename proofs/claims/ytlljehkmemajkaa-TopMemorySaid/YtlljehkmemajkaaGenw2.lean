import Derived.Test.YtlljehkmemajkaaGenw1
set_option maxRecDepth 100000
set_option maxHeartbeats 2000000
set_option linter.unusedVariables false
set_option linter.unusedSimpArgs false
namespace Go.Am
open Go Go.Proofs
theorem b7o {A:Ar} (hA:SA A) {b:Int} {a:Bool} (h:b6R A b=some a):a0j Try.prog 138 [zi b] [] (.d (.bool a)) []:=by
 unfold b6R at h;refine zI Try.func138 ?_;refine zs (zA (nT (zs ?_)));refine zA (nT (zr ?_)) { tk:=[5] };cases soI h;exact zq

theorem b9t {A:Ar} (hA:SA A) {a b l:Int} (h:b7d A a b=some l):a0j Try.prog 118 [zi a,zi b] [] (zi l) []:=by
 unfold b7d at h;refine zI Try.func118 ?_;refine zs (zA (nT (zs (zn ?_))));obtain ⟨o,m,h⟩:=a0a h;refine zC (b7o hA m) ?_;refine zE (nT (zs (zn ?_)));obtain ⟨k,n,h⟩:=a0a h;refine zC (b7o hA n) ?_;refine zE (nT (zs (zs ?_)));refine zA (nT ?_);rcases tf o with g | g
 ·replace h:=cT g h;refine zT (zs (zs ?_));refine zB (nT ?_);rcases tf k with i | i
  ·replace h:=cT i h;refine zT (zs ?_);refine zB (nT (zr (rT (rT ?_))));cases soI h;exact zq
  replace h:=cF i h;refine zU (zk (nT (zs ?_)));refine zB (nT (zr (rT ?_)));cases soI h;exact zq
 replace h:=cF g h;refine zU (zk (nT (zs (zs ?_))));refine zB (nT ?_);rcases tf k with j | j
 ·replace h:=cT j h;refine zT (zs ?_);refine zB (nT (zr (rT ?_)));cases soI h;exact zq
 replace h:=cF j h;refine zU (zk (nT (zs (zs ?_))));refine zB (nT ?_);rcases tf (A.zlt a b) with c | c
 ·replace h:=cT c h;refine zT (zs ?_);refine zB (nT (zr (rT ?_)));cases soI h;exact zq
 replace h:=cF c h;refine zU (zk (nT (zs (zs ?_))));refine zB (nT ?_);rcases tf (A.zlt b a) with e | e
 ·replace h:=cT e h;refine zT (zs ?_);refine zB (nT (zr (rT ?_)));cases soI h;exact zq
 replace h:=cF e h;refine zU (zk (nT (zs ?_)));refine zB (nT (zr ?_));cases soI h;exact zq

theorem b9u {A:Ar} (hA:SA A) {c e:List D} {o:Int} (h:M98 A c e=some o):a0j Try.prog 98 [zl 1 c,zl 1 e] [] (zi o) []:=by
 unfold M98 at h;refine zI Try.func98 ?_;refine zs (zA (nT (zs (zs ?_))));refine zA (nT (zb ?_));obtain ⟨G,u,p,m,b⟩:=a0Q h;refine zM 0 [0,1] [] 0 (fun τ=>p (.inl ())=some o/\τ=⟨[(0,zl 1 c),(1,zl 1 e)],[],36⟩) ?_ ?_
 ·refine zP u [0,1,9,10,11] [] 0 (fun g=>⟨[(0,zl 1 c),(1,zl 1 e),(9,zl 1 c),(10,(.d (.int .i64 (A.len c)))),(11,zi g)],[],36⟩) ⟨rfl,zc⟩ ?_;rintro g z a;dsimp only [a8G] at a;refine zs (zA (nT (zs ?_)));rcases tf (A.zlt g (A.len c)) with i | i
  ·replace a:=cT i a;refine zT (zk (nT (zs (zb (zs ?_)))));obtain ⟨w,q,a⟩:=a0a a;obtain ⟨B,C⟩:=gtI q;refine zB (nT (zs (zs ?_)));refine zB (nT ?_);rcases tf (A.zle (A.len e) g) with j | j
   ·replace a:=cT j a;refine zT (zs ?_);refine zB (nT (zr (rT (rB (rT (rT ?_))))));refine exL a ?_;rintro rfl;refine oxR ?_;replace b:=(eR (m _ b));refine rB (rT ?_);cases soI b;exact zq
   replace a:=cF j a;refine zU (zk (nT (zs ?_)));obtain ⟨y,r,a⟩:=a0a a;obtain ⟨E,F⟩:=gtI r;refine zB (nT (zs (zn ?_)));obtain ⟨v,s,a⟩:=a0a a;refine zD (b9t hA s) ?_ { tk:=[26] };refine zF (nT (zs ?_)) { tk:=[26] };refine zB (nT ?_);rcases tf (A.zeq v 0) with k | k
   ·replace a:=cT k a;refine zU (zk (nB (nT ?_)));refine zB ?_;exact nT ⟨_,(soI a).symm,rfl,zv⟩
   replace a:=cF k a;refine zT (zs ?_);refine zB (nT (zr (rB (rT (rT ?_))))) { tk:=[8,29] };refine exL a ?_;rintro rfl;refine oxR ?_;replace b:=(eR (m _ b));refine rB (rT ?_);cases soI b;exact zq
  replace a:=cF i a;refine zU (AWp.exit (xT (xT ?_)));refine exL a ?_;rintro rfl;exact oxI ⟨rfl,b,zv⟩
 rintro _ ⟨b,rfl⟩;have h:=(eL (m _ b));refine xB (nT (zs (zs (zA (nT ?_)))));rcases tf (A.zlt (A.len c) (A.len e)) with l | l
 ·replace h:=cT l h;refine zT (zs ?_);refine zB (nT (zr (rT ?_)));cases soI h;exact zq
 replace h:=cF l h;refine zU (zk (nT (zs ?_)));refine zB (nT (zr ?_));cases soI h;exact zq

theorem c0N {A:Ar} (hA:SA A) {a b:Int} {d r:List D} (h:M97 A a b d=some r):a0j Try.prog 97 [.mref 0 1 a b,(.func 98 [] [])] [(.arr 1 d)] (.tuple []) [(.arr 1 r)] :=
 a0j.sortOne Try.sort97 rfl (c:=(cL 1)) (fun _=>rfl) (g:=98) (caps:=[]) rfl (fun _ _ _ h=>b9u hA h) rfl rfl h (i:=0) rfl rfl

theorem b5F {A:Ar} (hA:SA A) {c e:List D} {l:Bool} (h:b5C A c e=some l):a0j Try.prog 100 [zl 1 c,zl 1 e] [] (.d (.bool l)) []:=by
 unfold b5C at h;refine zI Try.func100 ?_;refine zs (zA (nT (zs (zs ?_))));refine zA (nT ?_);rcases tf (A.zeq (A.len c) (A.len e)) with j | j
 ·replace h:=cT j h;refine zU (zk (nT (zs (zs ?_))));refine zB (nT (zb ?_));obtain ⟨C,u,o,m,b⟩:=a0Q h;refine zM 0 [] [] 0 (fun τ=>o (.inl ())=some l/\τ=⟨[],[],26⟩) ?_ ?_
  ·refine zP u [0,1,12,13] [] 0 (fun k=>⟨[(0,zl 1 c),(1,zl 1 e),(12,(.d (.int .i64 (A.len c)))),(13,zi k)],[],26⟩) ⟨rfl,zv⟩ ?_;rintro k v a;dsimp only [a7w] at a;refine zs (zA (nT (zs ?_)));rcases tf (A.zlt k (A.len c)) with g | g
   ·replace a:=cT g a;refine zT (zk (nT (zs (zb (zs ?_)))));refine zB (nT (zs ?_));obtain ⟨p,r,a⟩:=a0a a;obtain ⟨w,y⟩:=gtI r;obtain ⟨q,s,a⟩:=a0a a;obtain ⟨z,B⟩:=gtI s;refine zH ?_;refine nT ?_;rcases tf (A.zeq p q) with i | i
    ·replace a:=cT i a;refine zU (zk (nB (nT ?_)));refine zB ?_;exact nT ⟨_,(soI a).symm,rfl,zv⟩
    replace a:=cF i a;refine zT (zs ?_);refine zB (nT (zr (rB (rT (rT ?_)))));refine exL a ?_;rintro rfl;refine oxR ?_;replace b:=(eR (m _ b));refine rB (rT ?_);cases soI b;exact zq
   replace a:=cF g a;refine zU (AWp.exit (xT (xT ?_)));refine exL a ?_;rintro rfl;exact oxI ⟨rfl,b,zv⟩
  rintro _ ⟨b,rfl⟩;have h:=(eL (m _ b));refine xB (nT (zs (zA (nT (zr ?_)))));cases soI h;exact zq
 replace h:=cF j h;refine zT (zs ?_);refine zB (nT (zr (rT ?_)));cases soI h;exact zq

theorem c0O {A:Ar} (hA:SA A) {m j:Int} {s:List D} {y z:Int} {B:List D} (h:M99 A m j s=some (y,z,B)):a0j Try.prog 99 [.mref 0 1 m j,(.func 100 [] [])] [(.arr 1 s)] (.mref 0 1 y z) [(.arr 1 B)]:=by
 unfold M99 at h;refine zI Try.func99 ?_;refine zs (zA (nT (zs (zs ?_))));refine zA (nT ?_);rcases tf (A.zlt j 2) with o | o
 ·replace h:=cT o h;refine zT ?_ (hb:=(by first | rfl | simp only [o,zqa,zqb,zqc,zqd]))
  refine zs ?_;refine zA ?_ { tk:=[0,11] } (h:=(by (repeat (cbv;simp only [o]));try cbv))
  refine nT (zr (rT ?_));cases soI h;exact zq
 replace h:=cF o h;refine zU ?_ (hb:=(by first | rfl | simp only [o,zqa,zqb,zqc,zqd]))
 refine zk (nT (zs (zs ?_)));refine zA ?_ (h:=(by (repeat (cbv;simp only [o]));try cbv))
 refine nT (zb ?_);obtain ⟨s2,d2,W,R,q⟩:=a0Q h;refine zM 0 [0] [] 1 (fun τ=>W (.inl ())=some (y,z,B)/\τ=⟨[(0,.mref 0 1 m j)],[(.arr 1 s)],66⟩) ?_ ?_
 ·refine zP d2 [0,1,5] [] 1 (fun p=>⟨[(0,.mref 0 1 m j),(1,(.func 100 [] [])),(5,zi p)],[(.arr 1 s)],66⟩) ⟨rfl,(by first | (cbv;done) | ((repeat (cbv;simp only [o]));try cbv))⟩ ?_
  rintro p j1 a;dsimp only [b0t] at a;refine zs (zs (zA (nT ?_)));rcases tf (A.zlt p j) with e | e
  ·replace a:=cT e a;refine zT ?_ (hb:=(by first | rfl | simp only [e,zqa,zqb,zqc,zqd]))
   refine zk (nT (zs (zb (zs ?_))));refine zQ ?_;obtain ⟨_,X,a⟩:=a0a a;have C:=ckI X;obtain ⟨_,Y,a⟩:=a0a a;have E:=ckI Y;obtain ⟨k2,a0,a⟩:=a0a a;have F:=gcI a0;obtain ⟨_,b0,a⟩:=a0a a;have G:=ckI b0;obtain ⟨_,d0,a⟩:=a0a a;have J:=ckI d0;obtain ⟨l2,e0,a⟩:=a0a a;have K:=gcI e0;obtain ⟨e2,g0,a⟩:=a0a a;refine a1t.c0 hT hA {} rfl (by (repeat (cbv;simp only [e,C,E,F,G,J,K]));try cbv) (b5F hA g0) rfl rfl (lb rfl) rfl rfl ?_
   refine zJ ?_ (h:=(by (repeat (cbv;simp only [e,C,E,F,G,J,K]));try cbv))
   refine nT ?_;rcases tf e2 with k | k
   ·replace a:=cT k a;refine zT ?_ (hb:=(by first | rfl | simp only [e,k,zqa,zqb,zqc,zqd]))
    refine zs ?_;obtain ⟨_,i0,a⟩:=a0a a;have k1:=ckI i0;obtain ⟨_,j0,a⟩:=a0a a;have l1:=ckI j0;obtain ⟨_,k0,a⟩:=a0a a;have m1:=ckI k0;refine zA ?_ (h:=(by (repeat (cbv;simp only [e,k,k1,l1,m1]));try cbv))
    refine nT (zs (zs ?_));refine zA ?_ (h:=(by (repeat (cbv;simp only [e,k]));try cbv))
    refine nT (zb ?_);obtain ⟨r2,c2,V,b2,u⟩:=a0Q a;refine zM 2 [0,5] [] 1 (fun τ => ∃ v w,V (v,w)=some j1/\τ=⟨[(0,.mref 0 1 m j),(5,zi v)],[(.arr 1 w)],66⟩) ?_ ?_
    ·refine zP c2 [0,1,5,6,7] [] 1 (fun (S,r,U)=>⟨[(0,.mref 0 1 m j),(1,(.func 100 [] [])),(5,zi S),(6,.mref 0 1 (A.zadd m p) (A.zsub j p)),(7,zi r)],[(.arr 1 U)],66⟩) ⟨rfl,(by first | (cbv;done) | ((repeat (cbv;simp only [e,k]));try cbv))⟩ ?_
     rintro ⟨S,r,U⟩ q2 b;dsimp only [a8H] at b;refine zs (zs (zA (nT ?_)));rcases tf (A.zlt r (A.zsub j p)) with i | i
     ·replace b:=cT i b;refine zT ?_ (hb:=(by first | rfl | simp only [i,zqa,zqb,zqc,zqd]))
      refine zk (nT (zs (zb (zs ?_))));refine zQ ?_;obtain ⟨_,l0,b⟩:=a0a b;have L:=ckI l0;obtain ⟨_,m0,b⟩:=a0a b;have M:=ckI m0;obtain ⟨m2,n0,b⟩:=a0a b;have N:=gcI n0;obtain ⟨_,o0,b⟩:=a0a b;have O:=ckI o0;obtain ⟨_,p0,b⟩:=a0a b;have P:=ckI p0;obtain ⟨n2,q0,b⟩:=a0a b;have Q:=gcI q0;obtain ⟨g2,r0,b⟩:=a0a b;refine a1t.c0 hT hA {} rfl (by (repeat (cbv;simp only [i,L,M,N,O,P,Q]));try cbv) (b5F hA r0) rfl rfl (lb rfl) rfl rfl ?_
      refine zJ ?_ (h:=(by (repeat (cbv;simp only [i,L,M,N,O,P,Q]));try cbv))
      refine nT ?_;obtain ⟨⟨i2,j2⟩,c,b⟩:=a0a b;refine zN [0,1,5,6,7] [] 1 (fun τ=>τ=⟨[(0,.mref 0 1 m j),(1,(.func 100 [] [])),(5,zi i2),(6,.mref 0 1 (A.zadd m p) (A.zsub j p)),(7,zi r)],[(.arr 1 j2)],66⟩) ?_ ?_
      ·rcases tf g2 with l | l
       ·replace c:=cT l c;refine zU ?_ (hb:=(by first | rfl | simp only [i,l,zqa,zqb,zqc,zqd]))
        refine zk ?_;cases soI c;exact (zO (g:=(by first | (cbv;done) | ((repeat (cbv;simp only [i,l]));try cbv))))
       replace c:=cF l c;refine zT ?_ (hb:=(by first | rfl | simp only [i,l,zqa,zqb,zqc,zqd]))
       refine zs ?_;obtain ⟨_,s0,c⟩:=a0a c;have n1:=ckI s0;obtain ⟨_,u0,c⟩:=a0a c;have o1:=ckI u0;obtain ⟨o2,v0,c⟩:=a0a c;have p1:=gcI v0;obtain ⟨_,w0,c⟩:=a0a c;have q1:=ckI w0;obtain ⟨_,y0,c⟩:=a0a c;have r1:=ckI y0;obtain ⟨p2,z0,c⟩:=a0a c;refine zA ?_ { tk:=[55] } (h:=(by (repeat (cbv;simp only [i,l,n1,o1,p1,q1,r1,z0]));try cbv))
       refine nT ?_;refine zA ?_ (h:=(by (repeat (cbv;simp only [i,l]));try cbv))
       cases soI c;exact (zO (g:=(by first | (cbv;done) | ((repeat (cbv;simp only [i,l]));try cbv))))
      rintro _ rfl;refine nB (nT (zA ?_));exact nT ⟨_,(soI b).symm,rfl,zc⟩
     replace b:=cF i b;refine zU ?_ (hb:=(by first | rfl | simp only [i,zqa,zqb,zqc,zqd]))
     refine AWp.exit (xT (xT ?_));refine exL b ?_;rintro rfl;exact oxI ⟨rfl,_,_,u,(by first | (cbv;done) | ((repeat (cbv;simp only [i]));try cbv))⟩
    rintro _ ⟨v,w,u,rfl⟩;have a:=(b2 _ u);refine xB (nT (zs ?_));obtain ⟨_,a1,a⟩:=a0a a;have s1:=ckI a1;obtain ⟨_,b1,a⟩:=a0a a;have u1:=ckI b1;obtain ⟨_,c1,a⟩:=a0a a;have v1:=ckI c1;obtain ⟨_,d1,a⟩:=a0a a;have w1:=ckI d1;refine zA ?_ (h:=(by (repeat (cbv;simp only [s1,u1,v1,w1]));try cbv))
    refine nT (zs ?_);obtain ⟨_,e1,a⟩:=a0a a;have y1:=ckI e1;obtain ⟨_,g1,a⟩:=a0a a;have z1:=ckI g1;obtain ⟨_,i1,a⟩:=a0a a;have a2:=ckI i1;refine zA ?_ { tk:=[64] } (h:=(by (repeat (cbv;simp only [y1,z1,a2]));try cbv))
    refine nT (zr (rB (rT (rT ?_))));refine exL a ?_;rintro rfl;refine oxR ?_;replace q:=(eR (R _ q));refine rB (rT ?_);cases soI q;exact zq
   replace a:=cF k a;refine zU ?_ (hb:=(by first | rfl | simp only [e,k,zqa,zqb,zqc,zqd]))
   refine zk (nB (nT ?_));refine zA ?_ (h:=(by (repeat (cbv;simp only [e,k]));try cbv))
   exact nT ⟨_,(soI a).symm,rfl,(by first | (cbv;done) | ((repeat (cbv;simp only [e,k]));try cbv))⟩
  replace a:=cF e a;refine zU ?_ (hb:=(by first | rfl | simp only [e,zqa,zqb,zqc,zqd]))
  refine AWp.exit (xT (xT ?_));refine exL a ?_;rintro rfl;exact oxI ⟨rfl,q,(by first | (cbv;done) | ((repeat (cbv;simp only [e]));try cbv))⟩
 rintro _ ⟨q,rfl⟩;have h:=(eL (R _ q));refine xB (nT (zs (zA (nT (zr ?_)) { tk:=[0,65] })));cases soI h;exact zq

theorem b9v {A:Ar} (hA:SA A) {g:List D} {i z B:Int} {C:List D} (h:M56 A g i=some (z,B,C)):a0j Try.prog 56 [zl 1 g,.d (.iface i)] [] (.mref 0 1 z B) [(.arr 1 C)]:=by
 unfold M56 at h;refine zI Try.func56 ?_;refine zs (zA (nT (zs ?_)));obtain ⟨_,N,h⟩:=a0a h;have f4:=ckI N;refine zB (nT (zs ?_)) { tk:=[9,12],esc:=[5] };have f5:=lnF hA (l:=((.int .u8 0)::(.int .u8 0)::(.int .u8 0)::(.int .i8 0)::(.int .i8 0)::(.int .i8 0)::(.int .i8 0)::(.int .i8 0)::(.int .i8 0)::(.int .i8 0)::(.int .i8 0)::(.int .i8 0)::(.int .i8 0)::(.int .i8 0)::(.int .i8 0)::(.int .i8 0)::(.int .i8 0)::(.int .i8 0)::(.int .i8 0)::(.int .i8 0)::(.int .i8 0)::(.int .i8 0)::(.int .i8 0)::(.int .i8 0)::(.int .i8 0)::(.int .i8 0)::(.int .i8 0)::(.int .i8 0)::(.int .i8 0)::(.int .i8 0)::(.int .i8 0)::(.int .i8 0)::(.int .i8 0)::(.int .i8 0)::(.int .i8 0)::(.int .i8 0)::(.int .i8 0)::(.int .i8 0)::(.int .i64 0)::(.int .i64 0)::(.int .i64 0)::[])) (n:=41) rfl;refine zB (nT (zs ?_)) { tk:=[14],esc:=[6],gr:=[14] };refine zA (nT (zs (zb ?_)));refine AWp.weak (Wk.settleS 7 rfl (lb rfl)) ?_;refine AWp.weak (Wk.ren [some 0,some 1,some 5,some 2,some 3,some 4,some 6,some 7,some 8] [0,1,5,6,7] rfl rfl) ?_;obtain ⟨l1,c0,F,b0,w⟩:=a0Q h;refine AWp.cutXW 0 (fun τ => ∃ s,F s=some (z,B,C)/\τ=⟨[(7,.gref 0 1)],[.gro 1 s,.dead,.dead],47⟩) ?_ ?_
 ·refine AWp.iterW c0 (fun (j,c,E)=>⟨[(0,zl 1 g),(1,.d (.iface i)),(5,.ptr 1 0),(6,.ptr 2 0),(7,.gref 6 1)],[(.map true (.int .u8 :: .int .u8 :: .int .u8 :: .int .i8 :: .int .i8 :: .int .i8 :: .int .i8 :: .int .i8 :: .int .i8 :: .int .i8 :: .int .i8 :: .int .i8 :: .int .i8 :: .int .i8 :: .int .i8 :: .int .i8 :: .int .i8 :: .int .i8 :: .int .i8 :: .int .i8 :: .int .i8 :: .int .i8 :: .int .i8 :: .int .i8 :: .int .i8 :: .int .i8 :: .int .i8 :: .int .i8 :: .int .i8 :: .int .i8 :: .int .i8 :: .int .i8 :: .int .i8 :: .int .i8 :: .int .i8 :: .int .i8 :: .int .i8 :: .int .i8 :: .int .i64 :: .int .i64 :: .int .i64::[]) j),(.cells [(.map 0)]),.cells [.gref 3 41],.gro 41 c,.dead,.dead,.gro 1 E,.dead,.dead],47⟩) ⟨_,zR [some 0,some 1,some 2,some 3,some 4,some 5,some 6,some 7,some 8] [0,1,5,6,7],rfl⟩ ?_;rintro ⟨j,c,E⟩ i0 a;dsimp only [a7x] at a;refine zs (zs (zA (nT ?_)));rcases tf (A.zlt 0 (A.len c)) with u | u
  ·replace a:=cT u a;refine zT (zk (nT (zb (zs ?_))));obtain ⟨_,O,a⟩:=a0a a;have j0:=ckI O;obtain ⟨_,P,a⟩:=a0a a;have k0:=ckI P;obtain ⟨m,Q,a⟩:=a0a a;have l0:=gcI Q;obtain ⟨_,S,a⟩:=a0a a;have n0:=ckI S;obtain ⟨_,R,a⟩:=a0a a;have m0:=ckI R;refine zB (nT (zs ?_)) { tk:=[23],arr:=[8] };obtain ⟨_,U,a⟩:=a0a a;have o0:=ckI U;obtain ⟨_,V,a⟩:=a0a a;have p0:=ckI V;refine zB (nT ?_) { tk:=[28] };refine AWp.weak (Wk.settle 2 0 rfl rfl rfl) ?_;refine zs (zs (zn ?_));obtain ⟨y,W,a⟩:=a0a a;obtain ⟨q0,r0,s0⟩:=gaI W;obtain ⟨d0,X,a⟩:=a0a a;refine zD (c0n hA X) ?_;refine zF (nT ?_);obtain ⟨k,e,a⟩:=a0a a;refine AWp.cutW (fun τ=>τ=⟨[(0,zl 1 g),(1,.d (.iface i)),(5,.ptr 1 0),(6,.ptr 2 0),(7,.gref 7 1),(8,.ptr 3 0)],[(.map true (.int .u8 :: .int .u8 :: .int .u8 :: .int .i8 :: .int .i8 :: .int .i8 :: .int .i8 :: .int .i8 :: .int .i8 :: .int .i8 :: .int .i8 :: .int .i8 :: .int .i8 :: .int .i8 :: .int .i8 :: .int .i8 :: .int .i8 :: .int .i8 :: .int .i8 :: .int .i8 :: .int .i8 :: .int .i8 :: .int .i8 :: .int .i8 :: .int .i8 :: .int .i8 :: .int .i8 :: .int .i8 :: .int .i8 :: .int .i8 :: .int .i8 :: .int .i8 :: .int .i8 :: .int .i8 :: .int .i8 :: .int .i8 :: .int .i8 :: .int .i8 :: .int .i64 :: .int .i64 :: .int .i64::[]) j),(.cells [(.map 0)]),.cells [.gref 4 41],(.arr 1 (A.spl ((.int .u8 0)::(.int .u8 0)::(.int .u8 0)::(.int .i8 0)::(.int .i8 0)::(.int .i8 0)::(.int .i8 0)::(.int .i8 0)::(.int .i8 0)::(.int .i8 0)::(.int .i8 0)::(.int .i8 0)::(.int .i8 0)::(.int .i8 0)::(.int .i8 0)::(.int .i8 0)::(.int .i8 0)::(.int .i8 0)::(.int .i8 0)::(.int .i8 0)::(.int .i8 0)::(.int .i8 0)::(.int .i8 0)::(.int .i8 0)::(.int .i8 0)::(.int .i8 0)::(.int .i8 0)::(.int .i8 0)::(.int .i8 0)::(.int .i8 0)::(.int .i8 0)::(.int .i8 0)::(.int .i8 0)::(.int .i8 0)::(.int .i8 0)::(.int .i8 0)::(.int .i8 0)::(.int .i8 0)::(.int .i64 0)::(.int .i64 0)::(.int .i64 0)::[]) (A.zadd 0 (Int.ofNat 0)) m)),(.gro 41 (A.sub c 0 (A.wrp .i64 (A.zsub (A.len c) 1)))),.dead,.dead,.gro 1 k,.dead,.dead],47⟩) ?_ ?_
   ·rcases tf d0 with v | v
    ·replace e:=cT v e;refine zT (zn ?_);obtain ⟨k1,Y,e⟩:=a0a e;refine zD (c0o hA Y) ?_ { tk:=[7,37] };obtain ⟨w0,a0,e⟩:=a0a e;obtain ⟨u0,v0⟩:=apI a0;refine zF ?_ { tk:=[7,37],gr:=[37] };cases soI e;exact oWi ⟨_,zR [some 0,some 1,some 2,some 9,some 10,some 11,some 12,some 13,some 14,some 15] [0,1,5,6,7,8],rfl⟩
    replace e:=cF v e;refine zU (zk ?_);cases soI e;exact oWi ⟨_,zR [some 0,some 1,some 2,some 9,some 10,some 11,some 12,some 6,some 7,some 8] [0,1,5,6,7,8],rfl⟩
   rintro _ rfl;refine nT ?_;obtain ⟨⟨e0,g0⟩,b,a⟩:=a0a a;refine AWp.cutW (fun τ=>τ=⟨[(0,zl 1 g),(1,.d (.iface i)),(5,.ptr 1 0),(6,.ptr 2 0),(7,.gref 6 1)],[(.map true (.int .u8 :: .int .u8 :: .int .u8 :: .int .i8 :: .int .i8 :: .int .i8 :: .int .i8 :: .int .i8 :: .int .i8 :: .int .i8 :: .int .i8 :: .int .i8 :: .int .i8 :: .int .i8 :: .int .i8 :: .int .i8 :: .int .i8 :: .int .i8 :: .int .i8 :: .int .i8 :: .int .i8 :: .int .i8 :: .int .i8 :: .int .i8 :: .int .i8 :: .int .i8 :: .int .i8 :: .int .i8 :: .int .i8 :: .int .i8 :: .int .i8 :: .int .i8 :: .int .i8 :: .int .i8 :: .int .i8 :: .int .i8 :: .int .i8 :: .int .i8 :: .int .i64 :: .int .i64 :: .int .i64::[]) e0),(.cells [(.map 0)]),.cells [.gref 3 41],.gro 41 g0,.dead,.dead,.gro 1 k,.dead,.dead],47⟩) ?_ ?_
   ·refine zn ?_;rcases tf (A.zeq i (Int.ofNat 143)) with o | o
    ·replace b:=cT o b;rw [ifF hA (n:=143) o];obtain ⟨⟨y0,z0⟩,G,b⟩:=a0a b;refine zD (a0j.emb (args':=[.d (.agg []),zl 1 g,.d (.agg y),(.func 96 [] [.ptr 1 0,.ptr 2 0])]) (b9n hA G) [some 1,some 0,some 2,some 4,some 5,some 6] [(.map true (.int .u8 :: .int .u8 :: .int .u8 :: .int .i8 :: .int .i8 :: .int .i8 :: .int .i8 :: .int .i8 :: .int .i8 :: .int .i8 :: .int .i8 :: .int .i8 :: .int .i8 :: .int .i8 :: .int .i8 :: .int .i8 :: .int .i8 :: .int .i8 :: .int .i8 :: .int .i8 :: .int .i8 :: .int .i8 :: .int .i8 :: .int .i8 :: .int .i8 :: .int .i8 :: .int .i8 :: .int .i8 :: .int .i8 :: .int .i8 :: .int .i8 :: .int .i8 :: .int .i8 :: .int .i8 :: .int .i8 :: .int .i8 :: .int .i8 :: .int .i8 :: .int .i64 :: .int .i64 :: .int .i64::[]) j),(.cells [(.map 0)]),.cells [.gref 4 41],(.arr 1 (A.spl ((.int .u8 0)::(.int .u8 0)::(.int .u8 0)::(.int .i8 0)::(.int .i8 0)::(.int .i8 0)::(.int .i8 0)::(.int .i8 0)::(.int .i8 0)::(.int .i8 0)::(.int .i8 0)::(.int .i8 0)::(.int .i8 0)::(.int .i8 0)::(.int .i8 0)::(.int .i8 0)::(.int .i8 0)::(.int .i8 0)::(.int .i8 0)::(.int .i8 0)::(.int .i8 0)::(.int .i8 0)::(.int .i8 0)::(.int .i8 0)::(.int .i8 0)::(.int .i8 0)::(.int .i8 0)::(.int .i8 0)::(.int .i8 0)::(.int .i8 0)::(.int .i8 0)::(.int .i8 0)::(.int .i8 0)::(.int .i8 0)::(.int .i8 0)::(.int .i8 0)::(.int .i8 0)::(.int .i8 0)::(.int .i64 0)::(.int .i64 0)::(.int .i64 0)::[]) (A.zadd 0 (Int.ofNat 0)) m)),(.gro 41 (A.sub c 0 (A.wrp .i64 (A.zsub (A.len c) 1)))),.dead,.dead,.gro 1 k,.dead,.dead] rfl rfl rfl rfl rfl rfl rfl) ?_;refine zF ?_;cases soI b;exact oWi ⟨_,zR [some 0,some 1,some 2,some 10,some 11,some 12,some 7,some 8,some 9] [0,1,5,6,7],rfl⟩
    replace b:=cF o b;rcases tf (A.zeq i (Int.ofNat 144)) with p | p
    ·replace b:=cT p b;rw [ifF hA (n:=144) p];obtain ⟨⟨a1,b1⟩,J,b⟩:=a0a b;refine zD (a0j.emb (args':=[.d (.agg []),zl 1 g,.d (.agg y),(.func 96 [] [.ptr 1 0,.ptr 2 0])]) (b9r hA J) [some 1,some 0,some 2,some 4,some 5,some 6] [(.map true (.int .u8 :: .int .u8 :: .int .u8 :: .int .i8 :: .int .i8 :: .int .i8 :: .int .i8 :: .int .i8 :: .int .i8 :: .int .i8 :: .int .i8 :: .int .i8 :: .int .i8 :: .int .i8 :: .int .i8 :: .int .i8 :: .int .i8 :: .int .i8 :: .int .i8 :: .int .i8 :: .int .i8 :: .int .i8 :: .int .i8 :: .int .i8 :: .int .i8 :: .int .i8 :: .int .i8 :: .int .i8 :: .int .i8 :: .int .i8 :: .int .i8 :: .int .i8 :: .int .i8 :: .int .i8 :: .int .i8 :: .int .i8 :: .int .i8 :: .int .i8 :: .int .i64 :: .int .i64 :: .int .i64::[]) j),(.cells [(.map 0)]),.cells [.gref 4 41],(.arr 1 (A.spl ((.int .u8 0)::(.int .u8 0)::(.int .u8 0)::(.int .i8 0)::(.int .i8 0)::(.int .i8 0)::(.int .i8 0)::(.int .i8 0)::(.int .i8 0)::(.int .i8 0)::(.int .i8 0)::(.int .i8 0)::(.int .i8 0)::(.int .i8 0)::(.int .i8 0)::(.int .i8 0)::(.int .i8 0)::(.int .i8 0)::(.int .i8 0)::(.int .i8 0)::(.int .i8 0)::(.int .i8 0)::(.int .i8 0)::(.int .i8 0)::(.int .i8 0)::(.int .i8 0)::(.int .i8 0)::(.int .i8 0)::(.int .i8 0)::(.int .i8 0)::(.int .i8 0)::(.int .i8 0)::(.int .i8 0)::(.int .i8 0)::(.int .i8 0)::(.int .i8 0)::(.int .i8 0)::(.int .i8 0)::(.int .i64 0)::(.int .i64 0)::(.int .i64 0)::[]) (A.zadd 0 (Int.ofNat 0)) m)),(.gro 41 (A.sub c 0 (A.wrp .i64 (A.zsub (A.len c) 1)))),.dead,.dead,.gro 1 k,.dead,.dead] rfl rfl rfl rfl rfl rfl rfl) ?_;refine zF ?_;cases soI b;exact oWi ⟨_,zR [some 0,some 1,some 2,some 10,some 11,some 12,some 7,some 8,some 9] [0,1,5,6,7],rfl⟩
    replace b:=cF p b;rcases tf (A.zeq i (Int.ofNat 145)) with q | q
    ·replace b:=cT q b;rw [ifF hA (n:=145) q];obtain ⟨⟨c1,d1⟩,K,b⟩:=a0a b;refine zD (a0j.emb (args':=[.d (.agg []),zl 1 g,.d (.agg y),(.func 96 [] [.ptr 1 0,.ptr 2 0])]) (b9s hA K) [some 1,some 0,some 2,some 4,some 5,some 6] [(.map true (.int .u8 :: .int .u8 :: .int .u8 :: .int .i8 :: .int .i8 :: .int .i8 :: .int .i8 :: .int .i8 :: .int .i8 :: .int .i8 :: .int .i8 :: .int .i8 :: .int .i8 :: .int .i8 :: .int .i8 :: .int .i8 :: .int .i8 :: .int .i8 :: .int .i8 :: .int .i8 :: .int .i8 :: .int .i8 :: .int .i8 :: .int .i8 :: .int .i8 :: .int .i8 :: .int .i8 :: .int .i8 :: .int .i8 :: .int .i8 :: .int .i8 :: .int .i8 :: .int .i8 :: .int .i8 :: .int .i8 :: .int .i8 :: .int .i8 :: .int .i8 :: .int .i64 :: .int .i64 :: .int .i64::[]) j),(.cells [(.map 0)]),.cells [.gref 4 41],(.arr 1 (A.spl ((.int .u8 0)::(.int .u8 0)::(.int .u8 0)::(.int .i8 0)::(.int .i8 0)::(.int .i8 0)::(.int .i8 0)::(.int .i8 0)::(.int .i8 0)::(.int .i8 0)::(.int .i8 0)::(.int .i8 0)::(.int .i8 0)::(.int .i8 0)::(.int .i8 0)::(.int .i8 0)::(.int .i8 0)::(.int .i8 0)::(.int .i8 0)::(.int .i8 0)::(.int .i8 0)::(.int .i8 0)::(.int .i8 0)::(.int .i8 0)::(.int .i8 0)::(.int .i8 0)::(.int .i8 0)::(.int .i8 0)::(.int .i8 0)::(.int .i8 0)::(.int .i8 0)::(.int .i8 0)::(.int .i8 0)::(.int .i8 0)::(.int .i8 0)::(.int .i8 0)::(.int .i8 0)::(.int .i8 0)::(.int .i64 0)::(.int .i64 0)::(.int .i64 0)::[]) (A.zadd 0 (Int.ofNat 0)) m)),(.gro 41 (A.sub c 0 (A.wrp .i64 (A.zsub (A.len c) 1)))),.dead,.dead,.gro 1 k,.dead,.dead] rfl rfl rfl rfl rfl rfl rfl) ?_;refine zF ?_;cases soI b;exact oWi ⟨_,zR [some 0,some 1,some 2,some 10,some 11,some 12,some 7,some 8,some 9] [0,1,5,6,7],rfl⟩
    replace b:=cF q b;cases b
   rintro _ rfl;refine nB ?_;exact nT ⟨_,(soI a).symm,_,zR [some 0,some 1,some 2,some 3,some 4,some 5,some 6,some 7,some 8] [0,1,5,6,7],rfl⟩
  replace a:=cF u a;refine zU (AWp.exit (xT (xT ?_)));refine exL a ?_;rintro rfl;exact b3z ⟨_,zR [some 6,some 7,some 8] [7],_,w,rfl⟩
 rintro _ ⟨s,w,rfl⟩;have h:=(b0 _ w);refine xB (nT (zs ?_));rcases tf (A.zlt 0 (A.len s)) with r | r
 ·replace h:=cT r h;refine AWp.weak (Wk.groArr 7 rfl rfl (neL hA r) (c0v hA)) ?_;refine zn ?_;obtain ⟨e1,L,h⟩:=a0a h;refine zD (c0N hA L) ?_;refine zF (nT (zs (zn ?_)));obtain ⟨⟨g1,i1,j1⟩,M,h⟩:=a0a h;refine zD (c0O hA M) ?_ { tk:=[46] };refine zF (nT ?_) { tk:=[46] };refine AWp.weak (Wk.ren [some 0] [4] rfl rfl) ?_;refine zr ?_;cases soI h;exact zq
 replace h:=cF r h;cases h

theorem b8N {A:Ar} (hA:SA A) {e:List D} {g:Int} {b:List D} {c:Int} (h:M19 A e g=some (b,c)):a0j Try.prog 19 [zl 1 e,zi g] [] (.tuple [zl 1 b,zi c]) []:=by
 unfold M19 at h;refine zI Try.func19 ?_;refine zs (zA (nT (zs (zn ?_))));obtain ⟨⟨z,p⟩,l,h⟩:=a0a h;refine zC (c0m hA l) ?_;refine zE (nT (zs (zs ?_)));refine zA (nT ?_);rcases tf (A.zeq p 0) with a | a
 ·replace h:=cT a h;refine zU (zk (nT (zs (zn ?_))));obtain ⟨q,m,h⟩:=a0a h;have r:=gcI m;obtain ⟨⟨v,w,y⟩,j,h⟩:=a0a h;refine zD (b9v hA j) ?_;refine zF (nT ?_);obtain ⟨u,k,h⟩:=a0a h;obtain ⟨n,o⟩:=fzI hA k;refine AWp.freeze (s:=4) (i:=0) rfl rfl n o ?_;refine zr ?_;cases soI h;exact zq
 replace h:=cF a h;refine zT (zs ?_);refine zB (nT (zr (rT ?_)));cases soI h;exact zq

theorem b9w {A:Ar} (hA:SA A) {c i:List D} {q:Int} {r:Bool} (h:b7e A c i=some (q,r)):a0j Try.prog 103 [zl 1 c,zl 1 i,(.func 98 [] [])] [] (.tuple [zi q,.d (.bool r)]) []:=by
 unfold b7e at h;refine zI Try.func103 ?_;refine zs (zA (nT (zs ?_)));refine zA (nT (zs ?_));refine zA (nT (zs (zb ?_)));obtain ⟨U,C,s,B,m⟩:=a0Q h;refine zM 0 [0,1,2,8,9] [] 0 (fun τ => ∃ g,s g=some (q,r)/\τ=⟨[(0,zl 1 c),(1,zl 1 i),(2,(.func 98 [] [])),(8,(.d (.int .i64 (A.len c)))),(9,zi g)],[],49⟩) ?_ ?_
 ·refine zP C [0,1,2,8,9,10] [] 0 (fun (o,p)=>⟨[(0,zl 1 c),(1,zl 1 i),(2,(.func 98 [] [])),(8,(.d (.int .i64 (A.len c)))),(9,zi o),(10,zi p)],[],49⟩) ⟨rfl,zc⟩ ?_;rintro ⟨o,p⟩ M a;dsimp only [a5Y] at a;refine zs (zs (zA (nT ?_)));rcases tf (A.zlt o p) with j | j
  ·replace a:=cT j a;refine zT (zk (nT (zb (zs ?_))));obtain ⟨_,u,a⟩:=a0a a;have N:=nkI u;refine zB (nT (zs (zn ?_)));obtain ⟨K,v,a⟩:=a0a a;obtain ⟨O,P⟩:=gtI v;obtain ⟨E,w,a⟩:=a0a a;refine zD (b9u hA w) ?_;refine zF (nT ?_);obtain ⟨⟨F,G⟩,e,a⟩:=a0a a;refine zN [0,1,2,8,9,10] [] 0 (fun τ=>τ=⟨[(0,zl 1 c),(1,zl 1 i),(2,(.func 98 [] [])),(8,(.d (.int .i64 (A.len c)))),(9,zi F),(10,zi G)],[],49⟩) ?_ ?_
   ·rcases tf (A.zlt E 0) with k | k
    ·replace e:=cT k e;refine zT ?_;refine zB ?_;cases soI e;exact zO
    replace e:=cF k e;refine zU ?_;refine zB ?_;cases soI e;exact zO
   rintro _ rfl;refine nB ?_;exact nT ⟨_,(soI a).symm,rfl,zc⟩
  replace a:=cF j a;refine zU (AWp.exit (xT (xT ?_)));refine exL a ?_;rintro rfl;exact oxI ⟨rfl,_,m,zv⟩
 rintro _ ⟨g,m,rfl⟩;have h:=(B _ m);refine xB (nT (zs ?_));obtain ⟨J,b,h⟩:=a0a h;refine zN [6,7] [] 0 (fun τ=>τ=⟨[(6,zi g),(7,.d (.bool J))],[],49⟩) ?_ ?_
 ·refine zn ?_;rcases tf (A.zlt g (A.len c)) with l | l
  ·replace b:=cT l b;obtain ⟨L,y,b⟩:=a0a b;obtain ⟨Q,R⟩:=gtI y;obtain ⟨S,z,b⟩:=a0a b;refine zD (b9u hA z) ?_;refine zF ?_;cases soI b;exact zO
  replace b:=cF l b;refine zF ?_;cases soI b;exact zO
 rintro _ rfl;refine nT (zr ?_);cases soI h;exact zq

theorem c0q {A:Ar} (hA:SA A) {b c:List D} {a:Bool} (h:M59 A b c=some a):a0j Try.prog 59 [zl 1 b,zl 1 c] [] (.d (.bool a)) []:=by
 unfold M59 at h;refine zI Try.func59 ?_;refine zs (zA (nT (zs (zn ?_))));obtain ⟨⟨g,i⟩,e,h⟩:=a0a h;refine zC (b9w hA e) ?_ { tk:=[12] };refine zE (nT (zs ?_)) { tk:=[12] };refine zA (nT (zr ?_)) { tk:=[6,13] };cases soI h;exact zq

theorem c0r {A:Ar} (hA:SA A) {i:List D} {j:Int} {k:List D} {e:Bool} {g:Int} (h:M21 A i j k=some (e,g)):a0j Try.prog 21 [zl 1 i,zi j,zl 1 k] [] (.tuple [.d (.bool e),zi g]) []:=by
 unfold M21 at h;refine zI Try.func21 ?_;refine zs (zA (nT (zs (zn ?_))));obtain ⟨⟨p,c⟩,l,h⟩:=a0a h;refine zC (b8N hA l) ?_;refine zE (nT (zs ?_));obtain ⟨o,a,h⟩:=a0a h;refine zN [6,7] [] 0 (fun τ=>τ=⟨[(6,.d (.bool o)),(7,zi c)],[],24⟩) ?_ ?_
 ·refine zn ?_;rcases tf (A.zeq c 0) with b | b
  ·replace a:=cT b a;obtain ⟨q,m,a⟩:=a0a a;refine zD (c0q hA m) ?_;refine zF ?_;cases soI a;exact zO
  replace a:=cF b a;refine zF ?_;cases soI a;exact zO
 rintro _ rfl;refine nT (zr ?_);cases soI h;exact zq

theorem b9x {A:Ar} (hA:SA A) {g:Bool} (h:M18 A=some g):a0j Try.prog 18 [] [] (.d (.bool g)) []:=by
 unfold M18 at h;refine zI Try.func18 ?_;refine zs (zA (nT (zs ?_)));refine zA (nT (zs (zn ?_)));obtain ⟨⟨k,l⟩,i,h⟩:=a0a h;refine zC (c0r hA i) ?_;refine zE (nT (zs (zn ?_)));obtain ⟨⟨p,m⟩,j,h⟩:=a0a h;refine zC (c0r hA j) ?_;refine zE (nT (zs ?_));obtain ⟨o,a,h⟩:=a0a h;refine zN [0] [] 0 (fun τ=>τ=⟨[(0,.d (.bool o))],[],38⟩) ?_ ?_
 ·rcases tf (A.zeq l 0) with b | b
  ·replace a:=cT b a;rcases tf (A.zeq m 0) with c | c
   ·replace a:=cT c a;rcases tf k with e | e
    ·replace a:=cT e a;refine zB ?_ { tk:=[37] };cases soI a;exact zO
    replace a:=cF e a;refine zB ?_ { tk:=[37] };cases soI a;exact zO
   replace a:=cF c a;refine zB ?_ { tk:=[37] };cases soI a;exact zO
  replace a:=cF b a;refine zB ?_ { tk:=[37] };cases soI a;exact zO
 rintro _ rfl;refine nT (zr ?_);cases soI h;exact zq

theorem b9y {A:Ar} (hA:SA A) {e g:List D} {m:Int} (h:M30 A e g=some m):a0j Try.prog 30 [zl 1 e,zl 1 g] [] (zi m) []:=by
 unfold M30 at h;refine zI Try.func30 ?_;refine zs (zA (nT (zs (zs ?_))));refine zA (nT (zb ?_));obtain ⟨F,w,q,o,b⟩:=a0Q h;refine zM 0 [0,1] [] 0 (fun τ=>q (.inl ())=some m/\τ=⟨[(0,zl 1 e),(1,zl 1 g)],[],41⟩) ?_ ?_
 ·refine zP w [0,1,5] [] 0 (fun i=>⟨[(0,zl 1 e),(1,zl 1 g),(5,zi i)],[],41⟩) ⟨rfl,zc⟩ ?_;rintro i y a;dsimp only [a8I] at a;refine zs (zs ?_);obtain ⟨p,c,a⟩:=a0a a;refine zN [0,1,5,15] [] 0 (fun τ=>τ=⟨[(0,zl 1 e),(1,zl 1 g),(5,zi i),(15,.d (.bool p))],[],41⟩) ?_ ?_
  ·rcases tf (A.zlt i (A.len e)) with j | j
   ·replace c:=cT j c;refine zB ?_;cases soI c;exact zO
   replace c:=cF j c;refine zB ?_;cases soI c;exact zO
  rintro _ rfl;refine nT ?_;rcases tf p with k | k
  ·replace a:=cT k a;refine zT (zk (nT (zs (zb (zs ?_)))));obtain ⟨r,u,a⟩:=a0a a;obtain ⟨z,B⟩:=gtI u;obtain ⟨s,v,a⟩:=a0a a;obtain ⟨C,E⟩:=gtI v;refine zH ?_;refine nT ?_;rcases tf (A.zeq r s) with l | l
   ·replace a:=cT l a;refine zU (zk (nB (nT ?_)));refine zB ?_;exact nT ⟨_,(soI a).symm,rfl,zv⟩
   replace a:=cF l a;refine zT (zs ?_);refine zH ?_ { tk:=[35] };refine nT (zr (rB (rT (rT ?_))));refine exL a ?_;rintro rfl;refine oxR ?_;replace b:=(eR (o _ b));refine rB (rT ?_);cases soI b;exact zq
  replace a:=cF k a;refine zU (AWp.exit (xT (xT ?_)));refine exL a ?_;rintro rfl;exact oxI ⟨rfl,b,zv⟩
 rintro _ ⟨b,rfl⟩;have h:=(eL (o _ b));refine xB (nT (zs (zA (nT (zr ?_)) { tk:=[40] })));cases soI h;exact zq

theorem c0s {A:Ar} (hA:SA A) {c a:List D} {b:Bool} (h:M69 A c a=some b):a0j Try.prog 69 [zl 1 c,.ptr 1 0] [.dead,.cells [zl 1 a]] (.d (.bool b)) [.dead,.cells [zl 1 a]]:=by
 unfold M69 at h;refine zI Try.func69 ?_;refine zs (zA (nT (zs (zn ?_))));obtain ⟨g,e,h⟩:=a0a h;refine zC (c0q hA e) ?_ { tk:=[6] };refine zE (nT (zr ?_)) { tk:=[6] };cases soI h;exact zq

theorem b9z {A:Ar} (hA:SA A) {m c:Int} {e g:List D} {l:Int} (h:b7f A m c e g=some l):a0j Try.prog 105 [.mref 2 1 m c,(.func 69 [] [.ptr 1 0])] [.dead,.cells [zl 1 e],(.arr 1 g)] (zi l) [.dead,.cells [zl 1 e],(.arr 1 g)]:=by
 unfold b7f at h;refine zI Try.func105 ?_;refine zs (zA (nT (zs (zs ?_))));refine zA (nT (zb ?_));obtain ⟨F,v,p,o,b⟩:=a0Q h;refine zM 0 [] [] 3 (fun τ=>p (.inl ())=some l/\τ=⟨[],[.dead,.cells [zl 1 e],(.arr 1 g)],19⟩) ?_ ?_
 ·refine zP v [0,1,7,8] [] 3 (fun k=>⟨[(0,.mref 2 1 m c),(1,(.func 69 [] [.ptr 1 0])),(7,zi c),(8,zi k)],[.dead,.cells [zl 1 e],(.arr 1 g)],19⟩) ⟨rfl,zc⟩ ?_;rintro k z a;dsimp only [a7y] at a;refine zs (zA (nT (zs ?_)));rcases tf (A.zlt k c) with i | i
  ·replace a:=cT i a;refine zT (zk (nT (zs (zb (zs ?_)))));refine zB (nT (zs (zn ?_))) { tk:=[8,10] };obtain ⟨_,q,a⟩:=a0a a;have B:=ckI q;obtain ⟨_,r,a⟩:=a0a a;have C:=ckI r;obtain ⟨y,s,a⟩:=a0a a;have E:=gcI s;obtain ⟨w,u,a⟩:=a0a a;refine zD (c0s hA u) ?_;refine zF (nT ?_);rcases tf w with j | j
   ·replace a:=cT j a;refine zT (zs ?_);refine zB (nT (zr (rB (rT (rT ?_))))) { tk:=[5,17] };refine exL a ?_;rintro rfl;refine oxR ?_;replace b:=(eR (o _ b));refine rB (rT ?_);cases soI b;exact zq
   replace a:=cF j a;refine zU (zk (nB (nT ?_)));refine zB ?_ { tk:=[18] };exact nT ⟨_,(soI a).symm,rfl,zv⟩
  replace a:=cF i a;refine zU (AWp.exit (xT (xT ?_)));refine exL a ?_;rintro rfl;exact oxI ⟨rfl,b,zv⟩
 rintro _ ⟨b,rfl⟩;have h:=(eL (o _ b));refine xB (nT (zs (zA (nT (zr ?_)))));cases soI h;exact zq

theorem c0P {A:Ar} (hA:SA A) {g c:Int} {e w:List D} {q r:Int} {s:List D} (h:M68 A g c e w=some (q,r,s)):a0j Try.prog 68 [.mref 2 1 g c,(.func 69 [] [.ptr 1 0])] [.dead,.cells [zl 1 e],(.arr 1 w)] (.mref 2 1 q r) [.dead,.cells [zl 1 e],(.arr 1 s)]:=by
 unfold M68 at h;refine zI Try.func68 ?_;refine zs (zA (nT (zs (zn ?_))));obtain ⟨V,J,h⟩:=a0a h;refine zC (b9z hA J) ?_;refine zE (nT (zs (zs ?_)));refine zA (nT ?_);rcases tf (A.zeq V (-1)) with l | l
 ·replace h:=cT l h;refine zT (zs ?_);refine zB (nT (zr (rT ?_))) { tk:=[0,13] };cases soI h;exact zq
 replace h:=cF l h;refine zU (zk (nT (zs (zs ?_))));refine zB (nT (zb ?_));obtain ⟨r0,S,y,R,m⟩:=a0Q h;refine zM 0 [0,5] [] 3 (fun τ => ∃ o p,y (o,p)=some (q,r,s)/\τ=⟨[(0,.mref 2 1 g c),(5,zi o)],[.dead,.cells [zl 1 e],(.arr 1 p)],42⟩) ?_ ?_
 ·refine zP S [0,1,5,6] [] 3 (fun (u,i,v)=>⟨[(0,.mref 2 1 g c),(1,(.func 69 [] [.ptr 1 0])),(5,zi u),(6,zi i)],[.dead,.cells [zl 1 e],(.arr 1 v)],42⟩) ⟨rfl,zv⟩ ?_;rintro ⟨u,i,v⟩ c0 a;dsimp only [b0u] at a;refine zs (zs (zA (nT ?_)));rcases tf (A.zlt i c) with j | j
  ·replace a:=cT j a;refine zT (zk (nT (zs (zb (zs ?_)))));obtain ⟨_,z,a⟩:=a0a a;have d0:=ckI z;obtain ⟨_,B,a⟩:=a0a a;have e0:=ckI B;obtain ⟨Y,C,a⟩:=a0a a;have g0:=gcI C;refine zB (nT (zs (zn ?_))) { tk:=[25] };obtain ⟨U,E,a⟩:=a0a a;refine zD (c0s hA E) ?_;refine zF (nT ?_);obtain ⟨⟨W,X⟩,b,a⟩:=a0a a;refine zN [0,1,5,6] [] 3 (fun τ=>τ=⟨[(0,.mref 2 1 g c),(1,(.func 69 [] [.ptr 1 0])),(5,zi W),(6,zi i)],[.dead,.cells [zl 1 e],(.arr 1 X)],42⟩) ?_ ?_
   ·rcases tf U with k | k
    ·replace b:=cT k b;refine zU (zk ?_);cases soI b;exact zO
    replace b:=cF k b;refine zT (zs ?_);obtain ⟨_,F,b⟩:=a0a b;have i0:=ckI F;obtain ⟨_,G,b⟩:=a0a b;have j0:=ckI G;obtain ⟨a0,b0,b⟩:=a0a b;refine zB (nT ?_) { tk:=[7,32] };refine zB ?_;cases soI b;exact zO
   rintro _ rfl;refine nB (nT (zA ?_));exact nT ⟨_,(soI a).symm,rfl,zc⟩
  replace a:=cF j a;refine zU (AWp.exit (xT (xT ?_)));refine exL a ?_;rintro rfl;exact oxI ⟨rfl,_,_,m,zv⟩
 rintro _ ⟨o,p,m,rfl⟩;have h:=(R _ m);refine xB (nT (zs ?_));obtain ⟨_,K,h⟩:=a0a h;have k0:=ckI K;obtain ⟨_,L,h⟩:=a0a h;have l0:=ckI L;obtain ⟨_,M,h⟩:=a0a h;have m0:=ckI M;obtain ⟨_,N,h⟩:=a0a h;have n0:=ckI N;refine zB (nT (zs ?_));obtain ⟨_,O,h⟩:=a0a h;have o0:=ckI O;obtain ⟨_,P,h⟩:=a0a h;have p0:=ckI P;obtain ⟨_,Q,h⟩:=a0a h;have q0:=ckI Q;refine zB (nT (zr ?_)) { tk:=[41] };cases soI h;exact zq

theorem c0Q {A:Ar} (hA:SA A) {e:List D} {g j:Int} {b:List D} {c:Int} (h:M26 A e g j=some (b,c)):a0j Try.prog 26 [zl 1 e,zi g,zi j] [] (.tuple [zl 1 b,zi c]) []:=by
 unfold M26 at h;refine zI Try.func26 ?_;refine zs (zA (nT (zs (zn ?_))));obtain ⟨⟨U,B⟩,q,h⟩:=a0a h;refine zC (c0m hA q) ?_;refine zE (nT (zs (zs ?_)));refine zA (nT ?_);rcases tf (A.zeq B 0) with a | a
 ·replace h:=cT a h;refine zU (zk (nT (zs (zn ?_))));obtain ⟨E,r,h⟩:=a0a h;have F:=gcI r;obtain ⟨⟨K,L,M⟩,k,h⟩:=a0a h;refine zD (b9v hA k) ?_ { tk:=[26],esc:=[10] };obtain ⟨z,l,h⟩:=a0a h;obtain ⟨u,v⟩:=fzI hA l;refine a1B.freeze (s:=26) (i:=0) rfl rfl u v ?_;refine zF (nT (zs (zn ?_))) { tk:=[26],esc:=[10] };obtain ⟨C,m,h⟩:=a0a h;have G:=gcI m;obtain ⟨⟨N,O,P⟩,n,h⟩:=a0a h;refine zD (a0j.shift (b9v hA n) rfl rfl [.dead,.cells [zl 1 z]] rfl rfl rfl rfl) ?_;obtain ⟨⟨Q,R,S⟩,o,h⟩:=a0a h;refine zD (c0P hA o) ?_;refine zF (nT ?_);obtain ⟨J,p,h⟩:=a0a h;obtain ⟨w,y⟩:=fzI hA p;refine AWp.freeze (s:=6) (i:=2) rfl rfl w y ?_;refine zr ?_;cases soI h;exact zq
 replace h:=cF a h;refine zT (zs ?_);refine zB (nT (zr (rT ?_)));cases soI h;exact zq

theorem c0R {A:Ar} (hA:SA A) {c k:List D} {j:Bool} (h:M31 A c k=some j):a0j Try.prog 31 [zl 1 c,zl 1 k] [] (.d (.bool j)) []:=by
 unfold M31 at h;refine zI Try.func31 ?_;refine zs (zA (nT (zs (zs ?_))));refine zA (nT (zb ?_));obtain ⟨y,q,m,l,b⟩:=a0Q h;refine zM 0 [] [] 0 (fun τ=>m (.inl ())=some j/\τ=⟨[],[],19⟩) ?_ ?_
 ·refine zP q [0,1,5] [] 0 (fun i=>⟨[(0,zl 1 c),(1,zl 1 k),(5,zi i)],[],19⟩) ⟨rfl,zc⟩ ?_;rintro i u a;dsimp only [b1r] at a;refine zs (zs (zA (nT ?_)));rcases tf (A.zlt i (A.len c)) with e | e
  ·replace a:=cT e a;refine zT (zk (nT (zs (zb (zs (zn ?_))))));obtain ⟨s,o,a⟩:=a0a a;obtain ⟨v,w⟩:=gtI o;obtain ⟨r,p,a⟩:=a0a a;refine zD (b9y hA p) ?_;refine zF (nT ?_);rcases tf (A.zeq r 0) with g | g
   ·replace a:=cT g a;refine zT (zs ?_);refine zB (nT (zr (rB (rT (rT ?_)))));refine exL a ?_;rintro rfl;refine oxR ?_;replace b:=(eR (l _ b));refine rB (rT ?_);cases soI b;exact zq
   replace a:=cF g a;refine zU (zk (nB (nT ?_)));refine zB ?_;exact nT ⟨_,(soI a).symm,rfl,zv⟩
  replace a:=cF e a;refine zU (AWp.exit (xT (xT ?_)));refine exL a ?_;rintro rfl;exact oxI ⟨rfl,b,zv⟩
 rintro _ ⟨b,rfl⟩;have h:=(eL (l _ b));refine xB (nT (zs (zA (nT (zr ?_)))));cases soI h;exact zq

theorem c0S {A:Ar} (hA:SA A) {a:List (D×D)} {b:List (D×D)} (h:M94 A a b=some ()):a0j Try.prog 94 [(.map 1)] [(.map false [.int .i64] a),(.map false [.int .i64] b)] (.func 115 [] [.ptr 2 0]) [(.map false [.int .i64] a),(.map false [.int .i64] b),(.cells [(.map 1)])]:=by
 unfold M94 at h;refine zI Try.func94 ?_;refine zs (zA (nT (zs ?_)) { esc:=[1] });refine zA (nT (zr ?_)) { tk:=[3] };cases soI h;exact zq

theorem c0T {A:Ar} (hA:SA A) {b:List (D×D)} {e:List (D×D)} {r:List D} (h:M93 A b e=some r):a0j Try.prog 93 [(.func 115 [] [.ptr 2 0])] [(.map false [.int .i64] b),(.map false [.int .i64] e),(.cells [(.map 1)])] (zl 1 r) [(.map false [.int .i64] b),(.map false [.int .i64] e),(.cells [(.map 1)])] :=
 a0j.sortedKeys Try.sk93 { Try.sk94 with } Try.sk114 rfl rfl rfl rfl (a:=1) (c:=2) rfl rfl h rfl

theorem c0t {A:Ar} (hA:SA A) {b:Int} {a:Bool} (h:M92 A b=some a):a0j Try.prog 92 [.d (.int .u64 b)] [] (.d (.bool a)) []:=by
 unfold M92 at h;refine zI Try.func92 ?_;refine zs (zA (nT (zs ?_)));refine zA (nT (zr ?_)) { tk:=[7] };cases soI h;exact zq

theorem c0U {A:Ar} (hA:SA A) {a:List D} {y:Bool} {z:Int} (h:M51 A a=some (y,z)):a0j Try.prog 51 [zl 1 a] [] (.tuple [.d (.bool y),zi z]) []:=by
 unfold M51 at h;refine zI Try.func51 ?_;refine zs (zA (nT (zs (zs (zn ?_)))));obtain ⟨r3,e2,h⟩:=a0a h;refine zC (b8M hA e2) ?_;refine zE (nT ?_);rcases tf r3 with L | L
 ·replace h:=cT L h;refine zU (zk (nT (zs ?_)));refine zB (nT (zs (zs ?_)));refine zB (nT (zb ?_));obtain ⟨w2,j1,e0,g1,N⟩:=a0Q h;refine zM 0 [4,5] [] 2 (fun τ => ∃ s R,e0 (s,R)=some (y,z)/\τ=⟨[(4,(.map 0)),(5,(.map 1))],[(.map false [.int .i64] s),(.map false [.int .i64] R)],75⟩) ?_ ?_
  ·refine zP j1 [4,5,18,19,20] [] 2 (fun (c,Y,a0)=>⟨[(4,(.map 0)),(5,(.map 1)),(18,zl 1 a),(19,(.d (.int .i64 (A.len a)))),(20,zi c)],[(.map false [.int .i64] Y),(.map false [.int .i64] a0)],75⟩) ⟨rfl,zv⟩ ?_;rintro ⟨c,Y,a0⟩ z0 o;dsimp only [b0x] at o;refine zs (zA (nT (zs ?_)));rcases tf (A.zlt c (A.len a)) with C | C
   ·replace o:=cT C o;refine zT (zk (nT (zs (zb (zs ?_)))));obtain ⟨e,k0,o⟩:=a0a o;obtain ⟨d2,g2⟩:=gtI k0;refine zB (nT (zs ?_));refine zB (nT (zb ?_));obtain ⟨v2,i1,d0,e1,M⟩:=a0Q o;refine zM 2 [4,5,18,19,20] [] 2 (fun τ => ∃ P Q,d0 (P,Q)=some z0/\τ=⟨[(4,(.map 0)),(5,(.map 1)),(18,zl 1 a),(19,(.d (.int .i64 (A.len a)))),(20,zi c)],[(.map false [.int .i64] P),(.map false [.int .i64] Q)],75⟩) ?_ ?_
    ·refine zP i1 [4,5,6,18,19,20,25,26,27] [] 2 (fun (q,O,v)=>⟨[(4,(.map 0)),(5,(.map 1)),(6,zi c),(18,zl 1 a),(19,(.d (.int .i64 (A.len a)))),(20,zi c),(25,zl 3 e),(26,(.d (.int .i64 (A.len e)))),(27,zi q)],[(.map false [.int .i64] O),(.map false [.int .i64] v)],75⟩) ⟨rfl,zv⟩ ?_;rintro ⟨q,O,v⟩ b2 m;dsimp only [a7z] at m;refine zs (zA (nT (zs ?_)));rcases tf (A.zlt q (A.len e)) with E | E
     ·replace m:=cT E m;refine zT (zk (nT (zs (zb (zs ?_)))));obtain ⟨⟨B,i0,j0⟩,l0,m⟩:=a0a m;obtain ⟨i2,j2⟩:=gtI l0;refine zB (nT (zs ?_)) { tk:=[30] };refine zB (nT (zb (zs ?_)));refine zB (nT ?_);obtain ⟨⟨s1,u1⟩,k,m⟩:=a0a m;refine zN [4,5,6,18,19,20,25,26,27] [] 2 (fun τ=>τ=⟨[(4,(.map 0)),(5,(.map 1)),(6,zi c),(18,zl 1 a),(19,(.d (.int .i64 (A.len a)))),(20,zi c),(25,zl 3 e),(26,(.d (.int .i64 (A.len e)))),(27,zi q)],[(.map false [.int .i64] s1),(.map false [.int .i64] u1)],75⟩) ?_ ?_
      ·rcases tf (A.zeq B 2) with F | F
       ·replace k:=cT F k;refine zT (zs ?_);obtain ⟨b0,g,k⟩:=a0a k;refine zN [4,5,6,9,18,19,20,25,26,27] [] 2 (fun τ=>τ=⟨[(4,(.map 0)),(5,(.map 1)),(6,zi c),(9,(.lbox [zi B,zi i0,zi j0])),(18,zl 1 a),(19,(.d (.int .i64 (A.len a)))),(20,zi c),(25,zl 3 e),(26,(.d (.int .i64 (A.len e)))),(27,zi q)],[(.map false [.int .i64] O),(.map false [.int .i64] b0)],75⟩) ?_ ?_
        ·obtain ⟨l1,S,g⟩:=a0a g;rcases l1 with _ | v1
         ·have a1:=lkN S;replace g:=noE g;obtain ⟨_,m0,g⟩:=a0a g;have k2:=nkI m0;refine zH ?_;cases soI g;exact zO
         have a1:=lkS S;replace g:=soE g;obtain ⟨_,n0,g⟩:=a0a g;have l2:=nkI n0;refine zH ?_;cases soI g;exact zO
        rintro _ rfl;refine nT ?_;obtain ⟨p1,i,k⟩:=a0a k;refine zN [4,5,6,18,19,20,25,26,27] [] 2 (fun τ=>τ=⟨[(4,(.map 0)),(5,(.map 1)),(6,zi c),(18,zl 1 a),(19,(.d (.int .i64 (A.len a)))),(20,zi c),(25,zl 3 e),(26,(.d (.int .i64 (A.len e)))),(27,zi q)],[(.map false [.int .i64] p1),(.map false [.int .i64] b0)],75⟩) ?_ ?_
        ·obtain ⟨m1,U,i⟩:=a0a i;rcases m1 with _ | w1
         ·have b1:=lkN U;replace i:=noE i;obtain ⟨_,o0,i⟩:=a0a i;have m2:=nkI o0;refine zH ?_;cases soI i;exact zO
         have b1:=lkS U;replace i:=soE i;obtain ⟨_,p0,i⟩:=a0a i;have n2:=nkI p0;refine zH ?_;cases soI i;exact zO
        rintro _ rfl;cases soI k;exact zO
       replace k:=cF F k;refine zU (zs ?_);refine zB (nT ?_);obtain ⟨r1,p,k⟩:=a0a k;refine zN [4,5,6,18,19,20,25,26,27] [] 2 (fun τ=>τ=⟨[(4,(.map 0)),(5,(.map 1)),(6,zi c),(18,zl 1 a),(19,(.d (.int .i64 (A.len a)))),(20,zi c),(25,zl 3 e),(26,(.d (.int .i64 (A.len e)))),(27,zi q)],[(.map false [.int .i64] r1),(.map false [.int .i64] v)],75⟩) ?_ ?_
       ·rcases tf (A.zeq B 1) with G | G
        ·replace p:=cT G p;refine zT ?_;obtain ⟨q1,j,p⟩:=a0a p;refine zN [4,5,6,18,19,20,25,26,27] [] 2 (fun τ=>τ=⟨[(4,(.map 0)),(5,(.map 1)),(6,zi c),(18,zl 1 a),(19,(.d (.int .i64 (A.len a)))),(20,zi c),(25,zl 3 e),(26,(.d (.int .i64 (A.len e)))),(27,zi q)],[(.map false [.int .i64] q1),(.map false [.int .i64] v)],75⟩) ?_ ?_
         ·obtain ⟨n1,V,j⟩:=a0a j;rcases n1 with _ | y1
          ·have c1:=lkN V;replace j:=noE j;obtain ⟨_,q0,j⟩:=a0a j;have o2:=nkI q0;refine zH ?_;cases soI j;exact zO
          have c1:=lkS V;replace j:=soE j;obtain ⟨_,r0,j⟩:=a0a j;have p2:=nkI r0;refine zH ?_;cases soI j;exact zO
         rintro _ rfl;cases soI p;exact zO
        replace p:=cF G p;refine zU (zk ?_);cases soI p;exact zO
       rintro _ rfl;cases soI k;exact zO
      rintro _ rfl;refine nB (nB (nT (zA ?_)));exact nT ⟨_,(soI m).symm,rfl,zc⟩
     replace m:=cF E m;refine zU (AWp.exit (xT (xT ?_)));refine exL m ?_;rintro rfl;exact oxI ⟨rfl,_,_,M,zv⟩
    rintro _ ⟨P,Q,M,rfl⟩;have o:=(e1 _ M);refine xB (nB (nT (zA ?_)));exact nT ⟨_,(soI o).symm,rfl,zc⟩
   replace o:=cF C o;refine zU (AWp.exit (xT (xT ?_)));refine exL o ?_;rintro rfl;exact oxI ⟨rfl,_,_,N,zv⟩
  rintro _ ⟨s,R,N,rfl⟩;have h:=(g1 _ N);refine xB (nT (zs (zA (nT (zs (zs (zn ?_)))))));obtain ⟨_,s0,h⟩:=a0a h;refine zC (c0S hA s0) ?_;obtain ⟨u,u0,h⟩:=a0a h;refine zC (c0T hA u0) ?_;refine zE (nT (zb ?_));refine AWp.weak (Wk.ren [some 0] [4,10,62,63,64] rfl rfl) ?_;obtain ⟨y2,k1,g0,X,r⟩:=a0Q h;refine zM 5 [] [] 1 (fun τ=>g0 (.inl ())=some (y,z)/\τ=⟨[],[(.map false [.int .i64] s)],75⟩) ?_ ?_
  ·refine zP k1 [4,10,62,63,64] [] 1 (fun w=>⟨[(4,(.map 0)),(10,(.func 92 [] [])),(62,zl 1 u),(63,(.d (.int .i64 (A.len u)))),(64,zi w)],[(.map false [.int .i64] s)],75⟩) ⟨rfl,zc⟩ ?_;rintro w c2 b;dsimp only [b1s] at b;refine zs (zA (nT (zs ?_)));rcases tf (A.zlt w (A.len u)) with J | J
   ·replace b:=cT J b;refine zT (zk (nT (zs (zb (zs ?_)))));obtain ⟨z1,v0,b⟩:=a0a b;obtain ⟨q2,r2⟩:=gtI v0;refine zB (nT (zs ?_));obtain ⟨c0,l,b⟩:=a0a b;refine zN [4,10,62,63,64,73] [] 1 (fun τ=>τ=⟨[(4,(.map 0)),(10,(.func 92 [] [])),(62,zl 1 u),(63,(.d (.int .i64 (A.len u)))),(64,zi w),(73,.d (.bool c0))],[(.map false [.int .i64] s)],75⟩) ?_ ?_
    ·refine zn ?_;obtain ⟨o1,W,l⟩:=a0a l;rcases o1 with _ | a2
     ·have d1:=lkN W;replace l:=noE l;obtain ⟨s2,w0,l⟩:=a0a l;refine zD (c0t hA w0) ?_;refine zF ?_;cases soI l;exact zO
     have d1:=lkS W;replace l:=soE l;obtain ⟨u2,y0,l⟩:=a0a l;refine zD (c0t hA y0) ?_;refine zF ?_;cases soI l;exact zO
    rintro _ rfl;refine nT ?_;rcases tf c0 with K | K
    ·replace b:=cT K b;refine zT (zs ?_);refine zB (nT (zr (rB (rT (rT ?_)))));refine exL b ?_;rintro rfl;refine oxR ?_;replace r:=(eR (X _ r));refine rB (rT ?_);cases soI r;exact zq
    replace b:=cF K b;refine zU (zk (nB (nT ?_)));refine zB ?_;exact nT ⟨_,(soI b).symm,rfl,zv⟩
   replace b:=cF J b;refine zU (AWp.exit (xT (xT ?_)));refine exL b ?_;rintro rfl;exact oxI ⟨rfl,r,zv⟩
  rintro _ ⟨r,rfl⟩;have h:=(eL (X _ r));refine xB (nT (zs (zA (nT (zr ?_)))));cases soI h;exact zq
 replace h:=cF L h;refine zT (zs ?_);refine zB (nT (zr (rT ?_)));cases soI h;exact zq
end Go.Am
