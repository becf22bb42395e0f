/- Own text: Genw2. -/
import Derived.Test.YtlljehkmemajkaaGenw1
set_option maxRecDepth 100000
set_option maxHeartbeats 2000000
set_option linter.unusedVariables false
set_option linter.unusedSimpArgs false
namespace Go.Am
open Go Go.Proofs
theorem M97w {A:Ar} (hA:SA A) {a b:Int} {d r:List D} (h:M97 A a b d=some r):ACall Try.prog 97 [.mref 0 1 a b,(.func 98 [] [])] [(.arr 1 d)] (.tuple []) [(.arr 1 r)] :=
 ACall.sortOne Try.sort97 rfl (c:=(cL 1)) (fun _=>rfl) (g:=98) (caps:=[]) rfl (fun _ _ _ h=>M98w hA h) rfl rfl h (i:=0) rfl rfl

theorem M100w {A:Ar} (hA:SA A) {c e:List D} {l:Bool} (h:M100 A c e=some l):ACall Try.prog 100 [zl 1 c,zl 1 e] [] (.d (.bool l)) []:=by
 unfold M100 at h
 refine zI Try.func100 ?_
 refine zs ?_
 refine zA ?_
 refine nT (zs (zs ?_))
 refine zA ?_
 refine nT ?_
 rcases tf (A.zeq (A.len c) (A.len e)) with j | j
 ·replace h:=cT j h
  refine zU ?_
  refine zk (nT (zs (zs ?_)))
  refine zB ?_
  refine nT (zb ?_)
  obtain ⟨C,u,o,m,b⟩:=bindK h
  refine AWp.cutX 0 [] [] 0 (lb rfl) (fun τ=>o (.inl ())=some l/\τ={ env:=[],heap:=[],n:=26 }) ?_ ?_
  ·skip
   refine AWp.iter u [0,1,12,13] [] 0 (lb rfl) (fun k=>{ env:=[(0,zl 1 c),(1,zl 1 e),(12,(.d (.int .i64 (A.len c)))),(13,zi k)],heap:=[],n:=26 }) ⟨rfl,zv⟩ ?_
   rintro k v a
   dsimp only [M100L0] at a
   refine zs ?_
   refine zA ?_
   refine nT (zs ?_)
   rcases tf (A.zlt k (A.len c)) with g | g
   ·replace a:=cT g a
    refine zT ?_
    refine zk (nT (zs (zb (zs ?_))))
    refine zB ?_
    refine nT (zs ?_)
    obtain ⟨p,r,a⟩:=bindS a
    obtain ⟨w,y⟩:=gtI r
    obtain ⟨q,s,a⟩:=bindS a
    obtain ⟨z,B⟩:=gtI s
    refine AWp.rd hT hA {} rfl zu (by kernel_rfl) (lb rfl) ?_
    refine nT ?_
    rcases tf (A.zeq p q) with i | i
    ·replace a:=cT i a
     refine zU ?_
     refine zk (nB (nT ?_))
     refine zB ?_
     exact nT ⟨_,(soI a).symm,rfl,zv⟩
    ·replace a:=cF i a
     refine zT ?_
     refine zs ?_
     refine zB ?_
     refine nT (zr (rB (rT (rT ?_))))
     refine exL a fun hx => ?_
     subst hx
     refine oxR ?_
     replace b:=(eR (m _ b))
     refine rB (rT ?_)
     cases soI b
     exact zq
   ·replace a:=cF g a
    refine zU ?_
    refine AWp.exit (xT (xT ?_))
    refine exL a fun hx => ?_
    subst hx
    exact oxI ⟨rfl,b,zv⟩
  ·rintro _ ⟨b,rfl⟩
   have h:=(eL (m _ b))
   refine xB (nT (zs ?_))
   refine zA ?_
   refine nT (zr ?_)
   cases soI h
   exact zq
 ·replace h:=cF j h
  refine zT ?_
  refine zs ?_
  refine zB ?_
  refine nT (zr (rT ?_))
  cases soI h
  exact zq

theorem M99w {A:Ar} (hA:SA A) {m j:Int} {s:List D} {y z:Int} {B:List D} (h:M99 A m j s=some (y,z,B)):ACall Try.prog 99 [.mref 0 1 m j,(.func 100 [] [])] [(.arr 1 s)] (.mref 0 1 y z) [(.arr 1 B)]:=by
 unfold M99 at h
 refine zI Try.func99 ?_
 refine zs ?_
 refine zA ?_
 refine nT (zs (zs ?_))
 refine zA ?_
 refine nT ?_
 rcases tf (A.zlt j 2) with o | o
 ·replace h:=cT o h
  refine zT ?_ (hb:=(by first | rfl | simp only [o,zqa,zqb,zqc,zqd]))
  refine zs ?_
  refine zA ?_ { tk:=[0,11] } (h:=(by (repeat (cbv;simp only [o]));try cbv))
  refine nT (zr (rT ?_))
  cases soI h
  exact zq
 ·replace h:=cF o h
  refine zU ?_ (hb:=(by first | rfl | simp only [o,zqa,zqb,zqc,zqd]))
  refine zk (nT (zs (zs ?_)))
  refine zA ?_ (h:=(by (repeat (cbv;simp only [o]));try cbv))
  refine nT (zb ?_)
  obtain ⟨s2,d2,W,R,q⟩:=bindK h
  refine AWp.cutX 0 [0] [] 1 (lb rfl) (fun τ=>W (.inl ())=some (y,z,B)/\τ={ env:=[(0,.mref 0 1 m j)],heap:=[(.arr 1 s)],n:=66 }) ?_ ?_
  ·skip
   refine AWp.iter d2 [0,1,5] [] 1 (lb rfl) (fun p=>{ env:=[(0,.mref 0 1 m j),(1,(.func 100 [] [])),(5,zi p)],heap:=[(.arr 1 s)],n:=66 }) ⟨rfl,(by first | (cbv;done) | ((repeat (cbv;simp only [o]));try cbv))⟩ ?_
   rintro p j1 a
   dsimp only [M99L1] at a
   refine zs (zs ?_)
   refine zA ?_
   refine nT ?_
   rcases tf (A.zlt p j) with e | e
   ·replace a:=cT e a
    refine zT ?_ (hb:=(by first | rfl | simp only [e,zqa,zqb,zqc,zqd]))
    refine zk (nT (zs (zb (zs ?_))))
    refine AWp.regionDraw rfl (lb rfl) ?_
    obtain ⟨_,X,a⟩:=bindS a
    have C:=ckI X
    obtain ⟨_,Y,a⟩:=bindS a
    have E:=ckI Y
    obtain ⟨k2,a0,a⟩:=bindS a
    have F:=gcI a0
    obtain ⟨_,b0,a⟩:=bindS a
    have G:=ckI b0
    obtain ⟨_,d0,a⟩:=bindS a
    have J:=ckI d0
    obtain ⟨l2,e0,a⟩:=bindS a
    have K:=gcI e0
    obtain ⟨e2,g0,a⟩:=bindS a
    refine DOps.c0 hT hA {} rfl (by (repeat (cbv;simp only [e,C,E,F,G,J,K]));try cbv) (M100w hA g0) rfl rfl (lb rfl) rfl rfl ?_
    refine DOps.cd hT hA {} rfl (by (repeat (cbv;simp only [e,C,E,F,G,J,K]));try cbv) (by kernel_rfl) ?_
    refine nT ?_
    rcases tf e2 with k | k
    ·replace a:=cT k a
     refine zT ?_ (hb:=(by first | rfl | simp only [e,k,zqa,zqb,zqc,zqd]))
     refine zs ?_
     obtain ⟨_,i0,a⟩:=bindS a
     have k1:=ckI i0
     obtain ⟨_,j0,a⟩:=bindS a
     have l1:=ckI j0
     obtain ⟨_,k0,a⟩:=bindS a
     have m1:=ckI k0
     refine zA ?_ (h:=(by (repeat (cbv;simp only [e,k,k1,l1,m1]));try cbv))
     refine nT (zs (zs ?_))
     refine zA ?_ (h:=(by (repeat (cbv;simp only [e,k]));try cbv))
     refine nT (zb ?_)
     obtain ⟨r2,c2,V,b2,u⟩:=bindK a
     refine AWp.cutX 2 [0,5] [] 1 (lb rfl) (fun τ => ∃ v w,V (v,w)=some j1/\τ={ env:=[(0,.mref 0 1 m j),(5,zi v)],heap:=[(.arr 1 w)],n:=66 }) ?_ ?_
     ·skip
      refine AWp.iter c2 [0,1,5,6,7] [] 1 (lb rfl) (fun (S,r,U)=>{ env:=[(0,.mref 0 1 m j),(1,(.func 100 [] [])),(5,zi S),(6,.mref 0 1 (A.zadd m p) (A.zsub j p)),(7,zi r)],heap:=[(.arr 1 U)],n:=66 }) ⟨rfl,(by first | (cbv;done) | ((repeat (cbv;simp only [e,k]));try cbv))⟩ ?_
      rintro ⟨S,r,U⟩ q2 b
      dsimp only [M99L0] at b
      refine zs (zs ?_)
      refine zA ?_
      refine nT ?_
      rcases tf (A.zlt r (A.zsub j p)) with i | i
      ·replace b:=cT i b
       refine zT ?_ (hb:=(by first | rfl | simp only [i,zqa,zqb,zqc,zqd]))
       refine zk (nT (zs (zb (zs ?_))))
       refine AWp.regionDraw rfl (lb rfl) ?_
       obtain ⟨_,l0,b⟩:=bindS b
       have L:=ckI l0
       obtain ⟨_,m0,b⟩:=bindS b
       have M:=ckI m0
       obtain ⟨m2,n0,b⟩:=bindS b
       have N:=gcI n0
       obtain ⟨_,o0,b⟩:=bindS b
       have O:=ckI o0
       obtain ⟨_,p0,b⟩:=bindS b
       have P:=ckI p0
       obtain ⟨n2,q0,b⟩:=bindS b
       have Q:=gcI q0
       obtain ⟨g2,r0,b⟩:=bindS b
       refine DOps.c0 hT hA {} rfl (by (repeat (cbv;simp only [i,L,M,N,O,P,Q]));try cbv) (M100w hA r0) rfl rfl (lb rfl) rfl rfl ?_
       refine DOps.cd hT hA {} rfl (by (repeat (cbv;simp only [i,L,M,N,O,P,Q]));try cbv) (by kernel_rfl) ?_
       refine nT ?_
       obtain ⟨⟨i2,j2⟩,c,b⟩:=bindS b
       refine AWp.cutN [0,1,5,6,7] [] 1 (lb rfl) (fun τ=>τ={ env:=[(0,.mref 0 1 m j),(1,(.func 100 [] [])),(5,zi i2),(6,.mref 0 1 (A.zadd m p) (A.zsub j p)),(7,zi r)],heap:=[(.arr 1 j2)],n:=66 }) ?_ ?_
       ·skip
        rcases tf g2 with l | l
        ·replace c:=cT l c
         refine zU ?_ (hb:=(by first | rfl | simp only [i,l,zqa,zqb,zqc,zqd]))
         refine zk ?_
         cases soI c
         exact (zO (g:=(by first | (cbv;done) | ((repeat (cbv;simp only [i,l]));try cbv))))
        ·replace c:=cF l c
         refine zT ?_ (hb:=(by first | rfl | simp only [i,l,zqa,zqb,zqc,zqd]))
         refine zs ?_
         obtain ⟨_,s0,c⟩:=bindS c
         have n1:=ckI s0
         obtain ⟨_,u0,c⟩:=bindS c
         have o1:=ckI u0
         obtain ⟨o2,v0,c⟩:=bindS c
         have p1:=gcI v0
         obtain ⟨_,w0,c⟩:=bindS c
         have q1:=ckI w0
         obtain ⟨_,y0,c⟩:=bindS c
         have r1:=ckI y0
         obtain ⟨p2,z0,c⟩:=bindS c
         refine zA ?_ { tk:=[55] } (h:=(by (repeat (cbv;simp only [i,l,n1,o1,p1,q1,r1,z0]));try cbv))
         refine nT ?_
         refine zA ?_ (h:=(by (repeat (cbv;simp only [i,l]));try cbv))
         cases soI c
         exact (zO (g:=(by first | (cbv;done) | ((repeat (cbv;simp only [i,l]));try cbv))))
       ·rintro _ rfl
        refine nB (nT ?_)
        refine zA ?_
        exact nT ⟨_,(soI b).symm,rfl,zc⟩
      ·replace b:=cF i b
       refine zU ?_ (hb:=(by first | rfl | simp only [i,zqa,zqb,zqc,zqd]))
       refine AWp.exit (xT (xT ?_))
       refine exL b fun hx => ?_
       subst hx
       exact oxI ⟨rfl,_,_,u,(by first | (cbv;done) | ((repeat (cbv;simp only [i]));try cbv))⟩
     ·rintro _ ⟨v,w,u,rfl⟩
      have a:=(b2 _ u)
      refine xB (nT (zs ?_))
      obtain ⟨_,a1,a⟩:=bindS a
      have s1:=ckI a1
      obtain ⟨_,b1,a⟩:=bindS a
      have u1:=ckI b1
      obtain ⟨_,c1,a⟩:=bindS a
      have v1:=ckI c1
      obtain ⟨_,d1,a⟩:=bindS a
      have w1:=ckI d1
      refine zA ?_ (h:=(by (repeat (cbv;simp only [s1,u1,v1,w1]));try cbv))
      refine nT (zs ?_)
      obtain ⟨_,e1,a⟩:=bindS a
      have y1:=ckI e1
      obtain ⟨_,g1,a⟩:=bindS a
      have z1:=ckI g1
      obtain ⟨_,i1,a⟩:=bindS a
      have a2:=ckI i1
      refine zA ?_ { tk:=[64] } (h:=(by (repeat (cbv;simp only [y1,z1,a2]));try cbv))
      refine nT (zr (rB (rT (rT ?_))))
      refine exL a fun hx => ?_
      subst hx
      refine oxR ?_
      replace q:=(eR (R _ q))
      refine rB (rT ?_)
      cases soI q
      exact zq
    ·replace a:=cF k a
     refine zU ?_ (hb:=(by first | rfl | simp only [e,k,zqa,zqb,zqc,zqd]))
     refine zk (nB (nT ?_))
     refine zA ?_ (h:=(by (repeat (cbv;simp only [e,k]));try cbv))
     exact nT ⟨_,(soI a).symm,rfl,(by first | (cbv;done) | ((repeat (cbv;simp only [e,k]));try cbv))⟩
   ·replace a:=cF e a
    refine zU ?_ (hb:=(by first | rfl | simp only [e,zqa,zqb,zqc,zqd]))
    refine AWp.exit (xT (xT ?_))
    refine exL a fun hx => ?_
    subst hx
    exact oxI ⟨rfl,q,(by first | (cbv;done) | ((repeat (cbv;simp only [e]));try cbv))⟩
  ·rintro _ ⟨q,rfl⟩
   have h:=(eL (R _ q))
   refine xB (nT (zs ?_))
   refine zA ?_ { tk:=[0,65] }
   refine nT (zr ?_)
   cases soI h
   exact zq

theorem M56w {A:Ar} (hA:SA A) {g:List D} {i z B:Int} {C:List D} (h:M56 A g i=some (z,B,C)):ACall Try.prog 56 [zl 1 g,.d (.iface i)] [] (.mref 0 1 z B) [(.arr 1 C)]:=by
 unfold M56 at h
 refine zI Try.func56 ?_
 refine zs ?_
 refine zA ?_
 refine nT (zs ?_)
 obtain ⟨_,N,h⟩:=bindS h
 have f4:=ckI N
 refine zB ?_ { tk:=[9,12],esc:=[5] }
 refine nT (zs ?_)
 have f5:=lnF hA (l:=((.int .u8 0)::(.int .u8 0)::(.int .u8 0)::(.int .i8 0)::(.int .i8 0)::(.int .i8 0)::(.int .i8 0)::(.int .i8 0)::(.int .i8 0)::(.int .i8 0)::(.int .i8 0)::(.int .i8 0)::(.int .i8 0)::(.int .i8 0)::(.int .i8 0)::(.int .i8 0)::(.int .i8 0)::(.int .i8 0)::(.int .i8 0)::(.int .i8 0)::(.int .i8 0)::(.int .i8 0)::(.int .i8 0)::(.int .i8 0)::(.int .i8 0)::(.int .i8 0)::(.int .i8 0)::(.int .i8 0)::(.int .i8 0)::(.int .i8 0)::(.int .i8 0)::(.int .i8 0)::(.int .i8 0)::(.int .i8 0)::(.int .i8 0)::(.int .i8 0)::(.int .i8 0)::(.int .i8 0)::(.int .i64 0)::(.int .i64 0)::(.int .i64 0)::[])) (n:=41) rfl
 refine zB ?_ { tk:=[14],esc:=[6],gr:=[14] }
 refine nT (zs ?_)
 refine zA ?_
 refine nT (zs (zb ?_))
 refine AWp.weak (Wk.settleS 7 rfl (lb rfl)) ?_
 refine AWp.weak (Wk.ren [some 0,some 1,some 5,some 2,some 3,some 4,some 6,some 7,some 8] [0,1,5,6,7] rfl rfl) ?_
 obtain ⟨l1,c0,F,b0,w⟩:=bindK h
 refine AWp.cutXW 0 (fun τ => ∃ s,F s=some (z,B,C)/\τ={ env:=[(7,.gref 0 1)],heap:=[.gro 1 s,.dead,.dead],n:=47 }) ?_ ?_
 ·skip
  refine AWp.iterW c0 (fun (j,c,E)=>{ env:=[(0,zl 1 g),(1,.d (.iface i)),(5,.ptr 1 0),(6,.ptr 2 0),(7,.gref 6 1)],heap:=[(.map true (.int .u8 :: .int .u8 :: .int .u8 :: .int .i8 :: .int .i8 :: .int .i8 :: .int .i8 :: .int .i8 :: .int .i8 :: .int .i8 :: .int .i8 :: .int .i8 :: .int .i8 :: .int .i8 :: .int .i8 :: .int .i8 :: .int .i8 :: .int .i8 :: .int .i8 :: .int .i8 :: .int .i8 :: .int .i8 :: .int .i8 :: .int .i8 :: .int .i8 :: .int .i8 :: .int .i8 :: .int .i8 :: .int .i8 :: .int .i8 :: .int .i8 :: .int .i8 :: .int .i8 :: .int .i8 :: .int .i8 :: .int .i8 :: .int .i8 :: .int .i8 :: .int .i64 :: .int .i64 :: .int .i64::[]) j),(.cells [(.map 0)]),.cells [.gref 3 41],.gro 41 c,.dead,.dead,.gro 1 E,.dead,.dead],n:=47 }) ⟨_,zR [some 0,some 1,some 2,some 3,some 4,some 5,some 6,some 7,some 8] [0,1,5,6,7],rfl⟩ ?_
  rintro ⟨j,c,E⟩ i0 a
  dsimp only [M56L0] at a
  refine zs (zs ?_)
  refine zA ?_
  refine nT ?_
  rcases tf (A.zlt 0 (A.len c)) with u | u
  ·replace a:=cT u a
   refine zT ?_
   refine zk (nT (zb (zs ?_)))
   obtain ⟨_,O,a⟩:=bindS a
   have j0:=ckI O
   obtain ⟨_,P,a⟩:=bindS a
   have k0:=ckI P
   obtain ⟨m,Q,a⟩:=bindS a
   have l0:=gcI Q
   obtain ⟨_,S,a⟩:=bindS a
   have n0:=ckI S
   obtain ⟨_,R,a⟩:=bindS a
   have m0:=ckI R
   refine zB ?_ { tk:=[23],arr:=[8] }
   refine nT (zs ?_)
   obtain ⟨_,U,a⟩:=bindS a
   have o0:=ckI U
   obtain ⟨_,V,a⟩:=bindS a
   have p0:=ckI V
   refine zB ?_ { tk:=[28] }
   refine nT ?_
   refine AWp.weak (Wk.settle 2 0 rfl rfl rfl) ?_
   refine zs (zs (zn ?_))
   obtain ⟨y,W,a⟩:=bindS a
   obtain ⟨q0,r0,s0⟩:=gaI W
   obtain ⟨d0,X,a⟩:=bindS a
   refine zD (M77w hA X) ?_
   refine zF ?_
   refine nT ?_
   obtain ⟨k,e,a⟩:=bindS a
   refine AWp.cutW (fun τ=>τ={ env:=[(0,zl 1 g),(1,.d (.iface i)),(5,.ptr 1 0),(6,.ptr 2 0),(7,.gref 7 1),(8,.ptr 3 0)],heap:=[(.map true (.int .u8 :: .int .u8 :: .int .u8 :: .int .i8 :: .int .i8 :: .int .i8 :: .int .i8 :: .int .i8 :: .int .i8 :: .int .i8 :: .int .i8 :: .int .i8 :: .int .i8 :: .int .i8 :: .int .i8 :: .int .i8 :: .int .i8 :: .int .i8 :: .int .i8 :: .int .i8 :: .int .i8 :: .int .i8 :: .int .i8 :: .int .i8 :: .int .i8 :: .int .i8 :: .int .i8 :: .int .i8 :: .int .i8 :: .int .i8 :: .int .i8 :: .int .i8 :: .int .i8 :: .int .i8 :: .int .i8 :: .int .i8 :: .int .i8 :: .int .i8 :: .int .i64 :: .int .i64 :: .int .i64::[]) j),(.cells [(.map 0)]),.cells [.gref 4 41],(.arr 1 (A.spl ((.int .u8 0)::(.int .u8 0)::(.int .u8 0)::(.int .i8 0)::(.int .i8 0)::(.int .i8 0)::(.int .i8 0)::(.int .i8 0)::(.int .i8 0)::(.int .i8 0)::(.int .i8 0)::(.int .i8 0)::(.int .i8 0)::(.int .i8 0)::(.int .i8 0)::(.int .i8 0)::(.int .i8 0)::(.int .i8 0)::(.int .i8 0)::(.int .i8 0)::(.int .i8 0)::(.int .i8 0)::(.int .i8 0)::(.int .i8 0)::(.int .i8 0)::(.int .i8 0)::(.int .i8 0)::(.int .i8 0)::(.int .i8 0)::(.int .i8 0)::(.int .i8 0)::(.int .i8 0)::(.int .i8 0)::(.int .i8 0)::(.int .i8 0)::(.int .i8 0)::(.int .i8 0)::(.int .i8 0)::(.int .i64 0)::(.int .i64 0)::(.int .i64 0)::[]) (A.zadd 0 (Int.ofNat 0)) m)),(.gro 41 (A.sub c 0 (A.wrp .i64 (A.zsub (A.len c) 1)))),.dead,.dead,.gro 1 k,.dead,.dead],n:=47 }) ?_ ?_
   ·skip
    rcases tf d0 with v | v
    ·replace e:=cT v e
     refine zT ?_
     refine zn ?_
     obtain ⟨k1,Y,e⟩:=bindS e
     refine zD (M78w hA Y) ?_ { tk:=[7,37] }
     obtain ⟨w0,a0,e⟩:=bindS e
     obtain ⟨u0,v0⟩:=apI a0
     refine zF ?_ { tk:=[7,37],gr:=[37] }
     cases soI e
     exact oWi ⟨_,zR [some 0,some 1,some 2,some 9,some 10,some 11,some 12,some 13,some 14,some 15] [0,1,5,6,7,8],rfl⟩
    ·replace e:=cF v e
     refine zU ?_
     refine zk ?_
     cases soI e
     exact oWi ⟨_,zR [some 0,some 1,some 2,some 9,some 10,some 11,some 12,some 6,some 7,some 8] [0,1,5,6,7,8],rfl⟩
   ·rintro _ rfl
    refine nT ?_
    obtain ⟨⟨e0,g0⟩,b,a⟩:=bindS a
    refine AWp.cutW (fun τ=>τ={ env:=[(0,zl 1 g),(1,.d (.iface i)),(5,.ptr 1 0),(6,.ptr 2 0),(7,.gref 6 1)],heap:=[(.map true (.int .u8 :: .int .u8 :: .int .u8 :: .int .i8 :: .int .i8 :: .int .i8 :: .int .i8 :: .int .i8 :: .int .i8 :: .int .i8 :: .int .i8 :: .int .i8 :: .int .i8 :: .int .i8 :: .int .i8 :: .int .i8 :: .int .i8 :: .int .i8 :: .int .i8 :: .int .i8 :: .int .i8 :: .int .i8 :: .int .i8 :: .int .i8 :: .int .i8 :: .int .i8 :: .int .i8 :: .int .i8 :: .int .i8 :: .int .i8 :: .int .i8 :: .int .i8 :: .int .i8 :: .int .i8 :: .int .i8 :: .int .i8 :: .int .i8 :: .int .i8 :: .int .i64 :: .int .i64 :: .int .i64::[]) e0),(.cells [(.map 0)]),.cells [.gref 3 41],.gro 41 g0,.dead,.dead,.gro 1 k,.dead,.dead],n:=47 }) ?_ ?_
    ·skip
     refine zn ?_
     rcases tf (A.zeq i (Int.ofNat 143)) with o | o
     ·replace b:=cT o b
      rw [ifF hA (n:=143) o]
      obtain ⟨⟨y0,z0⟩,G,b⟩:=bindS b
      refine zD (ACall.emb (args':=[.d (.agg []),zl 1 g,.d (.agg y),(.func 96 [] [.ptr 1 0,.ptr 2 0])]) (M176w hA G) [some 1,some 0,some 2,some 4,some 5,some 6] [(.map true (.int .u8 :: .int .u8 :: .int .u8 :: .int .i8 :: .int .i8 :: .int .i8 :: .int .i8 :: .int .i8 :: .int .i8 :: .int .i8 :: .int .i8 :: .int .i8 :: .int .i8 :: .int .i8 :: .int .i8 :: .int .i8 :: .int .i8 :: .int .i8 :: .int .i8 :: .int .i8 :: .int .i8 :: .int .i8 :: .int .i8 :: .int .i8 :: .int .i8 :: .int .i8 :: .int .i8 :: .int .i8 :: .int .i8 :: .int .i8 :: .int .i8 :: .int .i8 :: .int .i8 :: .int .i8 :: .int .i8 :: .int .i8 :: .int .i8 :: .int .i8 :: .int .i64 :: .int .i64 :: .int .i64::[]) j),(.cells [(.map 0)]),.cells [.gref 4 41],(.arr 1 (A.spl ((.int .u8 0)::(.int .u8 0)::(.int .u8 0)::(.int .i8 0)::(.int .i8 0)::(.int .i8 0)::(.int .i8 0)::(.int .i8 0)::(.int .i8 0)::(.int .i8 0)::(.int .i8 0)::(.int .i8 0)::(.int .i8 0)::(.int .i8 0)::(.int .i8 0)::(.int .i8 0)::(.int .i8 0)::(.int .i8 0)::(.int .i8 0)::(.int .i8 0)::(.int .i8 0)::(.int .i8 0)::(.int .i8 0)::(.int .i8 0)::(.int .i8 0)::(.int .i8 0)::(.int .i8 0)::(.int .i8 0)::(.int .i8 0)::(.int .i8 0)::(.int .i8 0)::(.int .i8 0)::(.int .i8 0)::(.int .i8 0)::(.int .i8 0)::(.int .i8 0)::(.int .i8 0)::(.int .i8 0)::(.int .i64 0)::(.int .i64 0)::(.int .i64 0)::[]) (A.zadd 0 (Int.ofNat 0)) m)),(.gro 41 (A.sub c 0 (A.wrp .i64 (A.zsub (A.len c) 1)))),.dead,.dead,.gro 1 k,.dead,.dead] rfl rfl rfl rfl rfl rfl rfl) ?_
      refine zF ?_
      cases soI b
      exact oWi ⟨_,zR [some 0,some 1,some 2,some 10,some 11,some 12,some 7,some 8,some 9] [0,1,5,6,7],rfl⟩
     ·replace b:=cF o b
      rcases tf (A.zeq i (Int.ofNat 144)) with p | p
      ·replace b:=cT p b
       rw [ifF hA (n:=144) p]
       obtain ⟨⟨a1,b1⟩,J,b⟩:=bindS b
       refine zD (ACall.emb (args':=[.d (.agg []),zl 1 g,.d (.agg y),(.func 96 [] [.ptr 1 0,.ptr 2 0])]) (M177w hA J) [some 1,some 0,some 2,some 4,some 5,some 6] [(.map true (.int .u8 :: .int .u8 :: .int .u8 :: .int .i8 :: .int .i8 :: .int .i8 :: .int .i8 :: .int .i8 :: .int .i8 :: .int .i8 :: .int .i8 :: .int .i8 :: .int .i8 :: .int .i8 :: .int .i8 :: .int .i8 :: .int .i8 :: .int .i8 :: .int .i8 :: .int .i8 :: .int .i8 :: .int .i8 :: .int .i8 :: .int .i8 :: .int .i8 :: .int .i8 :: .int .i8 :: .int .i8 :: .int .i8 :: .int .i8 :: .int .i8 :: .int .i8 :: .int .i8 :: .int .i8 :: .int .i8 :: .int .i8 :: .int .i8 :: .int .i8 :: .int .i64 :: .int .i64 :: .int .i64::[]) j),(.cells [(.map 0)]),.cells [.gref 4 41],(.arr 1 (A.spl ((.int .u8 0)::(.int .u8 0)::(.int .u8 0)::(.int .i8 0)::(.int .i8 0)::(.int .i8 0)::(.int .i8 0)::(.int .i8 0)::(.int .i8 0)::(.int .i8 0)::(.int .i8 0)::(.int .i8 0)::(.int .i8 0)::(.int .i8 0)::(.int .i8 0)::(.int .i8 0)::(.int .i8 0)::(.int .i8 0)::(.int .i8 0)::(.int .i8 0)::(.int .i8 0)::(.int .i8 0)::(.int .i8 0)::(.int .i8 0)::(.int .i8 0)::(.int .i8 0)::(.int .i8 0)::(.int .i8 0)::(.int .i8 0)::(.int .i8 0)::(.int .i8 0)::(.int .i8 0)::(.int .i8 0)::(.int .i8 0)::(.int .i8 0)::(.int .i8 0)::(.int .i8 0)::(.int .i8 0)::(.int .i64 0)::(.int .i64 0)::(.int .i64 0)::[]) (A.zadd 0 (Int.ofNat 0)) m)),(.gro 41 (A.sub c 0 (A.wrp .i64 (A.zsub (A.len c) 1)))),.dead,.dead,.gro 1 k,.dead,.dead] rfl rfl rfl rfl rfl rfl rfl) ?_
       refine zF ?_
       cases soI b
       exact oWi ⟨_,zR [some 0,some 1,some 2,some 10,some 11,some 12,some 7,some 8,some 9] [0,1,5,6,7],rfl⟩
      ·replace b:=cF p b
       rcases tf (A.zeq i (Int.ofNat 145)) with q | q
       ·replace b:=cT q b
        rw [ifF hA (n:=145) q]
        obtain ⟨⟨c1,d1⟩,K,b⟩:=bindS b
        refine zD (ACall.emb (args':=[.d (.agg []),zl 1 g,.d (.agg y),(.func 96 [] [.ptr 1 0,.ptr 2 0])]) (M180w hA K) [some 1,some 0,some 2,some 4,some 5,some 6] [(.map true (.int .u8 :: .int .u8 :: .int .u8 :: .int .i8 :: .int .i8 :: .int .i8 :: .int .i8 :: .int .i8 :: .int .i8 :: .int .i8 :: .int .i8 :: .int .i8 :: .int .i8 :: .int .i8 :: .int .i8 :: .int .i8 :: .int .i8 :: .int .i8 :: .int .i8 :: .int .i8 :: .int .i8 :: .int .i8 :: .int .i8 :: .int .i8 :: .int .i8 :: .int .i8 :: .int .i8 :: .int .i8 :: .int .i8 :: .int .i8 :: .int .i8 :: .int .i8 :: .int .i8 :: .int .i8 :: .int .i8 :: .int .i8 :: .int .i8 :: .int .i8 :: .int .i64 :: .int .i64 :: .int .i64::[]) j),(.cells [(.map 0)]),.cells [.gref 4 41],(.arr 1 (A.spl ((.int .u8 0)::(.int .u8 0)::(.int .u8 0)::(.int .i8 0)::(.int .i8 0)::(.int .i8 0)::(.int .i8 0)::(.int .i8 0)::(.int .i8 0)::(.int .i8 0)::(.int .i8 0)::(.int .i8 0)::(.int .i8 0)::(.int .i8 0)::(.int .i8 0)::(.int .i8 0)::(.int .i8 0)::(.int .i8 0)::(.int .i8 0)::(.int .i8 0)::(.int .i8 0)::(.int .i8 0)::(.int .i8 0)::(.int .i8 0)::(.int .i8 0)::(.int .i8 0)::(.int .i8 0)::(.int .i8 0)::(.int .i8 0)::(.int .i8 0)::(.int .i8 0)::(.int .i8 0)::(.int .i8 0)::(.int .i8 0)::(.int .i8 0)::(.int .i8 0)::(.int .i8 0)::(.int .i8 0)::(.int .i64 0)::(.int .i64 0)::(.int .i64 0)::[]) (A.zadd 0 (Int.ofNat 0)) m)),(.gro 41 (A.sub c 0 (A.wrp .i64 (A.zsub (A.len c) 1)))),.dead,.dead,.gro 1 k,.dead,.dead] rfl rfl rfl rfl rfl rfl rfl) ?_
        refine zF ?_
        cases soI b
        exact oWi ⟨_,zR [some 0,some 1,some 2,some 10,some 11,some 12,some 7,some 8,some 9] [0,1,5,6,7],rfl⟩
       ·replace b:=cF q b
        cases b
    ·rintro _ rfl
     refine nB ?_
     exact nT ⟨_,(soI a).symm,_,zR [some 0,some 1,some 2,some 3,some 4,some 5,some 6,some 7,some 8] [0,1,5,6,7],rfl⟩
  ·replace a:=cF u a
   refine zU ?_
   refine AWp.exit (xT (xT ?_))
   refine exL a fun hx => ?_
   subst hx
   exact oxWI ⟨_,zR [some 6,some 7,some 8] [7],_,w,rfl⟩
 ·rintro _ ⟨s,w,rfl⟩
  have h:=(b0 _ w)
  refine xB (nT (zs ?_))
  rcases tf (A.zlt 0 (A.len s)) with r | r
  ·replace h:=cT r h
   refine AWp.weak (Wk.groArr 7 rfl rfl (neL hA r) (lenL hA)) ?_
   refine zn ?_
   obtain ⟨e1,L,h⟩:=bindS h
   refine zD (M97w hA L) ?_
   refine zF ?_
   refine nT (zs (zn ?_))
   obtain ⟨⟨g1,i1,j1⟩,M,h⟩:=bindS h
   refine zD (M99w hA M) ?_ { tk:=[46] }
   refine zF ?_ { tk:=[46] }
   refine nT ?_
   refine AWp.weak (Wk.ren [some 0] [4] rfl rfl) ?_
   refine zr ?_
   cases soI h
   exact zq
  ·replace h:=cF r h
   cases h

theorem M19w {A:Ar} (hA:SA A) {e:List D} {g:Int} {b:List D} {c:Int} (h:M19 A e g=some (b,c)):ACall Try.prog 19 [zl 1 e,zi g] [] (.tuple [zl 1 b,zi c]) []:=by
 unfold M19 at h
 refine zI Try.func19 ?_
 refine zs ?_
 refine zA ?_
 refine nT (zs (zn ?_))
 obtain ⟨⟨z,p⟩,l,h⟩:=bindS h
 refine zC (M55w hA l) ?_
 refine zE ?_
 refine nT (zs (zs ?_))
 refine zA ?_
 refine nT ?_
 rcases tf (A.zeq p 0) with a | a
 ·replace h:=cT a h
  refine zU ?_
  refine zk (nT (zs (zn ?_)))
  obtain ⟨q,m,h⟩:=bindS h
  have r:=gcI m
  obtain ⟨⟨v,w,y⟩,j,h⟩:=bindS h
  refine zD (M56w hA j) ?_
  refine zF ?_
  refine nT ?_
  obtain ⟨u,k,h⟩:=bindS h
  obtain ⟨n,o⟩:=fzI hA k
  refine AWp.freeze (s:=4) (i:=0) rfl rfl n o ?_
  refine zr ?_
  cases soI h
  exact zq
 ·replace h:=cF a h
  refine zT ?_
  refine zs ?_
  refine zB ?_
  refine nT (zr (rT ?_))
  cases soI h
  exact zq

theorem M103w {A:Ar} (hA:SA A) {c i:List D} {q:Int} {r:Bool} (h:M103 A c i=some (q,r)):ACall Try.prog 103 [zl 1 c,zl 1 i,(.func 98 [] [])] [] (.tuple [zi q,.d (.bool r)]) []:=by
 unfold M103 at h
 refine zI Try.func103 ?_
 refine zs ?_
 refine zA ?_
 refine nT (zs ?_)
 refine zA ?_
 refine nT (zs ?_)
 refine zA ?_
 refine nT (zs (zb ?_))
 obtain ⟨U,C,s,B,m⟩:=bindK h
 refine AWp.cutX 0 [0,1,2,8,9] [] 0 (lb rfl) (fun τ => ∃ g,s g=some (q,r)/\τ={ env:=[(0,zl 1 c),(1,zl 1 i),(2,(.func 98 [] [])),(8,(.d (.int .i64 (A.len c)))),(9,zi g)],heap:=[],n:=49 }) ?_ ?_
 ·skip
  refine AWp.iter C [0,1,2,8,9,10] [] 0 (lb rfl) (fun (o,p)=>{ env:=[(0,zl 1 c),(1,zl 1 i),(2,(.func 98 [] [])),(8,(.d (.int .i64 (A.len c)))),(9,zi o),(10,zi p)],heap:=[],n:=49 }) ⟨rfl,zc⟩ ?_
  rintro ⟨o,p⟩ M a
  dsimp only [M103L0] at a
  refine zs (zs ?_)
  refine zA ?_
  refine nT ?_
  rcases tf (A.zlt o p) with j | j
  ·replace a:=cT j a
   refine zT ?_
   refine zk (nT (zb (zs ?_)))
   obtain ⟨_,u,a⟩:=bindS a
   have N:=nkI u
   refine zB ?_
   refine nT (zs (zn ?_))
   obtain ⟨K,v,a⟩:=bindS a
   obtain ⟨O,P⟩:=gtI v
   obtain ⟨E,w,a⟩:=bindS a
   refine zD (M98w hA w) ?_
   refine zF ?_
   refine nT ?_
   obtain ⟨⟨F,G⟩,e,a⟩:=bindS a
   refine AWp.cutN [0,1,2,8,9,10] [] 0 (lb rfl) (fun τ=>τ={ env:=[(0,zl 1 c),(1,zl 1 i),(2,(.func 98 [] [])),(8,(.d (.int .i64 (A.len c)))),(9,zi F),(10,zi G)],heap:=[],n:=49 }) ?_ ?_
   ·skip
    rcases tf (A.zlt E 0) with k | k
    ·replace e:=cT k e
     refine zT ?_
     refine zB ?_
     cases soI e
     exact zO
    ·replace e:=cF k e
     refine zU ?_
     refine zB ?_
     cases soI e
     exact zO
   ·rintro _ rfl
    refine nB ?_
    exact nT ⟨_,(soI a).symm,rfl,zc⟩
  ·replace a:=cF j a
   refine zU ?_
   refine AWp.exit (xT (xT ?_))
   refine exL a fun hx => ?_
   subst hx
   exact oxI ⟨rfl,_,m,zv⟩
 ·rintro _ ⟨g,m,rfl⟩
  have h:=(B _ m)
  refine xB (nT (zs ?_))
  obtain ⟨J,b,h⟩:=bindS h
  refine AWp.cutN [6,7] [] 0 (lb rfl) (fun τ=>τ={ env:=[(6,zi g),(7,.d (.bool J))],heap:=[],n:=49 }) ?_ ?_
  ·skip
   refine zn ?_
   rcases tf (A.zlt g (A.len c)) with l | l
   ·replace b:=cT l b
    obtain ⟨L,y,b⟩:=bindS b
    obtain ⟨Q,R⟩:=gtI y
    obtain ⟨S,z,b⟩:=bindS b
    refine zD (M98w hA z) ?_
    refine zF ?_
    cases soI b
    exact zO
   ·replace b:=cF l b
    refine zF ?_
    cases soI b
    exact zO
  ·rintro _ rfl
   refine nT (zr ?_)
   cases soI h
   exact zq

theorem M59w {A:Ar} (hA:SA A) {b c:List D} {a:Bool} (h:M59 A b c=some a):ACall Try.prog 59 [zl 1 b,zl 1 c] [] (.d (.bool a)) []:=by
 unfold M59 at h
 refine zI Try.func59 ?_
 refine zs ?_
 refine zA ?_
 refine nT (zs (zn ?_))
 obtain ⟨⟨g,i⟩,e,h⟩:=bindS h
 refine zC (M103w hA e) ?_ { tk:=[12] }
 refine zE ?_ { tk:=[12] }
 refine nT (zs ?_)
 refine zA ?_ { tk:=[6,13] }
 refine nT (zr ?_)
 cases soI h
 exact zq

theorem M21w {A:Ar} (hA:SA A) {i:List D} {j:Int} {k:List D} {e:Bool} {g:Int} (h:M21 A i j k=some (e,g)):ACall Try.prog 21 [zl 1 i,zi j,zl 1 k] [] (.tuple [.d (.bool e),zi g]) []:=by
 unfold M21 at h
 refine zI Try.func21 ?_
 refine zs ?_
 refine zA ?_
 refine nT (zs (zn ?_))
 obtain ⟨⟨p,c⟩,l,h⟩:=bindS h
 refine zC (M19w hA l) ?_
 refine zE ?_
 refine nT (zs ?_)
 obtain ⟨o,a,h⟩:=bindS h
 refine AWp.cutN [6,7] [] 0 (lb rfl) (fun τ=>τ={ env:=[(6,.d (.bool o)),(7,zi c)],heap:=[],n:=24 }) ?_ ?_
 ·skip
  refine zn ?_
  rcases tf (A.zeq c 0) with b | b
  ·replace a:=cT b a
   obtain ⟨q,m,a⟩:=bindS a
   refine zD (M59w hA m) ?_
   refine zF ?_
   cases soI a
   exact zO
  ·replace a:=cF b a
   refine zF ?_
   cases soI a
   exact zO
 ·rintro _ rfl
  refine nT (zr ?_)
  cases soI h
  exact zq

theorem M18w {A:Ar} (hA:SA A) {g:Bool} (h:M18 A=some g):ACall Try.prog 18 [] [] (.d (.bool g)) []:=by
 unfold M18 at h
 refine zI Try.func18 ?_
 refine zs ?_
 refine zA ?_
 refine nT (zs ?_)
 refine zA ?_
 refine nT (zs (zn ?_))
 obtain ⟨⟨k,l⟩,i,h⟩:=bindS h
 refine zC (M21w hA i) ?_
 refine zE ?_
 refine nT (zs (zn ?_))
 obtain ⟨⟨p,m⟩,j,h⟩:=bindS h
 refine zC (M21w hA j) ?_
 refine zE ?_
 refine nT (zs ?_)
 obtain ⟨o,a,h⟩:=bindS h
 refine AWp.cutN [0] [] 0 (lb rfl) (fun τ=>τ={ env:=[(0,.d (.bool o))],heap:=[],n:=38 }) ?_ ?_
 ·skip
  rcases tf (A.zeq l 0) with b | b
  ·replace a:=cT b a
   rcases tf (A.zeq m 0) with c | c
   ·replace a:=cT c a
    rcases tf k with e | e
    ·replace a:=cT e a
     refine zB ?_ { tk:=[37] }
     cases soI a
     exact zO
    ·replace a:=cF e a
     refine zB ?_ { tk:=[37] }
     cases soI a
     exact zO
   ·replace a:=cF c a
    refine zB ?_ { tk:=[37] }
    cases soI a
    exact zO
  ·replace a:=cF b a
   refine zB ?_ { tk:=[37] }
   cases soI a
   exact zO
 ·rintro _ rfl
  refine nT (zr ?_)
  cases soI h
  exact zq

theorem M30w {A:Ar} (hA:SA A) {e g:List D} {m:Int} (h:M30 A e g=some m):ACall Try.prog 30 [zl 1 e,zl 1 g] [] (zi m) []:=by
 unfold M30 at h
 refine zI Try.func30 ?_
 refine zs ?_
 refine zA ?_
 refine nT (zs (zs ?_))
 refine zA ?_
 refine nT (zb ?_)
 obtain ⟨F,w,q,o,b⟩:=bindK h
 refine AWp.cutX 0 [0,1] [] 0 (lb rfl) (fun τ=>q (.inl ())=some m/\τ={ env:=[(0,zl 1 e),(1,zl 1 g)],heap:=[],n:=41 }) ?_ ?_
 ·skip
  refine AWp.iter w [0,1,5] [] 0 (lb rfl) (fun i=>{ env:=[(0,zl 1 e),(1,zl 1 g),(5,zi i)],heap:=[],n:=41 }) ⟨rfl,zc⟩ ?_
  rintro i y a
  dsimp only [M30L0] at a
  refine zs (zs ?_)
  obtain ⟨p,c,a⟩:=bindS a
  refine AWp.cutN [0,1,5,15] [] 0 (lb rfl) (fun τ=>τ={ env:=[(0,zl 1 e),(1,zl 1 g),(5,zi i),(15,.d (.bool p))],heap:=[],n:=41 }) ?_ ?_
  ·skip
   rcases tf (A.zlt i (A.len e)) with j | j
   ·replace c:=cT j c
    refine zB ?_
    cases soI c
    exact zO
   ·replace c:=cF j c
    refine zB ?_
    cases soI c
    exact zO
  ·rintro _ rfl
   refine nT ?_
   rcases tf p with k | k
   ·replace a:=cT k a
    refine zT ?_
    refine zk (nT (zs (zb (zs ?_))))
    obtain ⟨r,u,a⟩:=bindS a
    obtain ⟨z,B⟩:=gtI u
    obtain ⟨s,v,a⟩:=bindS a
    obtain ⟨C,E⟩:=gtI v
    refine AWp.rd hT hA {} rfl zu (by kernel_rfl) (lb rfl) ?_
    refine nT ?_
    rcases tf (A.zeq r s) with l | l
    ·replace a:=cT l a
     refine zU ?_
     refine zk (nB (nT ?_))
     refine zB ?_
     exact nT ⟨_,(soI a).symm,rfl,zv⟩
    ·replace a:=cF l a
     refine zT ?_
     refine zs ?_
     refine AWp.rd hT hA { tk:=[35] } rfl zu (by kernel_rfl) (lb rfl) ?_
     refine nT (zr (rB (rT (rT ?_))))
     refine exL a fun hx => ?_
     subst hx
     refine oxR ?_
     replace b:=(eR (o _ b))
     refine rB (rT ?_)
     cases soI b
     exact zq
   ·replace a:=cF k a
    refine zU ?_
    refine AWp.exit (xT (xT ?_))
    refine exL a fun hx => ?_
    subst hx
    exact oxI ⟨rfl,b,zv⟩
 ·rintro _ ⟨b,rfl⟩
  have h:=(eL (o _ b))
  refine xB (nT (zs ?_))
  refine zA ?_ { tk:=[40] }
  refine nT (zr ?_)
  cases soI h
  exact zq
end Go.Am
