/- Own text: Genw2. -/
import Derived.Test.YtlljehkmemajkaaGenw1
set_option maxRecDepth 100000
set_option maxHeartbeats 2000000
set_option linter.unusedVariables false
set_option linter.unusedSimpArgs false
namespace Go.Am
open Go Go.Proofs
theorem M97w {A:Ar} (hA:SA A) {a b:Int} {d r:List D} (h:M97 A a b d=some r):ACall Try.prog 97 [.mref 0 1 a b,(.func 98 [] [])] [(.arr 1 d)] (.tuple []) [(.arr 1 r)] :=
 ACall.sortOne Try.sort97 rfl (c:=(cL 1)) (fun _=>rfl) (g:=98) (caps:=[]) rfl (fun _ _ _ h=>M98w hA h) rfl rfl h (i:=0) rfl rfl

theorem M100w {A:Ar} (hA:SA A) {c e:List D} {l:Bool} (h:M100 A c e=some l):ACall Try.prog 100 [zl 1 c,zl 1 e] [] (.d (.bool l)) []:=by
 unfold M100 at h
 refine zI Try.func100 ?_
 refine zs ?_
 refine zA ?_
 refine nT (zs (zs ?_))
 refine zA ?_
 refine nT ?_
 rcases tf (A.zeq (A.len c) (A.len e)) with j | j
 ·replace h:=cT j h
  refine zU ?_
  refine zk (nT (zs (zs ?_)))
  refine zB ?_
  refine nT (zb ?_)
  obtain ⟨C,u,o,m,b⟩:=bindK h
  refine AWp.cutX 0 [] [] 0 (lb rfl) (fun τ=>o (.inl ())=some l/\τ={ env:=[],heap:=[],n:=26 }) ?_ ?_
  ·skip
   refine AWp.iter u [0,1,12,13] [] 0 (lb rfl) (fun k=>{ env:=[(0,zl 1 c),(1,zl 1 e),(12,(.d (.int .i64 (A.len c)))),(13,zi k)],heap:=[],n:=26 }) ⟨rfl,zv⟩ ?_
   rintro k v a
   dsimp only [M100L0] at a
   refine zs ?_
   refine zA ?_
   refine nT (zs ?_)
   rcases tf (A.zlt k (A.len c)) with g | g
   ·replace a:=cT g a
    refine zT ?_
    refine zk (nT (zs (zb (zs ?_))))
    refine zB ?_
    refine nT (zs ?_)
    obtain ⟨p,r,a⟩:=bindS a
    obtain ⟨w,y⟩:=gtI r
    obtain ⟨q,s,a⟩:=bindS a
    obtain ⟨z,B⟩:=gtI s
    refine AWp.rd hT hA {} rfl zu (by kernel_rfl) (lb rfl) ?_
    refine nT ?_
    rcases tf (A.zeq p q) with i | i
    ·replace a:=cT i a
     refine zU ?_
     refine zk (nB (nT ?_))
     refine zB ?_
     exact nT ⟨_,(soI a).symm,rfl,zv⟩
    ·replace a:=cF i a
     refine zT ?_
     refine zs ?_
     refine zB ?_
     refine nT (zr (rB (rT (rT ?_))))
     refine exL a fun hx => ?_
     subst hx
     refine oxR ?_
     replace b:=(eR (m _ b))
     refine rB (rT ?_)
     cases soI b
     exact zq
   ·replace a:=cF g a
    refine zU ?_
    refine AWp.exit (xT (xT ?_))
    refine exL a fun hx => ?_
    subst hx
    exact oxI ⟨rfl,b,zv⟩
  ·rintro _ ⟨b,rfl⟩
   have h:=(eL (m _ b))
   refine xB (nT (zs ?_))
   refine zA ?_
   refine nT (zr ?_)
   cases soI h
   exact zq
 ·replace h:=cF j h
  refine zT ?_
  refine zs ?_
  refine zB ?_
  refine nT (zr (rT ?_))
  cases soI h
  exact zq

theorem M99w {A:Ar} (hA:SA A) {m j:Int} {s:List D} {y z:Int} {B:List D} (h:M99 A m j s=some (y,z,B)):ACall Try.prog 99 [.mref 0 1 m j,(.func 100 [] [])] [(.arr 1 s)] (.mref 0 1 y z) [(.arr 1 B)]:=by
 unfold M99 at h
 refine zI Try.func99 ?_
 refine zs ?_
 refine zA ?_
 refine nT (zs (zs ?_))
 refine zA ?_
 refine nT ?_
 rcases tf (A.zlt j 2) with o | o
 ·replace h:=cT o h
  refine zT ?_ (hb:=(by first | rfl | simp only [o,zqa,zqb,zqc,zqd]))
  refine zs ?_
  refine zA ?_ { tk:=[0,11] } (h:=(by (repeat (cbv;simp only [o]));try cbv))
  refine nT (zr (rT ?_))
  cases soI h
  exact zq
 ·replace h:=cF o h
  refine zU ?_ (hb:=(by first | rfl | simp only [o,zqa,zqb,zqc,zqd]))
  refine zk (nT (zs (zs ?_)))
  refine zA ?_ (h:=(by (repeat (cbv;simp only [o]));try cbv))
  refine nT (zb ?_)
  obtain ⟨s2,d2,W,R,q⟩:=bindK h
  refine AWp.cutX 0 [0] [] 1 (lb rfl) (fun τ=>W (.inl ())=some (y,z,B)/\τ={ env:=[(0,.mref 0 1 m j)],heap:=[(.arr 1 s)],n:=66 }) ?_ ?_
  ·skip
   refine AWp.iter d2 [0,1,5] [] 1 (lb rfl) (fun p=>{ env:=[(0,.mref 0 1 m j),(1,(.func 100 [] [])),(5,zi p)],heap:=[(.arr 1 s)],n:=66 }) ⟨rfl,(by first | (cbv;done) | ((repeat (cbv;simp only [o]));try cbv))⟩ ?_
   rintro p j1 a
   dsimp only [M99L1] at a
   refine zs (zs ?_)
   refine zA ?_
   refine nT ?_
   rcases tf (A.zlt p j) with e | e
   ·replace a:=cT e a
    refine zT ?_ (hb:=(by first | rfl | simp only [e,zqa,zqb,zqc,zqd]))
    refine zk (nT (zs (zb (zs ?_))))
    refine AWp.regionDraw rfl (lb rfl) ?_
    obtain ⟨_,X,a⟩:=bindS a
    have C:=ckI X
    obtain ⟨_,Y,a⟩:=bindS a
    have E:=ckI Y
    obtain ⟨k2,a0,a⟩:=bindS a
    have F:=gcI a0
    obtain ⟨_,b0,a⟩:=bindS a
    have G:=ckI b0
    obtain ⟨_,d0,a⟩:=bindS a
    have J:=ckI d0
    obtain ⟨l2,e0,a⟩:=bindS a
    have K:=gcI e0
    obtain ⟨e2,g0,a⟩:=bindS a
    refine DOps.c0 hT hA {} rfl (by (repeat (cbv;simp only [e,C,E,F,G,J,K]));try cbv) (M100w hA g0) rfl rfl (lb rfl) rfl rfl ?_
    refine DOps.cd hT hA {} rfl (by (repeat (cbv;simp only [e,C,E,F,G,J,K]));try cbv) (by kernel_rfl) ?_
    refine nT ?_
    rcases tf e2 with k | k
    ·replace a:=cT k a
     refine zT ?_ (hb:=(by first | rfl | simp only [e,k,zqa,zqb,zqc,zqd]))
     refine zs ?_
     obtain ⟨_,i0,a⟩:=bindS a
     have k1:=ckI i0
     obtain ⟨_,j0,a⟩:=bindS a
     have l1:=ckI j0
     obtain ⟨_,k0,a⟩:=bindS a
     have m1:=ckI k0
     refine zA ?_ (h:=(by (repeat (cbv;simp only [e,k,k1,l1,m1]));try cbv))
     refine nT (zs (zs ?_))
     refine zA ?_ (h:=(by (repeat (cbv;simp only [e,k]));try cbv))
     refine nT (zb ?_)
     obtain ⟨r2,c2,V,b2,u⟩:=bindK a
     refine AWp.cutX 2 [0,5] [] 1 (lb rfl) (fun τ => ∃ v w,V (v,w)=some j1/\τ={ env:=[(0,.mref 0 1 m j),(5,zi v)],heap:=[(.arr 1 w)],n:=66 }) ?_ ?_
     ·skip
      refine AWp.iter c2 [0,1,5,6,7] [] 1 (lb rfl) (fun (S,r,U)=>{ env:=[(0,.mref 0 1 m j),(1,(.func 100 [] [])),(5,zi S),(6,.mref 0 1 (A.zadd m p) (A.zsub j p)),(7,zi r)],heap:=[(.arr 1 U)],n:=66 }) ⟨rfl,(by first | (cbv;done) | ((repeat (cbv;simp only [e,k]));try cbv))⟩ ?_
      rintro ⟨S,r,U⟩ q2 b
      dsimp only [M99L0] at b
      refine zs (zs ?_)
      refine zA ?_
      refine nT ?_
      rcases tf (A.zlt r (A.zsub j p)) with i | i
      ·replace b:=cT i b
       refine zT ?_ (hb:=(by first | rfl | simp only [i,zqa,zqb,zqc,zqd]))
       refine zk (nT (zs (zb (zs ?_))))
       refine AWp.regionDraw rfl (lb rfl) ?_
       obtain ⟨_,l0,b⟩:=bindS b
       have L:=ckI l0
       obtain ⟨_,m0,b⟩:=bindS b
       have M:=ckI m0
       obtain ⟨m2,n0,b⟩:=bindS b
       have N:=gcI n0
       obtain ⟨_,o0,b⟩:=bindS b
       have O:=ckI o0
       obtain ⟨_,p0,b⟩:=bindS b
       have P:=ckI p0
       obtain ⟨n2,q0,b⟩:=bindS b
       have Q:=gcI q0
       obtain ⟨g2,r0,b⟩:=bindS b
       refine DOps.c0 hT hA {} rfl (by (repeat (cbv;simp only [i,L,M,N,O,P,Q]));try cbv) (M100w hA r0) rfl rfl (lb rfl) rfl rfl ?_
       refine DOps.cd hT hA {} rfl (by (repeat (cbv;simp only [i,L,M,N,O,P,Q]));try cbv) (by kernel_rfl) ?_
       refine nT ?_
       obtain ⟨⟨i2,j2⟩,c,b⟩:=bindS b
       refine AWp.cutN [0,1,5,6,7] [] 1 (lb rfl) (fun τ=>τ={ env:=[(0,.mref 0 1 m j),(1,(.func 100 [] [])),(5,zi i2),(6,.mref 0 1 (A.zadd m p) (A.zsub j p)),(7,zi r)],heap:=[(.arr 1 j2)],n:=66 }) ?_ ?_
       ·skip
        rcases tf g2 with l | l
        ·replace c:=cT l c
         refine zU ?_ (hb:=(by first | rfl | simp only [i,l,zqa,zqb,zqc,zqd]))
         refine zk ?_
         cases soI c
         exact (zO (g:=(by first | (cbv;done) | ((repeat (cbv;simp only [i,l]));try cbv))))
        ·replace c:=cF l c
         refine zT ?_ (hb:=(by first | rfl | simp only [i,l,zqa,zqb,zqc,zqd]))
         refine zs ?_
         obtain ⟨_,s0,c⟩:=bindS c
         have n1:=ckI s0
         obtain ⟨_,u0,c⟩:=bindS c
         have o1:=ckI u0
         obtain ⟨o2,v0,c⟩:=bindS c
         have p1:=gcI v0
         obtain ⟨_,w0,c⟩:=bindS c
         have q1:=ckI w0
         obtain ⟨_,y0,c⟩:=bindS c
         have r1:=ckI y0
         obtain ⟨p2,z0,c⟩:=bindS c
         refine zA ?_ { tk:=[55] } (h:=(by (repeat (cbv;simp only [i,l,n1,o1,p1,q1,r1,z0]));try cbv))
         refine nT ?_
         refine zA ?_ (h:=(by (repeat (cbv;simp only [i,l]));try cbv))
         cases soI c
         exact (zO (g:=(by first | (cbv;done) | ((repeat (cbv;simp only [i,l]));try cbv))))
       ·rintro _ rfl
        refine nB (nT ?_)
        refine zA ?_
        exact nT ⟨_,(soI b).symm,rfl,zc⟩
      ·replace b:=cF i b
       refine zU ?_ (hb:=(by first | rfl | simp only [i,zqa,zqb,zqc,zqd]))
       refine AWp.exit (xT (xT ?_))
       refine exL b fun hx => ?_
       subst hx
       exact oxI ⟨rfl,_,_,u,(by first | (cbv;done) | ((repeat (cbv;simp only [i]));try cbv))⟩
     ·rintro _ ⟨v,w,u,rfl⟩
      have a:=(b2 _ u)
      refine xB (nT (zs ?_))
      obtain ⟨_,a1,a⟩:=bindS a
      have s1:=ckI a1
      obtain ⟨_,b1,a⟩:=bindS a
      have u1:=ckI b1
      obtain ⟨_,c1,a⟩:=bindS a
      have v1:=ckI c1
      obtain ⟨_,d1,a⟩:=bindS a
      have w1:=ckI d1
      refine zA ?_ (h:=(by (repeat (cbv;simp only [s1,u1,v1,w1]));try cbv))
      refine nT (zs ?_)
      obtain ⟨_,e1,a⟩:=bindS a
      have y1:=ckI e1
      obtain ⟨_,g1,a⟩:=bindS a
      have z1:=ckI g1
      obtain ⟨_,i1,a⟩:=bindS a
      have a2:=ckI i1
      refine zA ?_ { tk:=[64] } (h:=(by (repeat (cbv;simp only [y1,z1,a2]));try cbv))
      refine nT (zr (rB (rT (rT ?_))))
      refine exL a fun hx => ?_
      subst hx
      refine oxR ?_
      replace q:=(eR (R _ q))
      refine rB (rT ?_)
      cases soI q
      exact zq
    ·replace a:=cF k a
     refine zU ?_ (hb:=(by first | rfl | simp only [e,k,zqa,zqb,zqc,zqd]))
     refine zk (nB (nT ?_))
     refine zA ?_ (h:=(by (repeat (cbv;simp only [e,k]));try cbv))
     exact nT ⟨_,(soI a).symm,rfl,(by first | (cbv;done) | ((repeat (cbv;simp only [e,k]));try cbv))⟩
   ·replace a:=cF e a
    refine zU ?_ (hb:=(by first | rfl | simp only [e,zqa,zqb,zqc,zqd]))
    refine AWp.exit (xT (xT ?_))
    refine exL a fun hx => ?_
    subst hx
    exact oxI ⟨rfl,q,(by first | (cbv;done) | ((repeat (cbv;simp only [e]));try cbv))⟩
  ·rintro _ ⟨q,rfl⟩
   have h:=(eL (R _ q))
   refine xB (nT (zs ?_))
   refine zA ?_ { tk:=[0,65] }
   refine nT (zr ?_)
   cases soI h
   exact zq

theorem M56w {A:Ar} (hA:SA A) {g:List D} {i z B:Int} {C:List D} (h:M56 A g i=some (z,B,C)):ACall Try.prog 56 [zl 1 g,.d (.iface i)] [] (.mref 0 1 z B) [(.arr 1 C)]:=by
 unfold M56 at h
 refine zI Try.func56 ?_
 refine zs ?_
 refine zA ?_
 refine nT (zs ?_)
 obtain ⟨_,N,h⟩:=bindS h
 have f4:=ckI N
 refine zB ?_ { tk:=[9,12],esc:=[5] }
 refine nT (zs ?_)
 have f5:=lnF hA (l:=((.int .u8 0)::(.int .u8 0)::(.int .u8 0)::(.int .i8 0)::(.int .i8 0)::(.int .i8 0)::(.int .i8 0)::(.int .i8 0)::(.int .i8 0)::(.int .i8 0)::(.int .i8 0)::(.int .i8 0)::(.int .i8 0)::(.int .i8 0)::(.int .i8 0)::(.int .i8 0)::(.int .i8 0)::(.int .i8 0)::(.int .i8 0)::(.int .i8 0)::(.int .i8 0)::(.int .i8 0)::(.int .i8 0)::(.int .i8 0)::(.int .i8 0)::(.int .i8 0)::(.int .i8 0)::(.int .i8 0)::(.int .i8 0)::(.int .i8 0)::(.int .i8 0)::(.int .i8 0)::(.int .i8 0)::(.int .i8 0)::(.int .i8 0)::(.int .i8 0)::(.int .i8 0)::(.int .i8 0)::(.int .i64 0)::(.int .i64 0)::(.int .i64 0)::[])) (n:=41) rfl
 refine zB ?_ { tk:=[14],esc:=[6],gr:=[14] }
 refine nT (zs ?_)
 refine zA ?_
 refine nT (zs (zb ?_))
 refine AWp.weak (Wk.settleS 7 rfl (lb rfl)) ?_
 refine AWp.weak (Wk.ren [some 0,some 1,some 5,some 2,some 3,some 4,some 6,some 7,some 8] [0,1,5,6,7] rfl rfl) ?_
 obtain ⟨l1,c0,F,b0,w⟩:=bindK h
 refine AWp.cutXW 0 (fun τ => ∃ s,F s=some (z,B,C)/\τ={ env:=[(7,.gref 0 1)],heap:=[.gro 1 s,.dead,.dead],n:=47 }) ?_ ?_
 ·skip
  refine AWp.iterW c0 (fun (j,c,E)=>{ env:=[(0,zl 1 g),(1,.d (.iface i)),(5,.ptr 1 0),(6,.ptr 2 0),(7,.gref 6 1)],heap:=[(.map true (.int .u8 :: .int .u8 :: .int .u8 :: .int .i8 :: .int .i8 :: .int .i8 :: .int .i8 :: .int .i8 :: .int .i8 :: .int .i8 :: .int .i8 :: .int .i8 :: .int .i8 :: .int .i8 :: .int .i8 :: .int .i8 :: .int .i8 :: .int .i8 :: .int .i8 :: .int .i8 :: .int .i8 :: .int .i8 :: .int .i8 :: .int .i8 :: .int .i8 :: .int .i8 :: .int .i8 :: .int .i8 :: .int .i8 :: .int .i8 :: .int .i8 :: .int .i8 :: .int .i8 :: .int .i8 :: .int .i8 :: .int .i8 :: .int .i8 :: .int .i8 :: .int .i64 :: .int .i64 :: .int .i64::[]) j),(.cells [(.map 0)]),.cells [.gref 3 41],.gro 41 c,.dead,.dead,.gro 1 E,.dead,.dead],n:=47 }) ⟨_,zR [some 0,some 1,some 2,some 3,some 4,some 5,some 6,some 7,some 8] [0,1,5,6,7],rfl⟩ ?_
  rintro ⟨j,c,E⟩ i0 a
  dsimp only [M56L0] at a
  refine zs (zs ?_)
  refine zA ?_
  refine nT ?_
  rcases tf (A.zlt 0 (A.len c)) with u | u
  ·replace a:=cT u a
   refine zT ?_
   refine zk (nT (zb (zs ?_)))
   obtain ⟨_,O,a⟩:=bindS a
   have j0:=ckI O
   obtain ⟨_,P,a⟩:=bindS a
   have k0:=ckI P
   obtain ⟨m,Q,a⟩:=bindS a
   have l0:=gcI Q
   obtain ⟨_,S,a⟩:=bindS a
   have n0:=ckI S
   obtain ⟨_,R,a⟩:=bindS a
   have m0:=ckI R
   refine zB ?_ { tk:=[23],arr:=[8] }
   refine nT (zs ?_)
   obtain ⟨_,U,a⟩:=bindS a
   have o0:=ckI U
   obtain ⟨_,V,a⟩:=bindS a
   have p0:=ckI V
   refine zB ?_ { tk:=[28] }
   refine nT ?_
   refine AWp.weak (Wk.settle 2 0 rfl rfl rfl) ?_
   refine zs (zs (zn ?_))
   obtain ⟨y,W,a⟩:=bindS a
   obtain ⟨q0,r0,s0⟩:=gaI W
   obtain ⟨d0,X,a⟩:=bindS a
   refine zD (M77w hA X) ?_
   refine zF ?_
   refine nT ?_
   obtain ⟨k,e,a⟩:=bindS a
   refine AWp.cutW (fun τ=>τ={ env:=[(0,zl 1 g),(1,.d (.iface i)),(5,.ptr 1 0),(6,.ptr 2 0),(7,.gref 7 1),(8,.ptr 3 0)],heap:=[(.map true (.int .u8 :: .int .u8 :: .int .u8 :: .int .i8 :: .int .i8 :: .int .i8 :: .int .i8 :: .int .i8 :: .int .i8 :: .int .i8 :: .int .i8 :: .int .i8 :: .int .i8 :: .int .i8 :: .int .i8 :: .int .i8 :: .int .i8 :: .int .i8 :: .int .i8 :: .int .i8 :: .int .i8 :: .int .i8 :: .int .i8 :: .int .i8 :: .int .i8 :: .int .i8 :: .int .i8 :: .int .i8 :: .int .i8 :: .int .i8 :: .int .i8 :: .int .i8 :: .int .i8 :: .int .i8 :: .int .i8 :: .int .i8 :: .int .i8 :: .int .i8 :: .int .i64 :: .int .i64 :: .int .i64::[]) j),(.cells [(.map 0)]),.cells [.gref 4 41],(.arr 1 (A.spl ((.int .u8 0)::(.int .u8 0)::(.int .u8 0)::(.int .i8 0)::(.int .i8 0)::(.int .i8 0)::(.int .i8 0)::(.int .i8 0)::(.int .i8 0)::(.int .i8 0)::(.int .i8 0)::(.int .i8 0)::(.int .i8 0)::(.int .i8 0)::(.int .i8 0)::(.int .i8 0)::(.int .i8 0)::(.int .i8 0)::(.int .i8 0)::(.int .i8 0)::(.int .i8 0)::(.int .i8 0)::(.int .i8 0)::(.int .i8 0)::(.int .i8 0)::(.int .i8 0)::(.int .i8 0)::(.int .i8 0)::(.int .i8 0)::(.int .i8 0)::(.int .i8 0)::(.int .i8 0)::(.int .i8 0)::(.int .i8 0)::(.int .i8 0)::(.int .i8 0)::(.int .i8 0)::(.int .i8 0)::(.int .i64 0)::(.int .i64 0)::(.int .i64 0)::[]) (A.zadd 0 (Int.ofNat 0)) m)),(.gro 41 (A.sub c 0 (A.wrp .i64 (A.zsub (A.len c) 1)))),.dead,.dead,.gro 1 k,.dead,.dead],n:=47 }) ?_ ?_
   ·skip
    rcases tf d0 with v | v
    ·replace e:=cT v e
     refine zT ?_
     refine zn ?_
     obtain ⟨k1,Y,e⟩:=bindS e
     refine zD (M78w hA Y) ?_ { tk:=[7,37] }
     obtain ⟨w0,a0,e⟩:=bindS e
     obtain ⟨u0,v0⟩:=apI a0
     refine zF ?_ { tk:=[7,37],gr:=[37] }
     cases soI e
     exact oWi ⟨_,zR [some 0,some 1,some 2,some 9,some 10,some 11,some 12,some 13,some 14,some 15] [0,1,5,6,7,8],rfl⟩
    ·replace e:=cF v e
     refine zU ?_
     refine zk ?_
     cases soI e
     exact oWi ⟨_,zR [some 0,some 1,some 2,some 9,some 10,some 11,some 12,some 6,some 7,some 8] [0,1,5,6,7,8],rfl⟩
   ·rintro _ rfl
    refine nT ?_
    obtain ⟨⟨e0,g0⟩,b,a⟩:=bindS a
    refine AWp.cutW (fun τ=>τ={ env:=[(0,zl 1 g),(1,.d (.iface i)),(5,.ptr 1 0),(6,.ptr 2 0),(7,.gref 6 1)],heap:=[(.map true (.int .u8 :: .int .u8 :: .int .u8 :: .int .i8 :: .int .i8 :: .int .i8 :: .int .i8 :: .int .i8 :: .int .i8 :: .int .i8 :: .int .i8 :: .int .i8 :: .int .i8 :: .int .i8 :: .int .i8 :: .int .i8 :: .int .i8 :: .int .i8 :: .int .i8 :: .int .i8 :: .int .i8 :: .int .i8 :: .int .i8 :: .int .i8 :: .int .i8 :: .int .i8 :: .int .i8 :: .int .i8 :: .int .i8 :: .int .i8 :: .int .i8 :: .int .i8 :: .int .i8 :: .int .i8 :: .int .i8 :: .int .i8 :: .int .i8 :: .int .i8 :: .int .i64 :: .int .i64 :: .int .i64::[]) e0),(.cells [(.map 0)]),.cells [.gref 3 41],.gro 41 g0,.dead,.dead,.gro 1 k,.dead,.dead],n:=47 }) ?_ ?_
    ·skip
     refine zn ?_
     rcases tf (A.zeq i (Int.ofNat 143)) with o | o
     ·replace b:=cT o b
      rw [ifF hA (n:=143) o]
      obtain ⟨⟨y0,z0⟩,G,b⟩:=bindS b
      refine zD (ACall.emb (args':=[.d (.agg []),zl 1 g,.d (.agg y),(.func 96 [] [.ptr 1 0,.ptr 2 0])]) (M176w hA G) [some 1,some 0,some 2,some 4,some 5,some 6] [(.map true (.int .u8 :: .int .u8 :: .int .u8 :: .int .i8 :: .int .i8 :: .int .i8 :: .int .i8 :: .int .i8 :: .int .i8 :: .int .i8 :: .int .i8 :: .int .i8 :: .int .i8 :: .int .i8 :: .int .i8 :: .int .i8 :: .int .i8 :: .int .i8 :: .int .i8 :: .int .i8 :: .int .i8 :: .int .i8 :: .int .i8 :: .int .i8 :: .int .i8 :: .int .i8 :: .int .i8 :: .int .i8 :: .int .i8 :: .int .i8 :: .int .i8 :: .int .i8 :: .int .i8 :: .int .i8 :: .int .i8 :: .int .i8 :: .int .i8 :: .int .i8 :: .int .i64 :: .int .i64 :: .int .i64::[]) j),(.cells [(.map 0)]),.cells [.gref 4 41],(.arr 1 (A.spl ((.int .u8 0)::(.int .u8 0)::(.int .u8 0)::(.int .i8 0)::(.int .i8 0)::(.int .i8 0)::(.int .i8 0)::(.int .i8 0)::(.int .i8 0)::(.int .i8 0)::(.int .i8 0)::(.int .i8 0)::(.int .i8 0)::(.int .i8 0)::(.int .i8 0)::(.int .i8 0)::(.int .i8 0)::(.int .i8 0)::(.int .i8 0)::(.int .i8 0)::(.int .i8 0)::(.int .i8 0)::(.int .i8 0)::(.int .i8 0)::(.int .i8 0)::(.int .i8 0)::(.int .i8 0)::(.int .i8 0)::(.int .i8 0)::(.int .i8 0)::(.int .i8 0)::(.int .i8 0)::(.int .i8 0)::(.int .i8 0)::(.int .i8 0)::(.int .i8 0)::(.int .i8 0)::(.int .i8 0)::(.int .i64 0)::(.int .i64 0)::(.int .i64 0)::[]) (A.zadd 0 (Int.ofNat 0)) m)),(.gro 41 (A.sub c 0 (A.wrp .i64 (A.zsub (A.len c) 1)))),.dead,.dead,.gro 1 k,.dead,.dead] rfl rfl rfl rfl rfl rfl rfl) ?_
      refine zF ?_
      cases soI b
      exact oWi ⟨_,zR [some 0,some 1,some 2,some 10,some 11,some 12,some 7,some 8,some 9] [0,1,5,6,7],rfl⟩
     ·replace b:=cF o b
      rcases tf (A.zeq i (Int.ofNat 144)) with p | p
      ·replace b:=cT p b
       rw [ifF hA (n:=144) p]
       obtain ⟨⟨a1,b1⟩,J,b⟩:=bindS b
       refine zD (ACall.emb (args':=[.d (.agg []),zl 1 g,.d (.agg y),(.func 96 [] [.ptr 1 0,.ptr 2 0])]) (M177w hA J) [some 1,some 0,some 2,some 4,some 5,some 6] [(.map true (.int .u8 :: .int .u8 :: .int .u8 :: .int .i8 :: .int .i8 :: .int .i8 :: .int .i8 :: .int .i8 :: .int .i8 :: .int .i8 :: .int .i8 :: .int .i8 :: .int .i8 :: .int .i8 :: .int .i8 :: .int .i8 :: .int .i8 :: .int .i8 :: .int .i8 :: .int .i8 :: .int .i8 :: .int .i8 :: .int .i8 :: .int .i8 :: .int .i8 :: .int .i8 :: .int .i8 :: .int .i8 :: .int .i8 :: .int .i8 :: .int .i8 :: .int .i8 :: .int .i8 :: .int .i8 :: .int .i8 :: .int .i8 :: .int .i8 :: .int .i8 :: .int .i64 :: .int .i64 :: .int .i64::[]) j),(.cells [(.map 0)]),.cells [.gref 4 41],(.arr 1 (A.spl ((.int .u8 0)::(.int .u8 0)::(.int .u8 0)::(.int .i8 0)::(.int .i8 0)::(.int .i8 0)::(.int .i8 0)::(.int .i8 0)::(.int .i8 0)::(.int .i8 0)::(.int .i8 0)::(.int .i8 0)::(.int .i8 0)::(.int .i8 0)::(.int .i8 0)::(.int .i8 0)::(.int .i8 0)::(.int .i8 0)::(.int .i8 0)::(.int .i8 0)::(.int .i8 0)::(.int .i8 0)::(.int .i8 0)::(.int .i8 0)::(.int .i8 0)::(.int .i8 0)::(.int .i8 0)::(.int .i8 0)::(.int .i8 0)::(.int .i8 0)::(.int .i8 0)::(.int .i8 0)::(.int .i8 0)::(.int .i8 0)::(.int .i8 0)::(.int .i8 0)::(.int .i8 0)::(.int .i8 0)::(.int .i64 0)::(.int .i64 0)::(.int .i64 0)::[]) (A.zadd 0 (Int.ofNat 0)) m)),(.gro 41 (A.sub c 0 (A.wrp .i64 (A.zsub (A.len c) 1)))),.dead,.dead,.gro 1 k,.dead,.dead] rfl rfl rfl rfl rfl rfl rfl) ?_
       refine zF ?_
       cases soI b
       exact oWi ⟨_,zR [some 0,some 1,some 2,some 10,some 11,some 12,some 7,some 8,some 9] [0,1,5,6,7],rfl⟩
      ·replace b:=cF p b
       rcases tf (A.zeq i (Int.ofNat 145)) with q | q
       ·replace b:=cT q b
        rw [ifF hA (n:=145) q]
        obtain ⟨⟨c1,d1⟩,K,b⟩:=bindS b
        refine zD (ACall.emb (args':=[.d (.agg []),zl 1 g,.d (.agg y),(.func 96 [] [.ptr 1 0,.ptr 2 0])]) (M180w hA K) [some 1,some 0,some 2,some 4,some 5,some 6] [(.map true (.int .u8 :: .int .u8 :: .int .u8 :: .int .i8 :: .int .i8 :: .int .i8 :: .int .i8 :: .int .i8 :: .int .i8 :: .int .i8 :: .int .i8 :: .int .i8 :: .int .i8 :: .int .i8 :: .int .i8 :: .int .i8 :: .int .i8 :: .int .i8 :: .int .i8 :: .int .i8 :: .int .i8 :: .int .i8 :: .int .i8 :: .int .i8 :: .int .i8 :: .int .i8 :: .int .i8 :: .int .i8 :: .int .i8 :: .int .i8 :: .int .i8 :: .int .i8 :: .int .i8 :: .int .i8 :: .int .i8 :: .int .i8 :: .int .i8 :: .int .i8 :: .int .i64 :: .int .i64 :: .int .i64::[]) j),(.cells [(.map 0)]),.cells [.gref 4 41],(.arr 1 (A.spl ((.int .u8 0)::(.int .u8 0)::(.int .u8 0)::(.int .i8 0)::(.int .i8 0)::(.int .i8 0)::(.int .i8 0)::(.int .i8 0)::(.int .i8 0)::(.int .i8 0)::(.int .i8 0)::(.int .i8 0)::(.int .i8 0)::(.int .i8 0)::(.int .i8 0)::(.int .i8 0)::(.int .i8 0)::(.int .i8 0)::(.int .i8 0)::(.int .i8 0)::(.int .i8 0)::(.int .i8 0)::(.int .i8 0)::(.int .i8 0)::(.int .i8 0)::(.int .i8 0)::(.int .i8 0)::(.int .i8 0)::(.int .i8 0)::(.int .i8 0)::(.int .i8 0)::(.int .i8 0)::(.int .i8 0)::(.int .i8 0)::(.int .i8 0)::(.int .i8 0)::(.int .i8 0)::(.int .i8 0)::(.int .i64 0)::(.int .i64 0)::(.int .i64 0)::[]) (A.zadd 0 (Int.ofNat 0)) m)),(.gro 41 (A.sub c 0 (A.wrp .i64 (A.zsub (A.len c) 1)))),.dead,.dead,.gro 1 k,.dead,.dead] rfl rfl rfl rfl rfl rfl rfl) ?_
        refine zF ?_
        cases soI b
        exact oWi ⟨_,zR [some 0,some 1,some 2,some 10,some 11,some 12,some 7,some 8,some 9] [0,1,5,6,7],rfl⟩
       ·replace b:=cF q b
        cases b
    ·rintro _ rfl
     refine nB ?_
     exact nT ⟨_,(soI a).symm,_,zR [some 0,some 1,some 2,some 3,some 4,some 5,some 6,some 7,some 8] [0,1,5,6,7],rfl⟩
  ·replace a:=cF u a
   refine zU ?_
   refine AWp.exit (xT (xT ?_))
   refine exL a fun hx => ?_
   subst hx
   exact oxWI ⟨_,zR [some 6,some 7,some 8] [7],_,w,rfl⟩
 ·rintro _ ⟨s,w,rfl⟩
  have h:=(b0 _ w)
  refine xB (nT (zs ?_))
  rcases tf (A.zlt 0 (A.len s)) with r | r
  ·replace h:=cT r h
   refine AWp.weak (Wk.groArr 7 rfl rfl (neL hA r) (lenL hA)) ?_
   refine zn ?_
   obtain ⟨e1,L,h⟩:=bindS h
   refine zD (M97w hA L) ?_
   refine zF ?_
   refine nT (zs (zn ?_))
   obtain ⟨⟨g1,i1,j1⟩,M,h⟩:=bindS h
   refine zD (M99w hA M) ?_ { tk:=[46] }
   refine zF ?_ { tk:=[46] }
   refine nT ?_
   refine AWp.weak (Wk.ren [some 0] [4] rfl rfl) ?_
   refine zr ?_
   cases soI h
   exact zq
  ·replace h:=cF r h
   cases h

theorem M19w {A:Ar} (hA:SA A) {e:List D} {g:Int} {b:List D} {c:Int} (h:M19 A e g=some (b,c)):ACall Try.prog 19 [zl 1 e,zi g] [] (.tuple [zl 1 b,zi c]) []:=by
 unfold M19 at h
 refine zI Try.func19 ?_
 refine zs ?_
 refine zA ?_
 refine nT (zs (zn ?_))
 obtain ⟨⟨z,p⟩,l,h⟩:=bindS h
 refine zC (M55w hA l) ?_
 refine zE ?_
 refine nT (zs (zs ?_))
 refine zA ?_
 refine nT ?_
 rcases tf (A.zeq p 0) with a | a
 ·replace h:=cT a h
  refine zU ?_
  refine zk (nT (zs (zn ?_)))
  obtain ⟨q,m,h⟩:=bindS h
  have r:=gcI m
  obtain ⟨⟨v,w,y⟩,j,h⟩:=bindS h
  refine zD (M56w hA j) ?_
  refine zF ?_
  refine nT ?_
  obtain ⟨u,k,h⟩:=bindS h
  obtain ⟨n,o⟩:=fzI hA k
  refine AWp.freeze (s:=4) (i:=0) rfl rfl n o ?_
  refine zr ?_
  cases soI h
  exact zq
 ·replace h:=cF a h
  refine zT ?_
  refine zs ?_
  refine zB ?_
  refine nT (zr (rT ?_))
  cases soI h
  exact zq

theorem M103w {A:Ar} (hA:SA A) {c i:List D} {q:Int} {r:Bool} (h:M103 A c i=some (q,r)):ACall Try.prog 103 [zl 1 c,zl 1 i,(.func 98 [] [])] [] (.tuple [zi q,.d (.bool r)]) []:=by
 unfold M103 at h
 refine zI Try.func103 ?_
 refine zs ?_
 refine zA ?_
 refine nT (zs ?_)
 refine zA ?_
 refine nT (zs ?_)
 refine zA ?_
 refine nT (zs (zb ?_))
 obtain ⟨U,C,s,B,m⟩:=bindK h
 refine AWp.cutX 0 [0,1,2,8,9] [] 0 (lb rfl) (fun τ => ∃ g,s g=some (q,r)/\τ={ env:=[(0,zl 1 c),(1,zl 1 i),(2,(.func 98 [] [])),(8,(.d (.int .i64 (A.len c)))),(9,zi g)],heap:=[],n:=49 }) ?_ ?_
 ·skip
  refine AWp.iter C [0,1,2,8,9,10] [] 0 (lb rfl) (fun (o,p)=>{ env:=[(0,zl 1 c),(1,zl 1 i),(2,(.func 98 [] [])),(8,(.d (.int .i64 (A.len c)))),(9,zi o),(10,zi p)],heap:=[],n:=49 }) ⟨rfl,zc⟩ ?_
  rintro ⟨o,p⟩ M a
  dsimp only [M103L0] at a
  refine zs (zs ?_)
  refine zA ?_
  refine nT ?_
  rcases tf (A.zlt o p) with j | j
  ·replace a:=cT j a
   refine zT ?_
   refine zk (nT (zb (zs ?_)))
   obtain ⟨_,u,a⟩:=bindS a
   have N:=nkI u
   refine zB ?_
   refine nT (zs (zn ?_))
   obtain ⟨K,v,a⟩:=bindS a
   obtain ⟨O,P⟩:=gtI v
   obtain ⟨E,w,a⟩:=bindS a
   refine zD (M98w hA w) ?_
   refine zF ?_
   refine nT ?_
   obtain ⟨⟨F,G⟩,e,a⟩:=bindS a
   refine AWp.cutN [0,1,2,8,9,10] [] 0 (lb rfl) (fun τ=>τ={ env:=[(0,zl 1 c),(1,zl 1 i),(2,(.func 98 [] [])),(8,(.d (.int .i64 (A.len c)))),(9,zi F),(10,zi G)],heap:=[],n:=49 }) ?_ ?_
   ·skip
    rcases tf (A.zlt E 0) with k | k
    ·replace e:=cT k e
     refine zT ?_
     refine zB ?_
     cases soI e
     exact zO
    ·replace e:=cF k e
     refine zU ?_
     refine zB ?_
     cases soI e
     exact zO
   ·rintro _ rfl
    refine nB ?_
    exact nT ⟨_,(soI a).symm,rfl,zc⟩
  ·replace a:=cF j a
   refine zU ?_
   refine AWp.exit (xT (xT ?_))
   refine exL a fun hx => ?_
   subst hx
   exact oxI ⟨rfl,_,m,zv⟩
 ·rintro _ ⟨g,m,rfl⟩
  have h:=(B _ m)
  refine xB (nT (zs ?_))
  obtain ⟨J,b,h⟩:=bindS h
  refine AWp.cutN [6,7] [] 0 (lb rfl) (fun τ=>τ={ env:=[(6,zi g),(7,.d (.bool J))],heap:=[],n:=49 }) ?_ ?_
  ·skip
   refine zn ?_
   rcases tf (A.zlt g (A.len c)) with l | l
   ·replace b:=cT l b
    obtain ⟨L,y,b⟩:=bindS b
    obtain ⟨Q,R⟩:=gtI y
    obtain ⟨S,z,b⟩:=bindS b
    refine zD (M98w hA z) ?_
    refine zF ?_
    cases soI b
    exact zO
   ·replace b:=cF l b
    refine zF ?_
    cases soI b
    exact zO
  ·rintro _ rfl
   refine nT (zr ?_)
   cases soI h
   exact zq

theorem M59w {A:Ar} (hA:SA A) {b c:List D} {a:Bool} (h:M59 A b c=some a):ACall Try.prog 59 [zl 1 b,zl 1 c] [] (.d (.bool a)) []:=by
 unfold M59 at h
 refine zI Try.func59 ?_
 refine zs ?_
 refine zA ?_
 refine nT (zs (zn ?_))
 obtain ⟨⟨g,i⟩,e,h⟩:=bindS h
 refine zC (M103w hA e) ?_ { tk:=[12] }
 refine zE ?_ { tk:=[12] }
 refine nT (zs ?_)
 refine zA ?_ { tk:=[6,13] }
 refine nT (zr ?_)
 cases soI h
 exact zq

theorem M21w {A:Ar} (hA:SA A) {i:List D} {j:Int} {k:List D} {e:Bool} {g:Int} (h:M21 A i j k=some (e,g)):ACall Try.prog 21 [zl 1 i,zi j,zl 1 k] [] (.tuple [.d (.bool e),zi g]) []:=by
 unfold M21 at h
 refine zI Try.func21 ?_
 refine zs ?_
 refine zA ?_
 refine nT (zs (zn ?_))
 obtain ⟨⟨p,c⟩,l,h⟩:=bindS h
 refine zC (M19w hA l) ?_
 refine zE ?_
 refine nT (zs ?_)
 obtain ⟨o,a,h⟩:=bindS h
 refine AWp.cutN [6,7] [] 0 (lb rfl) (fun τ=>τ={ env:=[(6,.d (.bool o)),(7,zi c)],heap:=[],n:=24 }) ?_ ?_
 ·skip
  refine zn ?_
  rcases tf (A.zeq c 0) with b | b
  ·replace a:=cT b a
   obtain ⟨q,m,a⟩:=bindS a
   refine zD (M59w hA m) ?_
   refine zF ?_
   cases soI a
   exact zO
  ·replace a:=cF b a
   refine zF ?_
   cases soI a
   exact zO
 ·rintro _ rfl
  refine nT (zr ?_)
  cases soI h
  exact zq

theorem M18w {A:Ar} (hA:SA A) {g:Bool} (h:M18 A=some g):ACall Try.prog 18 [] [] (.d (.bool g)) []:=by
 unfold M18 at h
 refine zI Try.func18 ?_
 refine zs ?_
 refine zA ?_
 refine nT (zs ?_)
 refine zA ?_
 refine nT (zs (zn ?_))
 obtain ⟨⟨k,l⟩,i,h⟩:=bindS h
 refine zC (M21w hA i) ?_
 refine zE ?_
 refine nT (zs (zn ?_))
 obtain ⟨⟨p,m⟩,j,h⟩:=bindS h
 refine zC (M21w hA j) ?_
 refine zE ?_
 refine nT (zs ?_)
 obtain ⟨o,a,h⟩:=bindS h
 refine AWp.cutN [0] [] 0 (lb rfl) (fun τ=>τ={ env:=[(0,.d (.bool o))],heap:=[],n:=38 }) ?_ ?_
 ·skip
  rcases tf (A.zeq l 0) with b | b
  ·replace a:=cT b a
   rcases tf (A.zeq m 0) with c | c
   ·replace a:=cT c a
    rcases tf k with e | e
    ·replace a:=cT e a
     refine zB ?_ { tk:=[37] }
     cases soI a
     exact zO
    ·replace a:=cF e a
     refine zB ?_ { tk:=[37] }
     cases soI a
     exact zO
   ·replace a:=cF c a
    refine zB ?_ { tk:=[37] }
    cases soI a
    exact zO
  ·replace a:=cF b a
   refine zB ?_ { tk:=[37] }
   cases soI a
   exact zO
 ·rintro _ rfl
  refine nT (zr ?_)
  cases soI h
  exact zq

theorem M30w {A:Ar} (hA:SA A) {e g:List D} {m:Int} (h:M30 A e g=some m):ACall Try.prog 30 [zl 1 e,zl 1 g] [] (zi m) []:=by
 unfold M30 at h
 refine zI Try.func30 ?_
 refine zs ?_
 refine zA ?_
 refine nT (zs (zs ?_))
 refine zA ?_
 refine nT (zb ?_)
 obtain ⟨F,w,q,o,b⟩:=bindK h
 refine AWp.cutX 0 [0,1] [] 0 (lb rfl) (fun τ=>q (.inl ())=some m/\τ={ env:=[(0,zl 1 e),(1,zl 1 g)],heap:=[],n:=41 }) ?_ ?_
 ·skip
  refine AWp.iter w [0,1,5] [] 0 (lb rfl) (fun i=>{ env:=[(0,zl 1 e),(1,zl 1 g),(5,zi i)],heap:=[],n:=41 }) ⟨rfl,zc⟩ ?_
  rintro i y a
  dsimp only [M30L0] at a
  refine zs (zs ?_)
  obtain ⟨p,c,a⟩:=bindS a
  refine AWp.cutN [0,1,5,15] [] 0 (lb rfl) (fun τ=>τ={ env:=[(0,zl 1 e),(1,zl 1 g),(5,zi i),(15,.d (.bool p))],heap:=[],n:=41 }) ?_ ?_
  ·skip
   rcases tf (A.zlt i (A.len e)) with j | j
   ·replace c:=cT j c
    refine zB ?_
    cases soI c
    exact zO
   ·replace c:=cF j c
    refine zB ?_
    cases soI c
    exact zO
  ·rintro _ rfl
   refine nT ?_
   rcases tf p with k | k
   ·replace a:=cT k a
    refine zT ?_
    refine zk (nT (zs (zb (zs ?_))))
    obtain ⟨r,u,a⟩:=bindS a
    obtain ⟨z,B⟩:=gtI u
    obtain ⟨s,v,a⟩:=bindS a
    obtain ⟨C,E⟩:=gtI v
    refine AWp.rd hT hA {} rfl zu (by kernel_rfl) (lb rfl) ?_
    refine nT ?_
    rcases tf (A.zeq r s) with l | l
    ·replace a:=cT l a
     refine zU ?_
     refine zk (nB (nT ?_))
     refine zB ?_
     exact nT ⟨_,(soI a).symm,rfl,zv⟩
    ·replace a:=cF l a
     refine zT ?_
     refine zs ?_
     refine AWp.rd hT hA { tk:=[35] } rfl zu (by kernel_rfl) (lb rfl) ?_
     refine nT (zr (rB (rT (rT ?_))))
     refine exL a fun hx => ?_
     subst hx
     refine oxR ?_
     replace b:=(eR (o _ b))
     refine rB (rT ?_)
     cases soI b
     exact zq
   ·replace a:=cF k a
    refine zU ?_
    refine AWp.exit (xT (xT ?_))
    refine exL a fun hx => ?_
    subst hx
    exact oxI ⟨rfl,b,zv⟩
 ·rintro _ ⟨b,rfl⟩
  have h:=(eL (o _ b))
  refine xB (nT (zs ?_))
  refine zA ?_ { tk:=[40] }
  refine nT (zr ?_)
  cases soI h
  exact zq

theorem M33w {A:Ar} (hA:SA A) {g c p:List D} {q:Int} (h:M33 A g c=some (p,q)):ACall Try.prog 33 [zl 1 g,zl 1 c] [] (.tuple [zl 1 p,zi q]) []:=by
 unfold M33 at h
 refine zI Try.func33 ?_
 refine zs ?_
 refine zA ?_
 refine nT (zs (zs (zn ?_)))
 obtain ⟨S,B,h⟩:=bindS h
 refine zC (M23w hA B) ?_
 refine zE ?_
 refine nT ?_
 rcases tf S with k | k
 ·replace h:=cT k h
  refine zU ?_
  refine zk (nT (zs ?_))
  refine zB ?_ { arr:=[6] }
  refine nT (zs (zs ?_))
  refine zB ?_
  refine nT (zb ?_)
  obtain ⟨a1,R,w,u,e⟩:=bindK h
  refine AWp.cutX 0 [0,6] [] 1 (lb rfl) (fun τ => ∃ s,w (.inl s)=some (p,q)/\τ={ env:=[(0,zl 1 g),(6,.ptr 0 0)],heap:=[(.arr 1 s)],n:=50 }) ?_ ?_
  ·skip
   refine AWp.iter R [0,6,12,13,14] [] 1 (lb rfl) (fun (i,r)=>{ env:=[(0,zl 1 g),(6,.ptr 0 0),(12,zl 1 c),(13,(.d (.int .i64 (A.len c)))),(14,zi i)],heap:=[(.arr 1 r)],n:=50 }) ⟨rfl,zv⟩ ?_
   rintro ⟨i,r⟩ X a
   dsimp only [M33L0] at a
   refine zs ?_
   refine zA ?_
   refine nT (zs ?_)
   rcases tf (A.zlt i (A.len c)) with j | j
   ·replace a:=cT j a
    refine zT ?_
    refine zk (nT (zs (zb (zs ?_))))
    obtain ⟨y,C,a⟩:=bindS a
    obtain ⟨Y,a0⟩:=gtI C
    refine zB ?_
    refine nT (zs (zs ?_))
    obtain ⟨v,b,a⟩:=bindS a
    refine AWp.cutN [0,6,8,12,13,14,34] [] 1 (lb rfl) (fun τ=>τ={ env:=[(0,zl 1 g),(6,.ptr 0 0),(8,zi y),(12,zl 1 c),(13,(.d (.int .i64 (A.len c)))),(14,zi i),(34,.d (.bool v))],heap:=[(.arr 1 r)],n:=50 }) ?_ ?_
    ·skip
     refine AWp.regionDraw rfl (lb rfl) ?_
     obtain ⟨U,E,b⟩:=bindS b
     refine DOps.c0 hT hA {} rfl zu (M65w hA E) rfl rfl (lb rfl) rfl rfl ?_
     rcases tf U with l | l
     ·replace b:=cT l b
      obtain ⟨r0,F,b⟩:=bindS b
      obtain ⟨b0,d0,e0⟩:=gaI F
      obtain ⟨w0,G,b⟩:=bindS b
      refine DOps.c0 hT hA {} rfl zu (M75w hA G) rfl rfl (lb rfl) rfl rfl ?_
      obtain ⟨W,J,b⟩:=bindS b
      obtain ⟨g0,i0⟩:=gtI J
      refine DOps.cd hT hA {} rfl zu (by kernel_rfl) ?_
      cases soI b
      exact zO
     ·replace b:=cF l b
      refine DOps.cd hT hA {} rfl zu (by kernel_rfl) ?_
      cases soI b
      exact zO
    ·rintro _ rfl
     refine nT ?_
     rcases tf v with m | m
     ·replace a:=cT m a
      refine zT ?_
      refine zs ?_
      refine zB ?_
      refine nT (zr (rT (rB (rT (rT ?_)))))
      refine exL a fun hx => ?_
      subst hx
      refine oxR ?_
      replace e:=(eR (u _ e))
      refine rB (rT ?_)
      cases soI e
      exact zq
     ·replace a:=cF m a
      refine zU ?_
      refine zk (nT ?_)
      refine AWp.regionDraw rfl (lb rfl) ?_
      obtain ⟨s0,K,a⟩:=bindS a
      obtain ⟨j0,k0,l0⟩:=gaI K
      obtain ⟨y0,L,a⟩:=bindS a
      refine DOps.c0 hT hA { tk:=[41] } rfl zu (M75w hA L) rfl rfl (lb rfl) rfl rfl ?_
      obtain ⟨z0,M,a⟩:=bindS a
      refine DOps.c0 hT hA { tk:=[41] } rfl zu (M76w hA M) rfl rfl (lb rfl) rfl rfl ?_
      obtain ⟨_,O,a⟩:=bindS a
      have n0:=ckI O
      obtain ⟨_,N,a⟩:=bindS a
      have m0:=ckI N
      refine DOps.cd hT hA { tk:=[41] } rfl zu (by kernel_rfl) ?_
      refine nB (nT ?_)
      refine zB ?_
      exact nT ⟨_,(soI a).symm,rfl,zv⟩
   ·replace a:=cF j a
    refine zU ?_
    refine AWp.exit (xT (xT ?_))
    refine exL a fun hx => ?_
    subst hx
    exact oxI ⟨rfl,_,e,zv⟩
  ·rintro _ ⟨s,e,rfl⟩
   have h:=(eL (u _ e))
   refine xB (nT (zs (zs (zn ?_))))
   obtain ⟨u0,P,h⟩:=bindS h
   obtain ⟨o0,p0,q0⟩:=gaI P
   obtain ⟨V,Q,h⟩:=bindS h
   refine zD (M77w hA Q) ?_
   refine zF ?_
   refine nT ?_
   rcases tf V with o | o
   ·replace h:=cT o h
    refine zU ?_
    refine zk (nT (zs (zn ?_)))
    obtain ⟨v0,z,h⟩:=bindS h
    refine zD (M78w hA z) ?_
    refine zF ?_
    refine nT (zr ?_)
    cases soI h
    exact zq
   ·replace h:=cF o h
    refine zT ?_
    refine zs ?_
    refine zB ?_
    refine nT (zr (rT ?_))
    cases soI h
    exact zq
 ·replace h:=cF k h
  refine zT ?_
  refine zs ?_
  refine zB ?_
  refine nT (zr (rT ?_))
  cases soI h
  exact zq

theorem M70Bw {A:Ar} (hA:SA A) {self52:List D->List D->List D->(List (D×D))->(Option (List D×Bool×List (D×D)))} (g0 : ∀ {b c e:List D} {j:List (D×D)} {E:List D} {F:Bool} {G:List (D×D)},self52 b c e j=some (E,F,G)->ACall Try.prog 70 [(.agg [zl 1 b,zl 1 c,(.map 0)]),.d (.agg e)] [(.map true (.int .u8 :: .int .u8 :: .int .u8 :: .int .i8 :: .int .i8 :: .int .i8 :: .int .i8 :: .int .i8 :: .int .i8 :: .int .i8 :: .int .i8 :: .int .i8 :: .int .i8 :: .int .i8 :: .int .i8 :: .int .i8 :: .int .i8 :: .int .i8 :: .int .i8 :: .int .i8 :: .int .i8 :: .int .i8 :: .int .i8 :: .int .i8 :: .int .i8 :: .int .i8 :: .int .i8 :: .int .i8 :: .int .i8 :: .int .i8 :: .int .i8 :: .int .i8 :: .int .i8 :: .int .i8 :: .int .i8 :: .int .i8 :: .int .i8 :: .int .i8 :: .int .i64 :: .int .i64 :: .int .i64::[]) j)] (.tuple [zl 1 E,.d (.bool F)]) [(.map true (.int .u8 :: .int .u8 :: .int .u8 :: .int .i8 :: .int .i8 :: .int .i8 :: .int .i8 :: .int .i8 :: .int .i8 :: .int .i8 :: .int .i8 :: .int .i8 :: .int .i8 :: .int .i8 :: .int .i8 :: .int .i8 :: .int .i8 :: .int .i8 :: .int .i8 :: .int .i8 :: .int .i8 :: .int .i8 :: .int .i8 :: .int .i8 :: .int .i8 :: .int .i8 :: .int .i8 :: .int .i8 :: .int .i8 :: .int .i8 :: .int .i8 :: .int .i8 :: .int .i8 :: .int .i8 :: .int .i8 :: .int .i8 :: .int .i8 :: .int .i8 :: .int .i64 :: .int .i64 :: .int .i64::[]) G)]) {b c e:List D} {j:List (D×D)} {r:List D} {s:Bool} {u:List (D×D)} (h:M70B A self52 b c e j=some (r,s,u)):ACall Try.prog 70 [(.agg [zl 1 b,zl 1 c,(.map 0)]),.d (.agg e)] [(.map true (.int .u8 :: .int .u8 :: .int .u8 :: .int .i8 :: .int .i8 :: .int .i8 :: .int .i8 :: .int .i8 :: .int .i8 :: .int .i8 :: .int .i8 :: .int .i8 :: .int .i8 :: .int .i8 :: .int .i8 :: .int .i8 :: .int .i8 :: .int .i8 :: .int .i8 :: .int .i8 :: .int .i8 :: .int .i8 :: .int .i8 :: .int .i8 :: .int .i8 :: .int .i8 :: .int .i8 :: .int .i8 :: .int .i8 :: .int .i8 :: .int .i8 :: .int .i8 :: .int .i8 :: .int .i8 :: .int .i8 :: .int .i8 :: .int .i8 :: .int .i8 :: .int .i64 :: .int .i64 :: .int .i64::[]) j)] (.tuple [zl 1 r,.d (.bool s)]) [(.map true (.int .u8 :: .int .u8 :: .int .u8 :: .int .i8 :: .int .i8 :: .int .i8 :: .int .i8 :: .int .i8 :: .int .i8 :: .int .i8 :: .int .i8 :: .int .i8 :: .int .i8 :: .int .i8 :: .int .i8 :: .int .i8 :: .int .i8 :: .int .i8 :: .int .i8 :: .int .i8 :: .int .i8 :: .int .i8 :: .int .i8 :: .int .i8 :: .int .i8 :: .int .i8 :: .int .i8 :: .int .i8 :: .int .i8 :: .int .i8 :: .int .i8 :: .int .i8 :: .int .i8 :: .int .i8 :: .int .i8 :: .int .i8 :: .int .i8 :: .int .i8 :: .int .i64 :: .int .i64 :: .int .i64::[]) u)]:=by
 unfold M70B at h
 refine zI Try.func70 ?_
 refine zs ?_
 obtain ⟨_,R,h⟩:=bindS h
 have f5:=ckI R
 refine zB ?_ { arr:=[3] }
 refine nT (zs (zs (zn ?_)))
 obtain ⟨v0,S,h⟩:=bindS h
 obtain ⟨f8,f9,n0⟩:=gaI S
 obtain ⟨j0,N,h⟩:=bindS h
 refine zD (M77w hA N) ?_
 refine zF ?_
 refine nT ?_
 rcases tf j0 with l | l
 ·replace h:=cT l h
  refine zT ?_
  refine zs ?_
  refine AWp.regionDraw rfl (lb rfl) ?_
  obtain ⟨y0,O,h⟩:=bindS h
  refine DOps.c0 hT hA {} rfl zu (M78w hA O) rfl rfl (lb rfl) rfl rfl ?_
  obtain ⟨z0,P,h⟩:=bindS h
  refine DOps.c0 hT hA {} rfl zu (M100w hA P) rfl rfl (lb rfl) rfl rfl ?_
  refine DOps.cd hT hA {} rfl zu (by kernel_rfl) ?_
  refine nT (zr (rT ?_))
  cases soI h
  exact zq
 ·replace h:=cF l h
  refine zU ?_
  refine zk (nT (zs (zs ?_)))
  obtain ⟨B,i,h⟩:=bindS h
  refine AWp.cutN [2,3,24] [] 2 (lb rfl) (fun τ=>τ={ env:=[(2,(.lbox [zl 1 b,zl 1 c,(.map 0)])),(3,.ptr 1 0),(24,.d (.bool B))],heap:=[(.map true (.int .u8 :: .int .u8 :: .int .u8 :: .int .i8 :: .int .i8 :: .int .i8 :: .int .i8 :: .int .i8 :: .int .i8 :: .int .i8 :: .int .i8 :: .int .i8 :: .int .i8 :: .int .i8 :: .int .i8 :: .int .i8 :: .int .i8 :: .int .i8 :: .int .i8 :: .int .i8 :: .int .i8 :: .int .i8 :: .int .i8 :: .int .i8 :: .int .i8 :: .int .i8 :: .int .i8 :: .int .i8 :: .int .i8 :: .int .i8 :: .int .i8 :: .int .i8 :: .int .i8 :: .int .i8 :: .int .i8 :: .int .i8 :: .int .i8 :: .int .i8 :: .int .i64 :: .int .i64 :: .int .i64::[]) j),(.arr 1 e)],n:=62 }) ?_ ?_
  ·skip
   obtain ⟨_,Q,i⟩:=bindS i
   have p0:=ckI Q
   obtain ⟨i0,y,i⟩:=bindS i
   rcases i0 with _ | m0
   ·have b0:=lkN y
    refine zB ?_
    cases soI i
    exact zO
   ·have b0:=lkS y
    refine zB ?_
    cases soI i
    exact zO
  ·rintro _ rfl
   refine nT ?_
   rcases tf B with m | m
   ·replace h:=cT m h
    refine zT ?_
    refine zs ?_
    refine zB ?_
    refine nT (zr (rT ?_))
    cases soI h
    exact zq
   ·replace h:=cF m h
    refine zU ?_
    refine zk (nT (zs (zs ?_)))
    refine zB ?_
    refine nT (zb ?_)
    obtain ⟨d1,e0,K,z,g⟩:=bindK h
    refine AWp.cutX 0 [2,3] [] 2 (lb rfl) (fun τ => ∃ w,K (.inl w)=some (r,s,u)/\τ={ env:=[(2,(.lbox [zl 1 b,zl 1 c,(.map 0)])),(3,.ptr 1 0)],heap:=[(.map true (.int .u8 :: .int .u8 :: .int .u8 :: .int .i8 :: .int .i8 :: .int .i8 :: .int .i8 :: .int .i8 :: .int .i8 :: .int .i8 :: .int .i8 :: .int .i8 :: .int .i8 :: .int .i8 :: .int .i8 :: .int .i8 :: .int .i8 :: .int .i8 :: .int .i8 :: .int .i8 :: .int .i8 :: .int .i8 :: .int .i8 :: .int .i8 :: .int .i8 :: .int .i8 :: .int .i8 :: .int .i8 :: .int .i8 :: .int .i8 :: .int .i8 :: .int .i8 :: .int .i8 :: .int .i8 :: .int .i8 :: .int .i8 :: .int .i8 :: .int .i8 :: .int .i64 :: .int .i64 :: .int .i64::[]) w),(.arr 1 e)],n:=62 }) ?_ ?_
    ·skip
     refine AWp.iter e0 [2,3,27,28] [] 2 (lb rfl) (fun (k,C)=>{ env:=[(2,(.lbox [zl 1 b,zl 1 c,(.map 0)])),(3,.ptr 1 0),(27,(.d (.int .i64 (A.len b)))),(28,zi k)],heap:=[(.map true (.int .u8 :: .int .u8 :: .int .u8 :: .int .i8 :: .int .i8 :: .int .i8 :: .int .i8 :: .int .i8 :: .int .i8 :: .int .i8 :: .int .i8 :: .int .i8 :: .int .i8 :: .int .i8 :: .int .i8 :: .int .i8 :: .int .i8 :: .int .i8 :: .int .i8 :: .int .i8 :: .int .i8 :: .int .i8 :: .int .i8 :: .int .i8 :: .int .i8 :: .int .i8 :: .int .i8 :: .int .i8 :: .int .i8 :: .int .i8 :: .int .i8 :: .int .i8 :: .int .i8 :: .int .i8 :: .int .i8 :: .int .i8 :: .int .i8 :: .int .i8 :: .int .i64 :: .int .i64 :: .int .i64::[]) C),(.arr 1 e)],n:=62 }) ⟨rfl,zv⟩ ?_
     rintro ⟨k,C⟩ a0 a
     dsimp only [M70L0] at a
     refine zs ?_
     refine zA ?_
     refine nT (zs ?_)
     rcases tf (A.zlt k (A.len b)) with o | o
     ·replace a:=cT o a
      refine zT ?_
      refine zk (nT (zs (zb (zs ?_))))
      refine zB ?_
      refine nT (zs (zn ?_))
      obtain ⟨k0,U,a⟩:=bindS a
      refine zD (M75w hA U) ?_
      refine zF ?_
      refine nT (zs ?_)
      obtain ⟨L,V,a⟩:=bindS a
      obtain ⟨q0,r0⟩:=gtI V
      refine zB ?_
      refine nT ?_
      obtain ⟨J,d0,a⟩:=jnI a
      refine AWp.cutN [2,3,27,28] [] 2 (lb rfl) (fun τ => ∃ v,J v=some a0/\τ={ env:=[(2,(.lbox [zl 1 b,zl 1 c,(.map 0)])),(3,.ptr 1 0),(27,(.d (.int .i64 (A.len b)))),(28,zi k)],heap:=[(.map true (.int .u8 :: .int .u8 :: .int .u8 :: .int .i8 :: .int .i8 :: .int .i8 :: .int .i8 :: .int .i8 :: .int .i8 :: .int .i8 :: .int .i8 :: .int .i8 :: .int .i8 :: .int .i8 :: .int .i8 :: .int .i8 :: .int .i8 :: .int .i8 :: .int .i8 :: .int .i8 :: .int .i8 :: .int .i8 :: .int .i8 :: .int .i8 :: .int .i8 :: .int .i8 :: .int .i8 :: .int .i8 :: .int .i8 :: .int .i8 :: .int .i8 :: .int .i8 :: .int .i8 :: .int .i8 :: .int .i8 :: .int .i8 :: .int .i8 :: .int .i8 :: .int .i64 :: .int .i64 :: .int .i64::[]) v),(.arr 1 e)],n:=62 }) ?_ ?_
      ·skip
       rcases tf (A.zlt k0 (A.len L)) with p | p
       ·replace a:=cT p a
        refine zT ?_
        refine zs ?_
        refine AWp.regionDraw rfl (lb rfl) ?_
        obtain ⟨a1,W,a⟩:=bindS a
        refine DOps.c0 hT hA {} rfl zu (M76w hA W) rfl rfl (lb rfl) rfl rfl ?_
        obtain ⟨⟨b1,l0,c1⟩,X,a⟩:=bindS a
        refine DOps.cl hT hA {} rfl zu (g0 X) rfl rfl rfl rfl rfl (lb rfl) rfl rfl ?_
        refine DOps.cd hT hA {} rfl zu (by kernel_rfl) ?_
        refine nT (zs ?_)
        refine zB ?_
        refine nT ?_
        rcases tf l0 with q | q
        ·replace a:=cT q a
         refine zT ?_
         refine zs ?_
         obtain ⟨w0,Y,a⟩:=bindS a
         obtain ⟨s0,u0⟩:=apI Y
         refine zB ?_
         refine nT (zr ?_)
         refine oNr ?_
         refine rB (rT (rT ?_))
         refine exL a fun hx => ?_
         subst hx
         refine oxR ?_
         replace g:=(eR (z _ g))
         refine rB (rT ?_)
         cases soI g
         exact zq
        ·replace a:=cF q a
         refine zU ?_
         refine zk ?_
         exact oNi ⟨rfl,_,a,zv⟩
       ·replace a:=cF p a
        refine zU ?_
        refine zk ?_
        exact oNi ⟨rfl,_,a,zv⟩
      ·rintro _ ⟨v,a,rfl⟩
       replace a:=d0 _ a
       refine nB (nT ?_)
       refine zA ?_
       exact nT ⟨_,(soI a).symm,rfl,zc⟩
     ·replace a:=cF o a
      refine zU ?_
      refine AWp.exit (xT (xT ?_))
      refine exL a fun hx => ?_
      subst hx
      exact oxI ⟨rfl,_,g,zv⟩
    ·rintro _ ⟨w,g,rfl⟩
     have h:=(eL (z _ g))
     refine xB (nT (zs ?_))
     obtain ⟨_,M,h⟩:=bindS h
     have o0:=ckI M
     refine zB ?_
     refine nT (zs ?_)
     refine zB ?_
     refine nT (zr ?_)
     cases soI h
     exact zq

theorem M70Rw {A:Ar} (hA:SA A) : ∀ (n:Nat) {e g i:List D} {j:List (D×D)} {a:List D} {b:Bool} {c:List (D×D)},M70R A n e g i j=some (a,b,c)->ACall Try.prog 70 [(.agg [zl 1 e,zl 1 g,(.map 0)]),.d (.agg i)] [(.map true (.int .u8 :: .int .u8 :: .int .u8 :: .int .i8 :: .int .i8 :: .int .i8 :: .int .i8 :: .int .i8 :: .int .i8 :: .int .i8 :: .int .i8 :: .int .i8 :: .int .i8 :: .int .i8 :: .int .i8 :: .int .i8 :: .int .i8 :: .int .i8 :: .int .i8 :: .int .i8 :: .int .i8 :: .int .i8 :: .int .i8 :: .int .i8 :: .int .i8 :: .int .i8 :: .int .i8 :: .int .i8 :: .int .i8 :: .int .i8 :: .int .i8 :: .int .i8 :: .int .i8 :: .int .i8 :: .int .i8 :: .int .i8 :: .int .i8 :: .int .i8 :: .int .i64 :: .int .i64 :: .int .i64::[]) j)] (.tuple [zl 1 a,.d (.bool b)]) [(.map true (.int .u8 :: .int .u8 :: .int .u8 :: .int .i8 :: .int .i8 :: .int .i8 :: .int .i8 :: .int .i8 :: .int .i8 :: .int .i8 :: .int .i8 :: .int .i8 :: .int .i8 :: .int .i8 :: .int .i8 :: .int .i8 :: .int .i8 :: .int .i8 :: .int .i8 :: .int .i8 :: .int .i8 :: .int .i8 :: .int .i8 :: .int .i8 :: .int .i8 :: .int .i8 :: .int .i8 :: .int .i8 :: .int .i8 :: .int .i8 :: .int .i8 :: .int .i8 :: .int .i8 :: .int .i8 :: .int .i8 :: .int .i8 :: .int .i8 :: .int .i8 :: .int .i64 :: .int .i64 :: .int .i64::[]) c)]
 | 0,_,_,_,_,_,_,_,h=>by cases h
 | n+1,_,_,_,_,_,_,_,h=>M70Bw hA (fun h=>M70Rw hA n h) h

theorem M70w {A:Ar} (hA:SA A) {e g i:List D} {j:List (D×D)} {a:List D} {b:Bool} {c:List (D×D)} (h:M70 A e g i j=some (a,b,c)):ACall Try.prog 70 [(.agg [zl 1 e,zl 1 g,(.map 0)]),.d (.agg i)] [(.map true (.int .u8 :: .int .u8 :: .int .u8 :: .int .i8 :: .int .i8 :: .int .i8 :: .int .i8 :: .int .i8 :: .int .i8 :: .int .i8 :: .int .i8 :: .int .i8 :: .int .i8 :: .int .i8 :: .int .i8 :: .int .i8 :: .int .i8 :: .int .i8 :: .int .i8 :: .int .i8 :: .int .i8 :: .int .i8 :: .int .i8 :: .int .i8 :: .int .i8 :: .int .i8 :: .int .i8 :: .int .i8 :: .int .i8 :: .int .i8 :: .int .i8 :: .int .i8 :: .int .i8 :: .int .i8 :: .int .i8 :: .int .i8 :: .int .i8 :: .int .i8 :: .int .i64 :: .int .i64 :: .int .i64::[]) j)] (.tuple [zl 1 a,.d (.bool b)]) [(.map true (.int .u8 :: .int .u8 :: .int .u8 :: .int .i8 :: .int .i8 :: .int .i8 :: .int .i8 :: .int .i8 :: .int .i8 :: .int .i8 :: .int .i8 :: .int .i8 :: .int .i8 :: .int .i8 :: .int .i8 :: .int .i8 :: .int .i8 :: .int .i8 :: .int .i8 :: .int .i8 :: .int .i8 :: .int .i8 :: .int .i8 :: .int .i8 :: .int .i8 :: .int .i8 :: .int .i8 :: .int .i8 :: .int .i8 :: .int .i8 :: .int .i8 :: .int .i8 :: .int .i8 :: .int .i8 :: .int .i8 :: .int .i8 :: .int .i8 :: .int .i8 :: .int .i64 :: .int .i64 :: .int .i64::[]) c)]:=M70Rw hA fuel h

theorem M28w {A:Ar} (hA:SA A) {g i c:List D} {e:Int} (h:M28 A g i=some (c,e)):ACall Try.prog 28 [zl 1 g,zl 1 i] [] (.tuple [zl 1 c,zi e]) []:=by
 unfold M28 at h
 refine zI Try.func28 ?_
 refine zs ?_
 refine zA ?_
 refine nT (zs (zs (zn ?_)))
 obtain ⟨l,j,h⟩:=bindS h
 refine zC (M23w hA j) ?_
 refine zE ?_
 refine nT ?_
 rcases tf l with b | b
 ·replace h:=cT b h
  refine zU ?_
  refine zk (nT (zs (zn ?_)))
  obtain ⟨⟨n,m,o⟩,k,h⟩:=bindS h
  refine zD (M70w hA k) ?_
  refine zF ?_
  refine nT (zs (zs ?_))
  refine zB ?_
  refine nT ?_
  rcases tf m with a | a
  ·replace h:=cT a h
   refine zU ?_
   refine zk (nT (zs ?_))
   refine zB ?_
   refine nT (zr ?_)
   cases soI h
   exact zq
  ·replace h:=cF a h
   refine zT ?_
   refine zs ?_
   refine zB ?_
   refine nT (zr (rT ?_))
   cases soI h
   exact zq
 ·replace h:=cF b h
  refine zT ?_
  refine zs ?_
  refine zB ?_
  refine nT (zr (rT ?_))
  cases soI h
  exact zq

theorem M35w {A:Ar} (hA:SA A) {c:List D} {r s:Int} (h:M35 A c=some (r,s)):ACall Try.prog 35 [zl 1 c] [] (.tuple [zi r,zi s]) []:=by
 unfold M35 at h
 refine zI Try.func35 ?_
 refine zs ?_
 refine zA ?_
 refine nT (zs (zs (zn ?_)))
 obtain ⟨O,E,h⟩:=bindS h
 refine zC (M23w hA E) ?_
 refine zE ?_
 refine nT ?_
 rcases tf O with j | j
 ·replace h:=cT j h
  refine zU ?_
  refine zk (nT (zs ?_))
  refine zB ?_
  refine nT (zs (zs ?_))
  refine zB ?_
  refine nT (zb ?_)
  obtain ⟨V,N,C,L,l⟩:=bindK h
  refine AWp.cutX 0 [4] [] 0 (lb rfl) (fun τ => ∃ q,C q=some (r,s)/\τ={ env:=[(4,zi q)],heap:=[],n:=34 }) ?_ ?_
  ·skip
   refine AWp.iter N [4,5,12,13,14] [] 0 (lb rfl) (fun (v,w,e)=>{ env:=[(4,zi v),(5,zi w),(12,zl 1 c),(13,(.d (.int .i64 (A.len c)))),(14,zi e)],heap:=[],n:=34 }) ⟨rfl,zv⟩ ?_
   rintro ⟨v,w,e⟩ J a
   dsimp only [M35L1] at a
   refine zs ?_
   refine zA ?_
   refine nT (zs ?_)
   rcases tf (A.zlt e (A.len c)) with g | g
   ·replace a:=cT g a
    refine zT ?_
    refine zk (nT (zs (zb (zs ?_))))
    obtain ⟨u,F,a⟩:=bindS a
    obtain ⟨Q,R⟩:=gtI F
    refine zB ?_
    refine nT (zs ?_)
    refine zB ?_
    refine nT (zb ?_)
    obtain ⟨U,M,B,K,k⟩:=bindK a
    refine AWp.cutX 2 [4,5,12,13,14] [] 0 (lb rfl) (fun τ => ∃ o p,B (o,p)=some J/\τ={ env:=[(4,zi o),(5,zi p),(12,zl 1 c),(13,(.d (.int .i64 (A.len c)))),(14,zi e)],heap:=[],n:=34 }) ?_ ?_
    ·skip
     refine AWp.iter M [4,5,12,13,14,19,20] [] 0 (lb rfl) (fun (y,z,m)=>{ env:=[(4,zi y),(5,zi z),(12,zl 1 c),(13,(.d (.int .i64 (A.len c)))),(14,zi e),(19,(.d (.int .i64 (A.len u)))),(20,zi m)],heap:=[],n:=34 }) ⟨rfl,zv⟩ ?_
     rintro ⟨y,z,m⟩ P b
     dsimp only [M35L0] at b
     refine zs ?_
     refine zA ?_
     refine nT (zs ?_)
     rcases tf (A.zlt m (A.len u)) with i | i
     ·replace b:=cT i b
      refine zT ?_
      refine zk (nT (zs (zb (zs ?_))))
      refine zB ?_
      refine nT (zs ?_)
      refine zB ?_
      refine nT ?_
      obtain ⟨_,G,b⟩:=bindS b
      have S:=nkI G
      refine zB ?_
      refine nB (nT ?_)
      refine zB ?_
      exact nT ⟨_,(soI b).symm,rfl,zv⟩
     ·replace b:=cF i b
      refine zU ?_
      refine AWp.exit (xT (xT ?_))
      refine exL b fun hx => ?_
      subst hx
      exact oxI ⟨rfl,_,_,k,zv⟩
    ·rintro _ ⟨o,p,k,rfl⟩
     have a:=(K _ k)
     refine xB (nB (nT ?_))
     refine zA ?_
     exact nT ⟨_,(soI a).symm,rfl,zc⟩
   ·replace a:=cF g a
    refine zU ?_
    refine AWp.exit (xT (xT ?_))
    refine exL a fun hx => ?_
    subst hx
    exact oxI ⟨rfl,_,l,zv⟩
  ·rintro _ ⟨q,l,rfl⟩
   have h:=(L _ l)
   refine xB (nT (zs ?_))
   refine zA ?_
   refine nT (zr ?_)
   cases soI h
   exact zq
 ·replace h:=cF j h
  refine zT ?_
  refine zs ?_
  refine zB ?_
  refine nT (zr (rT ?_))
  cases soI h
  exact zq

theorem M8w {A:Ar} (hA:SA A) {e E:List D} {e0:Bool} (h:M8 A e E=some e0):ACall Try.prog 8 [zl 1 e,zl 1 E] [] (.d (.bool e0)) []:=by
 unfold M8 at h
 refine zI Try.func8 ?_
 refine zs ?_
 refine zA ?_
 refine nT (zs (zs ?_))
 obtain ⟨v9,m,h⟩:=bindS h
 refine AWp.cutN [0,1,35] [] 0 (lb rfl) (fun τ=>τ={ env:=[(0,zl 1 e),(1,zl 1 E),(35,.d (.bool v9))],heap:=[],n:=210 }) ?_ ?_
 ·skip
  refine zn ?_
  obtain ⟨r4,e3,m⟩:=bindS m
  refine zC (M17w hA e3) ?_
  rcases tf r4 with B | B
  ·replace m:=cT B m
   refine zE ?_ (h:=(by (repeat (cbv;simp only [B]));try cbv))
   cases soI m
   exact (zO (g:=(by first | (cbv;done) | ((repeat (cbv;simp only [B]));try cbv))))
  ·replace m:=cF B m
   obtain ⟨r7,e6,m⟩:=bindS m
   refine zC (M24w hA e6) ?_ (h:=(by (repeat (cbv;simp only [B]));try cbv))
   rcases tf r7 with U | U
   ·replace m:=cT U m
    refine zE ?_ (h:=(by (repeat (cbv;simp only [B,U]));try cbv))
    cases soI m
    exact (zO (g:=(by first | (cbv;done) | ((repeat (cbv;simp only [B,U]));try cbv))))
   ·replace m:=cF U m
    refine zE ?_ (h:=(by (repeat (cbv;simp only [B,U]));try cbv))
    cases soI m
    exact (zO (g:=(by first | (cbv;done) | ((repeat (cbv;simp only [B,U]));try cbv))))
 ·rintro _ rfl
  refine nT ?_
  rcases tf v9 with s | s
  ·replace h:=cT s h
   refine zT ?_ (hb:=(by first | rfl | simp only [s,zqa,zqb,zqc,zqd]))
   refine zs (zn ?_)
   obtain ⟨o5,j1,h⟩:=bindS h
   refine zC (M18w hA j1) ?_ { tk:=[36] } (h:=(by (repeat (cbv;simp only [s]));try cbv))
   refine zE ?_ { tk:=[36] } (h:=(by (repeat (cbv;simp only [s]));try cbv))
   refine nT (zr (rT ?_))
   cases soI h
   exact zq
  ·replace h:=cF s h
   refine zU ?_ (hb:=(by first | rfl | simp only [s,zqa,zqb,zqc,zqd]))
   refine zk (nT (zs ?_))
   refine zA ?_ (h:=(by (repeat (cbv;simp only [s]));try cbv))
   refine nT (zs ?_)
   obtain ⟨_,z1,h⟩:=bindS h
   have i3:=ckI z1
   obtain ⟨_,c2,h⟩:=bindS h
   have l3:=ckI c2
   obtain ⟨_,i2,h⟩:=bindS h
   have r3:=ckI i2
   refine zA ?_ (h:=(by (repeat (cbv;simp only [s,i3,l3,r3]));try cbv))
   refine nT (zs ?_)
   refine zA ?_ (h:=(by (repeat (cbv;simp only [s]));try cbv))
   refine nT (zs (zs ?_))
   refine zA ?_ (h:=(by (repeat (cbv;simp only [s]));try cbv))
   refine nT (zb ?_)
   obtain ⟨c6,l4,e1,g4,m0⟩:=bindK h
   refine AWp.cutX 0 [0,1,5,6,7] [] 1 (lb rfl) (fun τ => ∃ Q q0,e1 (Q,q0)=some e0/\τ={ env:=[(0,zl 1 e),(1,zl 1 E),(5,(.own 1 [])),(6,.mref 0 1 0 (A.len e)),(7,zi Q)],heap:=[(.arr 1 q0)],n:=210 }) ?_ ?_
   ·skip
    refine AWp.iter l4 [0,1,5,6,7,8] [] 1 (lb rfl) (fun (z0,p0,a1)=>{ env:=[(0,zl 1 e),(1,zl 1 E),(5,(.own 1 [])),(6,.mref 0 1 0 (A.len e)),(7,zi z0),(8,zi p0)],heap:=[(.arr 1 a1)],n:=210 }) ⟨rfl,(by first | (cbv;done) | ((repeat (cbv;simp only [s]));try cbv))⟩ ?_
    rintro ⟨z0,p0,a1⟩ m5 i
    dsimp only [M8L0] at i
    refine zs (zs ?_)
    refine zA ?_
    refine nT ?_
    rcases tf (A.zlt p0 (A.len e)) with z | z
    ·replace i:=cT z i
     refine zT ?_ (hb:=(by first | rfl | simp only [z,zqa,zqb,zqc,zqd]))
     refine zk (nT (zs (zb (zs ?_))))
     obtain ⟨e5,q2,i⟩:=bindS i
     obtain ⟨v3,w3⟩:=gtI q2
     obtain ⟨_,r2,i⟩:=bindS i
     have y3:=ckI r2
     obtain ⟨_,s2,i⟩:=bindS i
     have z3:=ckI s2
     obtain ⟨j5,u2,i⟩:=bindS i
     refine zA ?_ { tk:=[52] } (h:=(by (repeat (cbv;simp only [z,v3,w3,y3,z3,u2]));try cbv))
     refine nT ?_
     obtain ⟨_,v2,i⟩:=bindS i
     have a4:=ckI v2
     obtain ⟨_,w2,i⟩:=bindS i
     have b4:=ckI w2
     obtain ⟨g5,y2,i⟩:=bindS i
     have c4:=gcI y2
     refine zA ?_ (h:=(by (repeat (cbv;simp only [z,a4,b4,c4]));try cbv))
     refine nB (nT ?_)
     refine zA ?_ (h:=(by (repeat (cbv;simp only [z]));try cbv))
     exact nT ⟨_,(soI i).symm,rfl,(by first | (cbv;done) | ((repeat (cbv;simp only [z]));try cbv))⟩
    ·replace i:=cF z i
     refine zU ?_ (hb:=(by first | rfl | simp only [z,zqa,zqb,zqc,zqd]))
     refine AWp.exit (xT (xT ?_))
     refine exL i fun hx => ?_
     subst hx
     exact oxI ⟨rfl,_,_,m0,(by first | (cbv;done) | ((repeat (cbv;simp only [z]));try cbv))⟩
   ·rintro _ ⟨Q,q0,m0,rfl⟩
    have h:=(g4 _ m0)
    refine xB (nT (zs (zs ?_)))
    refine zA ?_
    refine nT (zb ?_)
    obtain ⟨a6,j4,c1,e4,l0⟩:=bindK h
    refine AWp.cutX 2 [0,5] [] 1 (lb rfl) (fun τ => ∃ o0 a0,c1 (o0,a0)=some e0/\τ={ env:=[(0,zl 1 e),(5,(.own 1 o0))],heap:=[(.arr 1 a0)],n:=210 }) ?_ ?_
    ·skip
     refine AWp.iter j4 [0,1,5,6,7,9] [] 1 (lb rfl) (fun (b0,V,c0)=>{ env:=[(0,zl 1 e),(1,zl 1 E),(5,(.own 1 b0)),(6,.mref 0 1 0 (A.len e)),(7,zi Q),(9,zi V)],heap:=[(.arr 1 c0)],n:=210 }) ⟨rfl,zc⟩ ?_
     rintro ⟨b0,V,c0⟩ z2 b
     dsimp only [M8L2] at b
     refine zs (zs ?_)
     refine zA ?_
     refine nT ?_
     rcases tf (A.zlt V Q) with p | p
     ·replace b:=cT p b
      refine zT ?_ (hb:=(by first | rfl | simp only [p,zqa,zqb,zqc,zqd]))
      refine zk (nT (zs (zb (zs ?_))))
      refine zA ?_ (h:=(by (repeat (cbv;simp only [p]));try cbv))
      refine nT (zs (zs ?_))
      refine zA ?_ (h:=(by (repeat (cbv;simp only [p]));try cbv))
      refine nT ?_
      obtain ⟨a5,C,b⟩:=bindS b
      refine AWp.cutN [0,1,5,6,7,9,10] [] 1 (lb rfl) (fun τ=>τ={ env:=[(0,zl 1 e),(1,zl 1 E),(5,(.own 1 b0)),(6,.mref 0 1 0 (A.len e)),(7,zi Q),(9,zi V),(10,zi a5)],heap:=[(.arr 1 c0)],n:=210 }) ?_ ?_
      ·skip
       rcases tf (A.zlt V (A.len E)) with G | G
       ·replace C:=cT G C
        refine zT ?_ (hb:=(by first | rfl | simp only [p,G,zqa,zqb,zqc,zqd]))
        obtain ⟨b5,i1,C⟩:=bindS C
        obtain ⟨a3,b3⟩:=gtI i1
        obtain ⟨_,k1,C⟩:=bindS C
        have c3:=nkI k1
        refine zA ?_ (h:=(by (repeat (cbv;simp only [p,G,a3,b3,c3]));try cbv))
        cases soI C
        exact (zO (g:=(by first | (cbv;done) | ((repeat (cbv;simp only [p,G]));try cbv))))
       ·replace C:=cF G C
        refine zU ?_ (hb:=(by first | rfl | simp only [p,G,zqa,zqb,zqc,zqd]))
        refine zk ?_
        cases soI C
        exact (zO (g:=(by first | (cbv;done) | ((repeat (cbv;simp only [p,G]));try cbv))))
      ·rintro _ rfl
       refine nT (zs (zb ?_))
       obtain ⟨z5,i4,b1,d4,k0⟩:=bindK b
       refine AWp.cutX 4 [0,1,5,6,7,9,10] [] 1 (lb rfl) (fun τ => ∃ n0,b1 n0=some z2/\τ={ env:=[(0,zl 1 e),(1,zl 1 E),(5,(.own 1 b0)),(6,.mref 0 1 0 (A.len e)),(7,zi Q),(9,zi V),(10,zi n0)],heap:=[(.arr 1 c0)],n:=210 }) ?_ ?_
       ·skip
        refine AWp.iter i4 [0,1,5,6,7,9,10] [] 1 (lb rfl) (fun r0=>{ env:=[(0,zl 1 e),(1,zl 1 E),(5,(.own 1 b0)),(6,.mref 0 1 0 (A.len e)),(7,zi Q),(9,zi V),(10,zi r0)],heap:=[(.arr 1 c0)],n:=210 }) ⟨rfl,zc⟩ ?_
        rintro r0 k5 l
        dsimp only [M8L1] at l
        refine zs (zs ?_)
        obtain ⟨_,l1,l⟩:=bindS l
        have d3:=ckI l1
        obtain ⟨_,m1,l⟩:=bindS l
        have g3:=ckI m1
        obtain ⟨g1,n1,l⟩:=bindS l
        have j3:=gcI n1
        refine zA ?_ (h:=(by (repeat (cbv;simp only [d3,g3,j3]));try cbv))
        refine nT ?_
        rcases tf (A.zeq g1 0) with J | J
        ·replace l:=cT J l
         refine zT ?_ (hb:=(by first | rfl | simp only [J,zqa,zqb,zqc,zqd]))
         refine zk (nT (zb ?_))
         obtain ⟨_,o1,l⟩:=bindS l
         have k3:=nkI o1
         refine zA ?_ (h:=(by (repeat (cbv;simp only [J,k3]));try cbv))
         refine nB ?_
         exact nT ⟨_,(soI l).symm,rfl,(by first | (cbv;done) | ((repeat (cbv;simp only [J]));try cbv))⟩
        ·replace l:=cF J l
         refine zU ?_ (hb:=(by first | rfl | simp only [J,zqa,zqb,zqc,zqd]))
         refine AWp.exit (xT (xT ?_))
         refine exL l fun hx => ?_
         subst hx
         exact oxI ⟨rfl,_,k0,(by first | (cbv;done) | ((repeat (cbv;simp only [J]));try cbv))⟩
       ·rintro _ ⟨n0,k0,rfl⟩
        have b:=(d4 _ k0)
        refine xB (nT (zs ?_))
        obtain ⟨_,p1,b⟩:=bindS b
        have m3:=ckI p1
        obtain ⟨_,q1,b⟩:=bindS b
        have n3:=ckI q1
        obtain ⟨c5,r1,b⟩:=bindS b
        have o3:=gcI r1
        obtain ⟨_,s1,b⟩:=bindS b
        have p3:=ckI s1
        obtain ⟨_,u1,b⟩:=bindS b
        have q3:=ckI u1
        obtain ⟨i5,v1,b⟩:=bindS b
        refine zA ?_ { tk:=[91] } (h:=(by (repeat (cbv;simp only [m3,n3,o3,p3,q3,v1]));try cbv))
        refine nT ?_
        obtain ⟨n5,w1,b⟩:=bindS b
        obtain ⟨s3,u3⟩:=apI w1
        refine zA ?_ { tk:=[5,96] } (h:=(by (repeat (cbv;simp only [s3,u3]));try cbv))
        refine nB (nT ?_)
        refine zA ?_
        exact nT ⟨_,(soI b).symm,rfl,zc⟩
     ·replace b:=cF p b
      refine zU ?_ (hb:=(by first | rfl | simp only [p,zqa,zqb,zqc,zqd]))
      refine AWp.exit (xT (xT ?_))
      refine exL b fun hx => ?_
      subst hx
      exact oxI ⟨rfl,_,_,l0,(by first | (cbv;done) | ((repeat (cbv;simp only [p]));try cbv))⟩
    ·rintro _ ⟨o0,a0,l0,rfl⟩
     have h:=(e4 _ l0)
     refine xB (nT (zs (zn ?_)))
     obtain ⟨⟨m4,n4⟩,y1,h⟩:=bindS h
     refine zC (M33w hA y1) ?_
     refine zE ?_
     refine nT (zs (zn ?_))
     obtain ⟨⟨o4,p4⟩,a2,h⟩:=bindS h
     refine zC (M21w hA a2) ?_
     refine zE ?_
     refine nT (zs (zn ?_))
     obtain ⟨⟨q4,s4⟩,b2,h⟩:=bindS h
     refine zC (M28w hA b2) ?_
     refine zE ?_
     refine nT (zs (zs ?_))
     obtain ⟨s0,c,h⟩:=bindS h
     refine AWp.cutN [0,11,15,134] [] 1 (lb rfl) (fun τ=>τ={ env:=[(0,zl 1 e),(11,zl 1 m4),(15,zl 1 q4),(134,.d (.bool s0))],heap:=[(.arr 1 a0)],n:=210 }) ?_ ?_
     ·skip
      refine zn ?_
      rcases tf (A.zeq n4 0) with o | o
      ·replace c:=cT o c
       rcases tf (A.zeq p4 0) with u | u
       ·replace c:=cT u c
        rcases tf (A.zeq s4 0) with w | w
        ·replace c:=cT w c
         rcases tf o4 with K | K
         ·replace c:=cT K c
          obtain ⟨p5,d2,c⟩:=bindS c
          refine zC (M30w hA d2) ?_ (h:=(by (repeat (cbv;simp only [o,u,w,K]));try cbv))
          refine zE ?_ (h:=(by (repeat (cbv;simp only [o,u,w,K]));try cbv))
          cases soI c
          exact (zO (g:=(by first | (cbv;done) | ((repeat (cbv;simp only [o,u,w,K]));try cbv))))
         ·replace c:=cF K c
          refine zE ?_ (h:=(by (repeat (cbv;simp only [o,u,w,K]));try cbv))
          cases soI c
          exact (zO (g:=(by first | (cbv;done) | ((repeat (cbv;simp only [o,u,w,K]));try cbv))))
        ·replace c:=cF w c
         refine zE ?_ (h:=(by (repeat (cbv;simp only [o,u,w]));try cbv))
         cases soI c
         exact (zO (g:=(by first | (cbv;done) | ((repeat (cbv;simp only [o,u,w]));try cbv))))
       ·replace c:=cF u c
        refine zE ?_ (h:=(by (repeat (cbv;simp only [o,u]));try cbv))
        cases soI c
        exact (zO (g:=(by first | (cbv;done) | ((repeat (cbv;simp only [o,u]));try cbv))))
      ·replace c:=cF o c
       refine zE ?_ (h:=(by (repeat (cbv;simp only [o]));try cbv))
       cases soI c
       exact (zO (g:=(by first | (cbv;done) | ((repeat (cbv;simp only [o]));try cbv))))
     ·rintro _ rfl
      refine nT ?_
      rcases tf s0 with k | k
      ·replace h:=cT k h
       refine zT ?_ (hb:=(by first | rfl | simp only [k,zqa,zqb,zqc,zqd]))
       refine zs ?_
       refine zA ?_ (h:=(by (repeat (cbv;simp only [k]));try cbv))
       refine nT (zr (rT ?_))
       cases soI h
       exact zq
      ·replace h:=cF k h
       refine zU ?_ (hb:=(by first | rfl | simp only [k,zqa,zqb,zqc,zqd]))
       refine zk (nT (zs (zn ?_)))
       obtain ⟨⟨q5,u4⟩,e2,h⟩:=bindS h
       refine zC (M33w hA e2) ?_ (h:=(by (repeat (cbv;simp only [k]));try cbv))
       refine zE ?_ (h:=(by (repeat (cbv;simp only [k]));try cbv))
       refine nT (zs (zn ?_))
       obtain ⟨⟨Y,v4⟩,g2,h⟩:=bindS h
       refine zC (M19w hA g2) ?_ (h:=(by (repeat (cbv;simp only [k]));try cbv))
       refine zE ?_ (h:=(by (repeat (cbv;simp only [k]));try cbv))
       refine nT (zs (zs ?_))
       obtain ⟨u0,r,h⟩:=bindS h
       refine AWp.cutN [0,18,157] [] 1 (lb rfl) (fun τ=>τ={ env:=[(0,zl 1 e),(18,zl 1 Y),(157,.d (.bool u0))],heap:=[(.arr 1 a0)],n:=210 }) ?_ ?_
       ·skip
        refine zn ?_
        rcases tf (A.zeq u4 0) with y | y
        ·replace r:=cT y r
         rcases tf (A.zeq v4 0) with L | L
         ·replace r:=cT L r
          obtain ⟨r5,j2,r⟩:=bindS r
          refine zC (M30w hA j2) ?_ (h:=(by (repeat (cbv;simp only [k,y,L]));try cbv))
          refine zE ?_ (h:=(by (repeat (cbv;simp only [k,y,L]));try cbv))
          cases soI r
          exact (zO (g:=(by first | (cbv;done) | ((repeat (cbv;simp only [k,y,L]));try cbv))))
         ·replace r:=cF L r
          refine zE ?_ (h:=(by (repeat (cbv;simp only [k,y,L]));try cbv))
          cases soI r
          exact (zO (g:=(by first | (cbv;done) | ((repeat (cbv;simp only [k,y,L]));try cbv))))
        ·replace r:=cF y r
         refine zE ?_ (h:=(by (repeat (cbv;simp only [k,y]));try cbv))
         cases soI r
         exact (zO (g:=(by first | (cbv;done) | ((repeat (cbv;simp only [k,y]));try cbv))))
       ·rintro _ rfl
        refine nT ?_
        rcases tf u0 with v | v
        ·replace h:=cT v h
         refine zT ?_ (hb:=(by first | rfl | simp only [v,zqa,zqb,zqc,zqd]))
         refine zs ?_
         refine zA ?_ (h:=(by (repeat (cbv;simp only [v]));try cbv))
         refine nT (zr (rT ?_))
         cases soI h
         exact zq
        ·replace h:=cF v h
         refine zU ?_ (hb:=(by first | rfl | simp only [v,zqa,zqb,zqc,zqd]))
         refine zk (nT (zs (zn ?_)))
         obtain ⟨⟨s5,w4⟩,k2,h⟩:=bindS h
         refine zC (M35w hA k2) ?_ (h:=(by (repeat (cbv;simp only [v]));try cbv))
         refine zE ?_ (h:=(by (repeat (cbv;simp only [v]));try cbv))
         refine nT (zs (zs ?_))
         obtain ⟨v0,W,h⟩:=bindS h
         refine AWp.cutN [0,18,170] [] 1 (lb rfl) (fun τ=>τ={ env:=[(0,zl 1 e),(18,zl 1 Y),(170,.d (.bool v0))],heap:=[(.arr 1 a0)],n:=210 }) ?_ ?_
         ·skip
          rcases tf (A.zeq w4 0) with R | R
          ·replace W:=cT R W
           refine zA ?_ (h:=(by (repeat (cbv;simp only [v,R]));try cbv))
           cases soI W
           exact (zO (g:=(by first | (cbv;done) | ((repeat (cbv;simp only [v,R]));try cbv))))
          ·replace W:=cF R W
           refine zA ?_ (h:=(by (repeat (cbv;simp only [v,R]));try cbv))
           cases soI W
           exact (zO (g:=(by first | (cbv;done) | ((repeat (cbv;simp only [v,R]));try cbv))))
         ·rintro _ rfl
          refine nT ?_
          rcases tf v0 with M | M
          ·replace h:=cT M h
           refine zT ?_ (hb:=(by first | rfl | simp only [M,zqa,zqb,zqc,zqd]))
           refine zs ?_
           refine zA ?_ (h:=(by (repeat (cbv;simp only [M]));try cbv))
           refine nT (zr (rT ?_))
           cases soI h
           exact zq
          ·replace h:=cF M h
           refine zU ?_ (hb:=(by first | rfl | simp only [M,zqa,zqb,zqc,zqd]))
           refine zk (nT (zs (zs ?_)))
           refine zA ?_ (h:=(by (repeat (cbv;simp only [M]));try cbv))
           refine nT (zb ?_)
           refine AWp.weak (Wk.ren [] [0,18,20] rfl rfl) ?_
           obtain ⟨b6,k4,d1,j0,F⟩:=bindK h
           refine AWp.cutX 6 [] [] 0 (lb rfl) (fun τ=>d1 (.inl ())=some e0/\τ={ env:=[],heap:=[],n:=210 }) ?_ ?_
           ·skip
            refine AWp.iter k4 [0,18,20] [] 0 (lb rfl) (fun d0=>{ env:=[(0,zl 1 e),(18,zl 1 Y),(20,zi d0)],heap:=[],n:=210 }) ⟨rfl,(by first | (cbv;done) | ((repeat (cbv;simp only [M]));try cbv))⟩ ?_
            rintro d0 l5 a
            dsimp only [M8L3] at a
            refine zs (zs ?_)
            obtain ⟨w0,X,a⟩:=bindS a
            refine AWp.cutN [0,18,20,178] [] 0 (lb rfl) (fun τ=>τ={ env:=[(0,zl 1 e),(18,zl 1 Y),(20,zi d0),(178,.d (.bool w0))],heap:=[],n:=210 }) ?_ ?_
            ·skip
             rcases tf (A.zlt d0 (A.len Y)) with S | S
             ·replace X:=cT S X
              refine zA ?_ (h:=(by (repeat (cbv;simp only [S]));try cbv))
              cases soI X
              exact (zO (g:=(by first | (cbv;done) | ((repeat (cbv;simp only [S]));try cbv))))
             ·replace X:=cF S X
              refine zA ?_ (h:=(by (repeat (cbv;simp only [S]));try cbv))
              cases soI X
              exact (zO (g:=(by first | (cbv;done) | ((repeat (cbv;simp only [S]));try cbv))))
            ·rintro _ rfl
             refine nT ?_
             rcases tf w0 with j | j
             ·replace a:=cT j a
              refine zT ?_ (hb:=(by first | rfl | simp only [j,zqa,zqb,zqc,zqd]))
              refine zk (nT (zs (zb (zs (zn ?_)))))
              obtain ⟨d5,l2,a⟩:=bindS a
              obtain ⟨g0,i0⟩:=gtI l2
              obtain ⟨⟨u5,y4⟩,m2,a⟩:=bindS a
              refine zC (M28w hA m2) ?_ (h:=(by (repeat (cbv;simp only [j,g0,i0]));try cbv))
              refine zE ?_ (h:=(by (repeat (cbv;simp only [j,g0,i0]));try cbv))
              refine nT (zs (zs ?_))
              refine zA ?_ (h:=(by (repeat (cbv;simp only [j]));try cbv))
              refine nT ?_
              rcases tf (A.zeq y4 0) with q | q
              ·replace a:=cT q a
               refine zU ?_ (hb:=(by first | rfl | simp only [j,q,zqa,zqb,zqc,zqd]))
               refine zk (nT (zs (zn ?_)))
               obtain ⟨⟨v5,z4⟩,n2,a⟩:=bindS a
               refine zC (M33w hA n2) ?_ (h:=(by (repeat (cbv;simp only [j,q]));try cbv))
               refine zE ?_ (h:=(by (repeat (cbv;simp only [j,q]));try cbv))
               refine nT (zs ?_)
               obtain ⟨y0,P,a⟩:=bindS a
               refine AWp.cutN [0,18,20,208] [] 0 (lb rfl) (fun τ=>τ={ env:=[(0,zl 1 e),(18,zl 1 Y),(20,zi d0),(208,.d (.bool y0))],heap:=[],n:=210 }) ?_ ?_
               ·skip
                refine zn ?_
                rcases tf (A.zeq z4 0) with N | N
                ·replace P:=cT N P
                 obtain ⟨w5,o2,P⟩:=bindS P
                 refine zC (M30w hA o2) ?_ (h:=(by (repeat (cbv;simp only [j,q,N,g0,i0]));try cbv))
                 refine zE ?_ (h:=(by (repeat (cbv;simp only [j,q,N,g0,i0]));try cbv))
                 cases soI P
                 exact (zO (g:=(by first | (cbv;done) | ((repeat (cbv;simp only [j,q,N]));try cbv))))
                ·replace P:=cF N P
                 refine zE ?_ (h:=(by (repeat (cbv;simp only [j,q,N]));try cbv))
                 cases soI P
                 exact (zO (g:=(by first | (cbv;done) | ((repeat (cbv;simp only [j,q,N]));try cbv))))
               ·rintro _ rfl
                refine nT ?_
                rcases tf y0 with O | O
                ·replace a:=cT O a
                 refine zT ?_ (hb:=(by first | rfl | simp only [O,zqa,zqb,zqc,zqd]))
                 refine zs ?_
                 refine zA ?_ (h:=(by (repeat (cbv;simp only [O]));try cbv))
                 refine nT (zr (rB (rT (rT ?_))))
                 refine exL a fun hx => ?_
                 subst hx
                 refine oxR ?_
                 replace F:=(eR (j0 _ F))
                 refine rB (rT ?_)
                 cases soI F
                 exact zq
                ·replace a:=cF O a
                 refine zU ?_ (hb:=(by first | rfl | simp only [O,zqa,zqb,zqc,zqd]))
                 refine zk (nB (nT ?_))
                 refine zA ?_ (h:=(by (repeat (cbv;simp only [O]));try cbv))
                 exact nT ⟨_,(soI a).symm,rfl,(by first | (cbv;done) | ((repeat (cbv;simp only [O]));try cbv))⟩
              ·replace a:=cF q a
               refine zT ?_ (hb:=(by first | rfl | simp only [j,q,zqa,zqb,zqc,zqd]))
               refine zs ?_
               refine zA ?_ (h:=(by (repeat (cbv;simp only [j,q]));try cbv))
               refine nT (zr (rT (rB (rT (rT ?_)))))
               refine exL a fun hx => ?_
               subst hx
               refine oxR ?_
               replace F:=(eR (j0 _ F))
               refine rB (rT ?_)
               cases soI F
               exact zq
             ·replace a:=cF j a
              refine zU ?_ (hb:=(by first | rfl | simp only [j,zqa,zqb,zqc,zqd]))
              refine AWp.exit (xT (xT ?_))
              refine exL a fun hx => ?_
              subst hx
              exact oxI ⟨rfl,F,(by first | (cbv;done) | ((repeat (cbv;simp only [j]));try cbv))⟩
           ·rintro _ ⟨F,rfl⟩
            have h:=(eL (j0 _ F))
            refine xB (nT (zs (zn ?_)))
            obtain ⟨y5,p2,h⟩:=bindS h
            refine zC (M18w hA p2) ?_ { tk:=[209] }
            refine zE ?_ { tk:=[209] }
            refine nT (zr ?_)
            cases soI h
            exact zq
end Go.Am
