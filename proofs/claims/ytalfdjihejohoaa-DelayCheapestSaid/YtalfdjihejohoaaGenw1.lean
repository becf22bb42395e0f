/- Own text: Genw1. -/
import Derived.Test.YtalfdjihejohoaaGenw0
set_option maxRecDepth 100000
set_option maxHeartbeats 2000000
set_option linter.unusedVariables false
set_option linter.unusedSimpArgs false
namespace Go.Am
open Go Go.Proofs
theorem E133w {A:Ar} (hA:SA A) {b:Int} {e:List D} {g:List (D×D)} {C l:List D} (h:E133 A b e g C=some l):ACall Try.prog 133 [.gref 2 1,zi b,(.func 108 [] [.ptr 0 0])] [.cells [zl 3 e],(.map true [.int .i64,.int .i64] g),.gro 1 C,.dead,.dead] (.tuple []) [.cells [zl 3 e],(.map true [.int .i64,.int .i64] g),.gro 1 l,.dead,.dead]:=by
 unfold E133 at h
 refine zI Try.func133 ?_
 refine zs ?_
 refine zA ?_
 refine nT (zs ?_)
 refine zA ?_
 refine nT (zs (zb ?_))
 obtain ⟨W,P,E,M,r⟩:=bindK h
 refine AWp.cutXW 0 (fun τ => ∃ v w,E (v,w)=some l/\τ={ env:=[(0,.gref 2 1),(1,zi b),(2,(.func 108 [] [.ptr 0 0])),(6,zi 20),(7,zi v)],heap:=[.cells [zl 3 e],(.map true [.int .i64,.int .i64] g),.gro 1 w,.dead,.dead],n:=63 }) ?_ ?_
 ·skip
  refine AWp.iterW P (fun (B,y,z)=>{ env:=[(0,.gref 2 1),(1,zi b),(2,(.func 108 [] [.ptr 0 0])),(6,zi 20),(7,zi B),(8,zi y)],heap:=[.cells [zl 3 e],(.map true [.int .i64,.int .i64] g),.gro 1 z,.dead,.dead],n:=63 }) ⟨_,zR [some 0,some 1,some 2,some 3,some 4] [0,1,2,6,7,8],rfl⟩ ?_
  rintro ⟨B,y,z⟩ S c
  dsimp only [E133L0] at c
  refine zs (zs ?_)
  refine zA ?_
  refine nT ?_
  rcases tf (A.zle y b) with m | m
  ·replace c:=cT m c
   refine zT ?_
   refine zk (nT (zb (zs (zn ?_))))
   obtain ⟨V,J,c⟩:=bindS c
   refine zD (E140w hA J) ?_
   refine zF ?_
   refine nT (zs ?_)
   refine zB ?_
   refine nT ?_
   refine zB ?_
   refine nB ?_
   exact nT ⟨_,(soI c).symm,_,zR [some 0,some 1,some 2,some 3,some 4] [0,1,2,6,7,8],rfl⟩
  ·replace c:=cF m c
   refine zU ?_
   refine AWp.exit (xT (xT ?_))
   refine exL c fun hx => ?_
   subst hx
   exact oxWI ⟨_,zR [some 0,some 1,some 2,some 3,some 4] [0,1,2,6,7],_,_,r,rfl⟩
 ·rintro _ ⟨v,w,r,rfl⟩
  have h:=(M _ r)
  refine xB (nT (zs (zn ?_)))
  obtain ⟨k,K,h⟩:=bindS h
  refine zC (E140w hA K) ?_
  refine zE ?_
  refine nT (zb ?_)
  obtain ⟨Y,R,G,O,u⟩:=bindK h
  refine AWp.cutXW 2 (fun τ=>G ()=some l/\τ={ env:=[],heap:=[.cells [zl 3 e],(.map true [.int .i64,.int .i64] g),.gro 1 k,.dead,.dead],n:=63 }) ?_ ?_
  ·skip
   refine AWp.iterW R (fun i=>{ env:=[(0,.gref 2 1),(1,zi b),(2,(.func 108 [] [.ptr 0 0])),(6,zi i)],heap:=[.cells [zl 3 e],(.map true [.int .i64,.int .i64] g),.gro 1 k,.dead,.dead],n:=63 }) ⟨_,zR [some 0,some 1,some 2,some 3,some 4] [0,1,2,6],rfl⟩ ?_
   rintro i L a
   dsimp only [E133L2] at a
   refine zs (zs ?_)
   refine zA ?_
   refine nT ?_
   rcases tf (A.zlt i b) with o | o
   ·replace a:=cT o a
    refine zT ?_
    refine zk (nT (zb (zs ?_)))
    refine zB ?_
    refine nT (zs (zb ?_))
    obtain ⟨X,Q,F,N,s⟩:=bindK a
    refine AWp.cutXW 4 (fun τ=>F ()=some L/\τ={ env:=[(0,.gref 2 1),(1,zi b),(2,(.func 108 [] [.ptr 0 0])),(6,zi i),(7,zi 0)],heap:=[.cells [zl 3 e],(.map true [.int .i64,.int .i64] g),.gro 1 k,.dead,.dead],n:=63 }) ?_ ?_
    ·skip
     refine AWp.iterW Q (fun ()=>{ env:=[(0,.gref 2 1),(1,zi b),(2,(.func 108 [] [.ptr 0 0])),(6,zi i),(7,zi 0),(8,(.d (.int .i64 (A.wrp .i64 (A.zmul 2 i)))))],heap:=[.cells [zl 3 e],(.map true [.int .i64,.int .i64] g),.gro 1 k,.dead,.dead],n:=63 }) ⟨_,zR [some 0,some 1,some 2,some 3,some 4] [0,1,2,6,7,8],rfl⟩ ?_
     rintro _ U j
     dsimp only [E133L1] at j
     refine zs (zs ?_)
     refine zA ?_
     refine nT ?_
     rcases tf (A.zle (A.wrp .i64 (A.zmul 2 i)) b) with p | p
     ·replace j:=cT p j
      refine zT ?_
      refine zk (nT (zb (zs (zn ?_))))
      cases j
     ·replace j:=cF p j
      refine zU ?_
      refine AWp.exit (xT (xT ?_))
      refine exL j fun hx => ?_
      subst hx
      exact oxWI ⟨_,zR [some 0,some 1,some 2,some 3,some 4] [0,1,2,6,7],s,rfl⟩
    ·rintro _ ⟨s,rfl⟩
     have a:=(N _ s)
     refine xB (nT (zs (zs ?_)))
     refine zA ?_
     refine nT (zs ?_)
     refine zA ?_
     refine nT ?_
     rcases tf (A.zlt (A.wrp .i64 (A.zadd 0 i)) b) with q | q
     ·replace a:=cT q a
      refine zT ?_
      refine zn ?_
      cases a
     ·replace a:=cF q a
      refine zU ?_
      refine zk (nT ?_)
      refine zB ?_
      refine nB ?_
      exact nT ⟨_,(soI a).symm,_,zR [some 0,some 1,some 2,some 3,some 4] [0,1,2,6],rfl⟩
   ·replace a:=cF o a
    refine zU ?_
    refine AWp.exit (xT (xT ?_))
    refine exL a fun hx => ?_
    subst hx
    exact oxWI ⟨_,zR [some 0,some 1,some 2,some 3,some 4] [],u,rfl⟩
  ·rintro _ ⟨u,rfl⟩
   have h:=(O _ u)
   refine xB ?_
   cases soI h
   exact zq

theorem E107w {A:Ar} (hA:SA A) {a:List D} {b:List (D×D)} {e c:List D} (h:E107 A a b e=some c):ACall Try.prog 107 [.gref 2 1,(.func 108 [] [.ptr 0 0])] [.cells [zl 3 a],(.map true [.int .i64,.int .i64] b),.gro 1 e,.dead,.dead] (.tuple []) [.cells [zl 3 a],(.map true [.int .i64,.int .i64] b),.gro 1 c,.dead,.dead]:=by
 unfold E107 at h
 refine zI Try.func107 ?_
 refine zn ?_
 obtain ⟨i,g,h⟩:=bindS h
 refine zC (E133w hA g) ?_
 refine zE ?_
 cases soI h
 exact zq

theorem E59w {A:Ar} (hA:SA A) {x1 X r:List D} {s:Int} (h:E59 A x1 X=some (r,s)):ACall Try.prog 59 [zl 1 x1,zl 1 X] [] (.tuple [zl 1 r,zi s]) []:=by
 unfold E59 at h
 refine zI Try.func59 ?_
 refine zs ?_
 refine zA ?_
 refine nT (zs (zs (zn ?_)))
 obtain ⟨r4,e3,h⟩:=bindS h
 refine zC (E98w hA e3) ?_
 refine zE ?_
 refine nT (zs ?_)
 refine zA ?_
 refine nT ?_
 rcases tf (A.zeq r4 0) with J | J
 ·replace h:=cT J h
  refine zU ?_
  refine zk (nT (zs (zn ?_)))
  obtain ⟨g,e6,h⟩:=bindS h
  refine zD (E77w hA e6) ?_ { tk:=[27],esc:=[7] }
  refine zF ?_ { tk:=[27],esc:=[7] }
  refine nT (zs ?_)
  refine zB ?_
  refine nT (zs (zs (zn ?_)))
  obtain ⟨P,e8,h⟩:=bindS h
  refine zD (E104w hA e8) ?_
  refine zF ?_
  refine nT (zb ?_)
  obtain ⟨o3,r1,l0,m1,N⟩:=bindK h
  refine AWp.cutX 0 [7,8] [] 2 (lb rfl) (fun τ => ∃ u,l0 u=some (r,s)/\τ={ env:=[(7,.ptr 0 0),(8,(.map 1))],heap:=[.cells [zl 3 g],(.map true [.int .i64,.int .i64] u)],n:=114 }) ?_ ?_
  ·skip
   refine AWp.iter r1 [1,7,8,30,31,32] [] 2 (lb rfl) (fun (U,e0)=>{ env:=[(1,zl 1 X),(7,.ptr 0 0),(8,(.map 1)),(30,(.own 2 P)),(31,(.d (.int .i64 (A.len P)))),(32,zi U)],heap:=[.cells [zl 3 g],(.map true [.int .i64,.int .i64] e0)],n:=114 }) ⟨rfl,zv⟩ ?_
   rintro ⟨U,e0⟩ j2 b
   dsimp only [E59L0] at b
   refine zs ?_
   refine zA ?_
   refine nT (zs ?_)
   rcases tf (A.zlt U (A.len P)) with F | F
   ·replace b:=cT F b
    refine zT ?_
    refine zk (nT (zs (zb (zs ?_))))
    obtain ⟨⟨b2,c2⟩,w0,b⟩:=bindS b
    obtain ⟨v2,w2⟩:=gtI w0
    refine zB ?_ { tk:=[35] }
    refine nT ?_
    obtain ⟨d2,y0,b⟩:=bindS b
    obtain ⟨y2,z2⟩:=gtI y0
    obtain ⟨e2,z0,b⟩:=bindS b
    obtain ⟨a3,b3⟩:=gtI z0
    refine AWp.rd hT hA {} rfl zu (by kernel_rfl) (lb rfl) ?_
    refine nB (nT ?_)
    refine zB ?_
    exact nT ⟨_,(soI b).symm,rfl,zv⟩
   ·replace b:=cF F b
    refine zU ?_
    refine AWp.exit (xT (xT ?_))
    refine exL b fun hx => ?_
    subst hx
    exact oxI ⟨rfl,_,N,zv⟩
  ·rintro _ ⟨u,N,rfl⟩
   have h:=(m1 _ N)
   refine xB (nT (zs ?_))
   refine zA ?_
   refine nT (zs (zs ?_))
   refine zA ?_
   refine nT (zb ?_)
   refine AWp.weak (Wk.settleS 11 rfl (lb rfl)) ?_
   obtain ⟨p3,s1,m0,n1,O⟩:=bindK h
   refine AWp.cutXW 2 (fun τ => ∃ W,m0 W=some (r,s)/\τ={ env:=[(7,.ptr 0 0),(8,(.map 1)),(11,.gref 2 1)],heap:=[.cells [zl 3 g],(.map true [.int .i64,.int .i64] u),.gro 1 W,.dead,.dead],n:=114 }) ?_ ?_
   ·skip
    refine AWp.iterW s1 (fun (V,g0)=>{ env:=[(7,.ptr 0 0),(8,(.map 1)),(11,.gref 2 1),(49,(.d (.int .i64 (A.len g)))),(50,zi V)],heap:=[.cells [zl 3 g],(.map true [.int .i64,.int .i64] u),.gro 1 g0,.dead,.dead],n:=114 }) ⟨_,zR [some 0,some 1,some 2,some 3,some 4] [7,8,11,49,50],rfl⟩ ?_
    rintro ⟨V,g0⟩ k2 j
    dsimp only [E59L1] at j
    refine zs ?_
    refine zA ?_
    refine nT (zs ?_)
    rcases tf (A.zlt V (A.len g)) with G | G
    ·replace j:=cT G j
     refine zT ?_
     refine zk (nT (zs (zb (zs ?_))))
     refine zB ?_
     refine nT ?_
     obtain ⟨k3,a1,j⟩:=bindS j
     obtain ⟨c3,d3⟩:=apI a1
     refine zB ?_ { tk:=[11,56],gr:=[56] }
     refine nB (nT ?_)
     refine zB ?_
     exact nT ⟨_,(soI j).symm,_,zR [some 0,some 1,some 5,some 6,some 7] [7,8,11,49,50],rfl⟩
    ·replace j:=cF G j
     refine zU ?_
     refine AWp.exit (xT (xT ?_))
     refine exL j fun hx => ?_
     subst hx
     exact oxWI ⟨_,zR [some 0,some 1,some 2,some 3,some 4] [7,8,11],_,O,rfl⟩
   ·rintro _ ⟨W,O,rfl⟩
    have h:=(n1 _ O)
    refine xB (nT (zs (zn ?_)))
    obtain ⟨c,b1,h⟩:=bindS h
    refine zC (E107w hA b1) ?_
    refine zE ?_
    refine nT (zs ?_)
    obtain ⟨_,c1,h⟩:=bindS h
    have g3:=ckI c1
    obtain ⟨_,d1,h⟩:=bindS h
    have i3:=ckI d1
    obtain ⟨_,e1,h⟩:=bindS h
    have j3:=ckI e1
    refine zB ?_ { gr:=[63] }
    refine nT (zs (zs ?_))
    refine zA ?_
    refine nT (zb ?_)
    refine AWp.weak (Wk.ren [some 0,some 1,some 5,some 6,some 7,some 2,some 3,some 4] [7,8,13,64,65,66] rfl rfl) ?_
    obtain ⟨n3,q1,k0,l1,M⟩:=bindK h
    refine AWp.cutXW 4 (fun τ => ∃ S,k0 S=some (r,s)/\τ={ env:=[(13,.gref 0 1)],heap:=[.gro 1 S,.dead,.dead],n:=114 }) ?_ ?_
    ·skip
     refine AWp.iterW q1 (fun (k,p,l)=>{ env:=[(7,.ptr 0 0),(8,(.map 1)),(13,.gref 2 1),(64,.gref 5 1),(65,(.d (.int .i64 (A.len c)))),(66,zi k)],heap:=[.cells [zl 3 g],(.map true [.int .i64,.int .i64] p),.gro 1 l,.dead,.dead,.gro 1 c,.dead,.dead],n:=114 }) ⟨_,zR [some 0,some 1,some 2,some 3,some 4,some 5,some 6,some 7] [7,8,13,64,65,66],rfl⟩ ?_
     rintro ⟨k,p,l⟩ b0 a
     dsimp only [E59L4] at a
     refine zs ?_
     refine zA ?_
     refine nT (zs ?_)
     rcases tf (A.zlt k (A.len c)) with B | B
     ·replace a:=cT B a
      refine zT ?_
      refine zk (nT (zs (zb (zs ?_))))
      obtain ⟨_,n0,a⟩:=bindS a
      have l2:=ckI n0
      obtain ⟨_,o0,a⟩:=bindS a
      have m2:=ckI o0
      obtain ⟨o,p0,a⟩:=bindS a
      have n2:=gcI p0
      refine zB ?_
      refine nT (zs ?_)
      obtain ⟨⟨v,w,m⟩,q0,a⟩:=bindS a
      obtain ⟨o2,p2⟩:=gtI q0
      refine zB ?_ { tk:=[73] }
      refine nT (zs ?_)
      refine zB ?_
      refine nT (zs (zs ?_))
      refine zB ?_
      refine nT (zb ?_)
      obtain ⟨l3,o1,i0,j1,K⟩:=bindK a
      refine AWp.cutXW 6 (fun τ => ∃ q,i0 q=some b0/\τ={ env:=[(7,.ptr 0 0),(8,(.map 1)),(13,.gref 2 1),(15,zi o),(16,(.lbox [zi v,zi w,zi m])),(17,zi q),(64,.gref 5 1),(65,(.d (.int .i64 (A.len c)))),(66,zi k)],heap:=[.cells [zl 3 g],(.map true [.int .i64,.int .i64] p),.gro 1 l,.dead,.dead,.gro 1 c,.dead,.dead],n:=114 }) ?_ ?_
      ·skip
       refine AWp.iterW o1 (fun (c0,z)=>{ env:=[(7,.ptr 0 0),(8,(.map 1)),(13,.gref 2 1),(15,zi o),(16,(.lbox [zi v,zi w,zi m])),(17,zi c0),(18,zi z),(64,.gref 5 1),(65,(.d (.int .i64 (A.len c)))),(66,zi k)],heap:=[.cells [zl 3 g],(.map true [.int .i64,.int .i64] p),.gro 1 l,.dead,.dead,.gro 1 c,.dead,.dead],n:=114 }) ⟨_,zR [some 0,some 1,some 2,some 3,some 4,some 5,some 6,some 7] [7,8,13,15,16,17,18,64,65,66],rfl⟩ ?_
       rintro ⟨c0,z⟩ g2 i
       dsimp only [E59L2] at i
       refine zs (zs ?_)
       refine zA ?_
       refine nT ?_
       rcases tf (A.zlt z m) with C | C
       ·replace i:=cT C i
        refine zT ?_
        refine zk (nT (zs (zb ?_)))
        obtain ⟨w1,y,i⟩:=bindS i
        refine AWp.cutW (fun τ=>τ={ env:=[(7,.ptr 0 0),(8,(.map 1)),(13,.gref 2 1),(15,zi o),(16,(.lbox [zi v,zi w,zi m])),(17,zi w1),(18,zi z),(64,.gref 5 1),(65,(.d (.int .i64 (A.len c)))),(66,zi k)],heap:=[.cells [zl 3 g],(.map true [.int .i64,.int .i64] p),.gro 1 l,.dead,.dead,.gro 1 c,.dead,.dead],n:=114 }) ?_ ?_
        ·skip
         obtain ⟨u1,Y,y⟩:=bindS y
         rcases u1 with _ | y1
         ·have g1:=lkN Y
          refine zB ?_ { tk:=[89] }
          cases soI y
          exact oWi ⟨_,zR [some 0,some 1,some 2,some 3,some 4,some 5,some 6,some 7] [7,8,13,15,16,17,18,64,65,66],rfl⟩
         ·have g1:=lkS Y
          refine zB ?_ { tk:=[89] }
          cases soI y
          exact oWi ⟨_,zR [some 0,some 1,some 2,some 3,some 4,some 5,some 6,some 7] [7,8,13,15,16,17,18,64,65,66],rfl⟩
        ·rintro _ rfl
         refine nB (nT ?_)
         refine zA ?_
         exact nT ⟨_,(soI i).symm,_,zR [some 0,some 1,some 2,some 3,some 4,some 5,some 6,some 7] [7,8,13,15,16,17,18,64,65,66],rfl⟩
       ·replace i:=cF C i
        refine zU ?_
        refine AWp.exit (xT (xT ?_))
        refine exL i fun hx => ?_
        subst hx
        exact oxWI ⟨_,zR [some 0,some 1,some 2,some 3,some 4,some 5,some 6,some 7] [7,8,13,15,16,17,64,65,66],_,K,rfl⟩
      ·rintro _ ⟨q,K,rfl⟩
       have a:=(j1 _ K)
       refine xB (nT (zs (zs ?_)))
       refine zA ?_
       refine nT (zb ?_)
       obtain ⟨m3,p1,j0,k1,L⟩:=bindK a
       refine AWp.cutXW 8 (fun τ => ∃ R,j0 R=some b0/\τ={ env:=[(7,.ptr 0 0),(8,(.map 1)),(13,.gref 2 1),(15,zi o),(17,zi q),(64,.gref 5 1),(65,(.d (.int .i64 (A.len c)))),(66,zi k)],heap:=[.cells [zl 3 g],(.map true [.int .i64,.int .i64] R),.gro 1 l,.dead,.dead,.gro 1 c,.dead,.dead],n:=114 }) ?_ ?_
       ·skip
        refine AWp.iterW p1 (fun (Q,d0)=>{ env:=[(7,.ptr 0 0),(8,(.map 1)),(13,.gref 2 1),(15,zi o),(16,(.lbox [zi v,zi w,zi m])),(17,zi q),(19,zi Q),(64,.gref 5 1),(65,(.d (.int .i64 (A.len c)))),(66,zi k)],heap:=[.cells [zl 3 g],(.map true [.int .i64,.int .i64] d0),.gro 1 l,.dead,.dead,.gro 1 c,.dead,.dead],n:=114 }) ⟨_,zR [some 0,some 1,some 2,some 3,some 4,some 5,some 6,some 7] [7,8,13,15,16,17,19,64,65,66],rfl⟩ ?_
        rintro ⟨Q,d0⟩ i2 e
        dsimp only [E59L3] at e
        refine zs (zs ?_)
        refine zA ?_
        refine nT ?_
        rcases tf (A.zlt Q m) with E | E
        ·replace e:=cT E e
         refine zT ?_
         refine zk (nT (zs (zb ?_)))
         obtain ⟨v1,a0,e⟩:=bindS e
         rcases v1 with _ | z1
         ·have i1:=lkN a0
          cases e
         ·have i1:=lkS a0
          obtain ⟨_,r0,e⟩:=bindS e
          have q2:=ckI r0
          refine AWp.rd hT hA {} rfl zu (by kernel_rfl) (lb rfl) ?_
          refine nB (nT ?_)
          refine zB ?_
          exact nT ⟨_,(soI e).symm,_,zR [some 0,some 1,some 2,some 3,some 4,some 5,some 6,some 7] [7,8,13,15,16,17,19,64,65,66],rfl⟩
        ·replace e:=cF E e
         refine zU ?_
         refine AWp.exit (xT (xT ?_))
         refine exL e fun hx => ?_
         subst hx
         exact oxWI ⟨_,zR [some 0,some 1,some 2,some 3,some 4,some 5,some 6,some 7] [7,8,13,15,17,64,65,66],_,L,rfl⟩
       ·rintro _ ⟨R,L,rfl⟩
        have a:=(k1 _ L)
        refine xB (nT ?_)
        obtain ⟨_,s0,a⟩:=bindS a
        have r2:=ckI s0
        obtain ⟨_,u0,a⟩:=bindS a
        have s2:=ckI u0
        obtain ⟨a2,v0,a⟩:=bindS a
        have u2:=gcI v0
        refine zB ?_ { tk:=[17,110] }
        refine nB (nT ?_)
        refine zA ?_
        exact nT ⟨_,(soI a).symm,_,zR [some 0,some 1,some 2,some 3,some 4,some 5,some 6,some 7] [7,8,13,64,65,66],rfl⟩
     ·replace a:=cF B a
      refine zU ?_
      refine AWp.exit (xT (xT ?_))
      refine exL a fun hx => ?_
      subst hx
      exact oxWI ⟨_,zR [some 2,some 3,some 4] [13],_,M,rfl⟩
    ·rintro _ ⟨S,M,rfl⟩
     have h:=(l1 _ M)
     refine xB (nT (zs ?_))
     refine zA ?_
     refine nT ?_
     refine AWp.weak (Wk.freezeS 4 rfl rfl) ?_
     refine zr ?_
     cases soI h
     exact zq
 ·replace h:=cF J h
  refine zT ?_
  refine zs ?_
  refine zB ?_
  refine nT (zr (rT ?_))
  cases soI h
  exact zq

theorem E40w {A:Ar} (hA:SA A) {i j:List D} {e:Bool} {g:Int} (h:E40 A i j=some (e,g)):ACall Try.prog 40 [zl 1 i,zl 2 j] [] (.tuple [.d (.bool e),zi g]) []:=by
 unfold E40 at h
 refine zI Try.func40 ?_
 refine zs ?_
 refine zA ?_
 refine nT (zs (zn ?_))
 obtain ⟨⟨q,c⟩,k,h⟩:=bindS h
 refine zC (E85w hA k) ?_
 refine zE ?_
 refine nT (zs ?_)
 obtain ⟨o,a,h⟩:=bindS h
 refine AWp.cutN [4,5] [] 0 (lb rfl) (fun τ=>τ={ env:=[(4,.d (.bool o)),(5,zi c)],heap:=[],n:=23 }) ?_ ?_
 ·skip
  refine zn ?_
  rcases tf (A.zeq c 0) with b | b
  ·replace a:=cT b a
   obtain ⟨r,l,a⟩:=bindS a
   refine zD (E77w hA l) ?_
   obtain ⟨p,m,a⟩:=bindS a
   refine zD (E91w hA m) ?_
   refine zF ?_
   cases soI a
   exact zO
  ·replace a:=cF b a
   refine zF ?_
   cases soI a
   exact zO
 ·rintro _ rfl
  refine nT (zr ?_)
  cases soI h
  exact zq

theorem E42w {A:Ar} (hA:SA A) {q c r:List D} {o p:Int} (h:E42 A q c r=some (o,p)):ACall Try.prog 42 [zl 1 q,zl 1 c,zl 2 r] [] (.tuple [zi o,zi p]) []:=by
 unfold E42 at h
 refine zI Try.func42 ?_
 refine zs ?_
 refine zA ?_
 refine nT (zs (zn ?_))
 obtain ⟨⟨j,k⟩,u,h⟩:=bindS h
 refine zC (E85w hA u) ?_
 refine zE ?_
 refine nT (zs (zs ?_))
 obtain ⟨l,a,h⟩:=bindS h
 refine AWp.cutN [1,8,9,23] [] 0 (lb rfl) (fun τ=>τ={ env:=[(1,zl 1 c),(8,zl 2 j),(9,zi k),(23,.d (.bool l))],heap:=[],n:=30 }) ?_ ?_
 ·skip
  refine zn ?_
  rcases tf (A.zeq k 0) with i | i
  ·replace a:=cT i a
   obtain ⟨y,v,a⟩:=bindS a
   refine zD (E93w hA v) ?_
   refine zF ?_
   cases soI a
   exact zO
  ·replace a:=cF i a
   refine zF ?_
   cases soI a
   exact zO
 ·rintro _ rfl
  refine nT ?_
  obtain ⟨m,b,h⟩:=bindS h
  refine AWp.cutN [1,8,9] [] 0 (lb rfl) (fun τ=>τ={ env:=[(1,zl 1 c),(8,zl 2 j),(9,zi m)],heap:=[],n:=30 }) ?_ ?_
  ·skip
   rcases tf l with e | e
   ·replace b:=cT e b
    refine zT ?_
    refine zB ?_
    cases soI b
    exact zO
   ·replace b:=cF e b
    refine zU ?_
    refine zk ?_
    cases soI b
    exact zO
  ·rintro _ rfl
   refine nT (zs (zs ?_))
   refine zA ?_
   refine nT ?_
   rcases tf (A.zeq m 0) with g | g
   ·replace h:=cT g h
    refine zU ?_
    refine zk (nT (zs (zn ?_)))
    obtain ⟨w,s,h⟩:=bindS h
    refine zD (E94w hA s) ?_
    refine zF ?_
    refine nT (zr ?_)
    cases soI h
    exact zq
   ·replace h:=cF g h
    refine zT ?_
    refine zs ?_
    refine zB ?_
    refine nT (zr (rT ?_))
    cases soI h
    exact zq

theorem E12w {A:Ar} (hA:SA A) {l m o p:List D} {j:Int} {n0:Bool} (h:E12 A l m o p j=some n0):ACall Try.prog 12 [zl 1 l,zl 1 m,zl 2 o,zl 1 p,zi j] [] (.d (.bool n0)) []:=by
 unfold E12 at h
 refine zI Try.func12 ?_
 refine zs ?_
 refine zA ?_
 refine nT (zs (zs ?_))
 obtain ⟨o0,c,h⟩:=bindS h
 refine AWp.cutN [0,1,2,3,4,47] [] 0 (lb rfl) (fun τ=>τ={ env:=[(0,zl 1 l),(1,zl 1 m),(2,zl 2 o),(3,zl 1 p),(4,zi j),(47,.d (.bool o0))],heap:=[],n:=239 }) ?_ ?_
 ·skip
  refine zn ?_
  obtain ⟨r7,e6,c⟩:=bindS c
  refine zC (E13w hA e6) ?_
  rcases tf r7 with V | V
  ·replace c:=cT V c
   refine zF ?_
   cases soI c
   exact zO
  ·replace c:=cF V c
   obtain ⟨r1,e9,c⟩:=bindS c
   refine zD (E14w hA e9) ?_
   rcases tf r1 with u | u
   ·replace c:=cT u c
    obtain ⟨s1,w0,c⟩:=bindS c
    refine zD (E50w hA w0) ?_
    rcases tf s1 with v | v
    ·replace c:=cT v c
     rcases tf (A.zlt 40 (A.len o)) with w | w
     ·replace c:=cT w c
      refine zF ?_
      cases soI c
      exact zO
     ·replace c:=cF w c
      refine zF ?_
      cases soI c
      exact zO
    ·replace c:=cF v c
     refine zF ?_
     cases soI c
     exact zO
   ·replace c:=cF u c
    refine zF ?_
    cases soI c
    exact zO
 ·rintro _ rfl
  refine nT ?_
  rcases tf o0 with y | y
  ·replace h:=cT y h
   refine zT ?_
   refine zs (zn ?_)
   obtain ⟨r2,y0,h⟩:=bindS h
   refine zD (E15w hA y0) ?_ { tk:=[48] }
   refine zF ?_ { tk:=[48] }
   refine nT (zr (rT ?_))
   cases soI h
   exact zq
  ·replace h:=cF y h
   refine zU ?_
   refine zk (nT (zs (zn ?_)))
   obtain ⟨⟨u1,v1⟩,z0,h⟩:=bindS h
   refine zD (E53w hA z0) ?_
   refine zF ?_
   refine nT (zs (zn ?_))
   obtain ⟨⟨k,w1⟩,a1,h⟩:=bindS h
   refine zD (E52w hA a1) ?_
   refine zF ?_
   refine nT (zs (zn ?_))
   obtain ⟨⟨y1,z1⟩,b1,h⟩:=bindS h
   refine zD (E59w hA b1) ?_
   refine zF ?_
   refine nT (zs (zn ?_))
   obtain ⟨⟨i0,s2⟩,c1,h⟩:=bindS h
   refine zD (E27w hA c1) ?_
   refine zF ?_
   refine nT (zs (zs ?_))
   obtain ⟨p0,i,h⟩:=bindS h
   refine AWp.cutN [0,1,2,3,4,11,13,15,17,85] [] 0 (lb rfl) (fun τ=>τ={ env:=[(0,zl 1 l),(1,zl 1 m),(2,zl 2 o),(3,zl 1 p),(4,zi j),(11,zl 2 u1),(13,zi k),(15,zl 1 y1),(17,zl 3 i0),(85,.d (.bool p0))],heap:=[],n:=239 }) ?_ ?_
   ·skip
    rcases tf (A.zeq v1 0) with z | z
    ·replace i:=cT z i
     rcases tf (A.zeq w1 0) with B | B
     ·replace i:=cT B i
      rcases tf (A.zeq z1 0) with C | C
      ·replace i:=cT C i
       refine zB ?_
       cases soI i
       exact zO
      ·replace i:=cF C i
       refine zB ?_
       cases soI i
       exact zO
     ·replace i:=cF B i
      refine zB ?_
      cases soI i
      exact zO
    ·replace i:=cF z i
     refine zB ?_
     cases soI i
     exact zO
   ·rintro _ rfl
    refine nT ?_
    rcases tf p0 with E | E
    ·replace h:=cT E h
     refine zT ?_
     refine zs ?_
     refine zB ?_
     refine nT (zr (rT ?_))
     cases soI h
     exact zq
    ·replace h:=cF E h
     refine zU ?_
     refine zk (nT (zs (zn ?_)))
     obtain ⟨⟨a2,b2⟩,d1,h⟩:=bindS h
     refine zD (E40w hA d1) ?_
     refine zF ?_
     refine nT (zs (zn ?_))
     obtain ⟨⟨c2,d2⟩,e1,h⟩:=bindS h
     refine zD (E42w hA e1) ?_
     refine zF ?_
     refine nT (zs (zn ?_))
     obtain ⟨⟨e2,g2⟩,g1,h⟩:=bindS h
     refine zD (E57w hA g1) ?_
     refine zF ?_
     refine nT (zs (zn ?_))
     obtain ⟨⟨u2,i2⟩,i1,h⟩:=bindS h
     refine zD (E57w hA i1) ?_
     refine zF ?_
     refine nT (zs (zs ?_))
     obtain ⟨q0,b,h⟩:=bindS h
     refine AWp.cutN [0,1,2,3,4,13,17,145] [] 0 (lb rfl) (fun τ=>τ={ env:=[(0,zl 1 l),(1,zl 1 m),(2,zl 2 o),(3,zl 1 p),(4,zi j),(13,zi k),(17,zl 3 i0),(145,.d (.bool q0))],heap:=[],n:=239 }) ?_ ?_
     ·skip
      rcases tf (A.zeq b2 0) with F | F
      ·replace b:=cT F b
       rcases tf (A.zeq d2 0) with G | G
       ·replace b:=cT G b
        rcases tf (A.zeq g2 0) with J | J
        ·replace b:=cT J b
         rcases tf (A.zeq i2 0) with K | K
         ·replace b:=cT K b
          rcases tf a2 with L | L
          ·replace b:=cT L b
           rcases tf (A.zeq c2 k) with M | M
           ·replace b:=cT M b
            rcases tf e2 with N | N
            ·replace b:=cT N b
             refine zB ?_
             cases soI b
             exact zO
            ·replace b:=cF N b
             refine zB ?_
             cases soI b
             exact zO
           ·replace b:=cF M b
            refine zB ?_
            cases soI b
            exact zO
          ·replace b:=cF L b
           refine zB ?_
           cases soI b
           exact zO
         ·replace b:=cF K b
          refine zB ?_
          cases soI b
          exact zO
        ·replace b:=cF J b
         refine zB ?_
         cases soI b
         exact zO
       ·replace b:=cF G b
        refine zB ?_
        cases soI b
        exact zO
      ·replace b:=cF F b
       refine zB ?_
       cases soI b
       exact zO
     ·rintro _ rfl
      refine nT ?_
      rcases tf q0 with O | O
      ·replace h:=cT O h
       refine zT ?_
       refine zs ?_
       refine zB ?_
       refine nT (zr (rT ?_))
       cases soI h
       exact zq
      ·replace h:=cF O h
       refine zU ?_
       refine zk (nT (zs (zn ?_)))
       obtain ⟨v2,j1,h⟩:=bindS h
       refine zD (E60w hA j1) ?_
       obtain ⟨⟨j2,k2⟩,k1,h⟩:=bindS h
       refine zD (E40w hA k1) ?_
       refine zF ?_
       refine nT (zs (zn ?_))
       obtain ⟨⟨l2,m2⟩,l1,h⟩:=bindS h
       refine zD (E40w hA l1) ?_
       refine zF ?_
       refine nT (zs (zs ?_))
       obtain ⟨r0,g,h⟩:=bindS h
       refine AWp.cutN [0,1,2,3,4,13,180] [] 0 (lb rfl) (fun τ=>τ={ env:=[(0,zl 1 l),(1,zl 1 m),(2,zl 2 o),(3,zl 1 p),(4,zi j),(13,zi k),(180,.d (.bool r0))],heap:=[],n:=239 }) ?_ ?_
       ·skip
        rcases tf (A.zeq k2 0) with P | P
        ·replace g:=cT P g
         rcases tf (A.zeq m2 0) with Q | Q
         ·replace g:=cT Q g
          rcases tf j2 with R | R
          ·replace g:=cT R g
           rcases tf (A.beq l2 (A.zeq (A.len i0) 0)) with S | S
           ·replace g:=cT S g
            refine zB ?_
            cases soI g
            exact zO
           ·replace g:=cF S g
            refine zB ?_
            cases soI g
            exact zO
          ·replace g:=cF R g
           refine zB ?_
           cases soI g
           exact zO
         ·replace g:=cF Q g
          refine zB ?_
          cases soI g
          exact zO
        ·replace g:=cF P g
         refine zB ?_
         cases soI g
         exact zO
       ·rintro _ rfl
        refine nT ?_
        rcases tf r0 with U | U
        ·replace h:=cT U h
         refine zT ?_
         refine zs ?_
         refine zB ?_
         refine nT (zr (rT ?_))
         cases soI h
         exact zq
        ·replace h:=cF U h
         refine zU ?_
         refine zk (nT (zs (zn ?_)))
         obtain ⟨⟨k0,j0⟩,m1,h⟩:=bindS h
         refine zD (E40w hA m1) ?_
         refine zF ?_
         refine nT (zs (zn ?_))
         obtain ⟨⟨w2,n2⟩,n1,h⟩:=bindS h
         refine zD (E42w hA n1) ?_
         refine zF ?_
         refine nT (zs (zs ?_))
         obtain ⟨s0,e,h⟩:=bindS h
         refine AWp.cutN [0,1,3,4,13,212] [] 0 (lb rfl) (fun τ=>τ={ env:=[(0,zl 1 l),(1,zl 1 m),(3,zl 1 p),(4,zi j),(13,zi k),(212,.d (.bool s0))],heap:=[],n:=239 }) ?_ ?_
         ·skip
          rcases tf (A.zeq j0 n2) with W | W
          ·replace e:=cT W e
           rcases tf (A.zeq j0 0) with X | X
           ·replace e:=cT X e
            rcases tf k0 with Y | Y
            ·replace e:=cT Y e
             refine zB ?_
             cases soI e
             exact zO
            ·replace e:=cF Y e
             refine zB ?_
             cases soI e
             exact zO
           ·replace e:=cF X e
            rcases tf (A.zeq j0 2) with a0 | a0
            ·replace e:=cT a0 e
             rcases tf k0 with b0 | b0
             ·replace e:=cT b0 e
              refine zB ?_
              cases soI e
              exact zO
             ·replace e:=cF b0 e
              refine zB ?_
              cases soI e
              exact zO
            ·replace e:=cF a0 e
             refine zB ?_
             cases soI e
             exact zO
          ·replace e:=cF W e
           refine zB ?_
           cases soI e
           exact zO
         ·rintro _ rfl
          refine nT ?_
          rcases tf s0 with c0 | c0
          ·replace h:=cT c0 h
           refine zT ?_
           refine zs ?_
           refine zB ?_
           refine nT (zr (rT ?_))
           cases soI h
           exact zq
          ·replace h:=cF c0 h
           refine zU ?_
           refine zk (nT (zs (zn ?_)))
           obtain ⟨⟨l0,m0⟩,o1,h⟩:=bindS h
           refine zD (E57w hA o1) ?_
           refine zF ?_
           refine nT (zs ?_)
           obtain ⟨o2,a,h⟩:=bindS h
           refine AWp.cutN [10] [] 0 (lb rfl) (fun τ=>τ={ env:=[(10,.d (.bool o2))],heap:=[],n:=239 }) ?_ ?_
           ·skip
            refine zn ?_
            rcases tf (A.zeq m0 0) with d0 | d0
            ·replace a:=cT d0 a
             rcases tf l0 with e0 | e0
             ·replace a:=cT e0 a
              rcases tf (A.zle j k) with g0 | g0
              ·replace a:=cT g0 a
               obtain ⟨y2,p1,a⟩:=bindS a
               refine zD (E15w hA p1) ?_ { tk:=[238] }
               refine zF ?_ { tk:=[238] }
               cases soI a
               exact zO
              ·replace a:=cF g0 a
               refine zF ?_ { tk:=[238] }
               cases soI a
               exact zO
             ·replace a:=cF e0 a
              obtain ⟨z2,q1,a⟩:=bindS a
              refine zD (E15w hA q1) ?_ { tk:=[238] }
              refine zF ?_ { tk:=[238] }
              cases soI a
              exact zO
            ·replace a:=cF d0 a
             rcases tf (A.zeq m0 2) with q | q
             ·replace a:=cT q a
              rcases tf l0 with r | r
              ·replace a:=cT r a
               rcases tf (A.zle j k) with s | s
               ·replace a:=cT s a
                obtain ⟨p2,u0,a⟩:=bindS a
                refine zD (E15w hA u0) ?_ { tk:=[238] }
                refine zF ?_ { tk:=[238] }
                cases soI a
                exact zO
               ·replace a:=cF s a
                refine zF ?_ { tk:=[238] }
                cases soI a
                exact zO
              ·replace a:=cF r a
               obtain ⟨q2,v0,a⟩:=bindS a
               refine zD (E15w hA v0) ?_ { tk:=[238] }
               refine zF ?_ { tk:=[238] }
               cases soI a
               exact zO
             ·replace a:=cF q a
              refine zF ?_ { tk:=[238] }
              cases soI a
              exact zO
           ·rintro _ rfl
            refine nT (zr ?_)
            cases soI h
            exact zq
end Go.Am
