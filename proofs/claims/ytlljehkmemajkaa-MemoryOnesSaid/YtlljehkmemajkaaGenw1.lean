/- Own text: Genw1. -/
import Derived.Test.YtlljehkmemajkaaGenw0
set_option maxRecDepth 100000
set_option maxHeartbeats 2000000
set_option linter.unusedVariables false
set_option linter.unusedSimpArgs false
namespace Go.Am
open Go Go.Proofs
theorem M176w {A:Ar} (hA:SA A) {c g:List D} {s:List (D×D)} {u:List D} {o:List (D×D)} {p:List D} (h:M176 A c g s u=some (o,p)):ACall Try.prog 176 [.d (.agg []),zl 1 c,.d (.agg g),(.func 96 [] [.ptr 0 0,.ptr 2 0])] [(.cells [(.map 1)]),(.map true (.int .u8 :: .int .u8 :: .int .u8 :: .int .i8 :: .int .i8 :: .int .i8 :: .int .i8 :: .int .i8 :: .int .i8 :: .int .i8 :: .int .i8 :: .int .i8 :: .int .i8 :: .int .i8 :: .int .i8 :: .int .i8 :: .int .i8 :: .int .i8 :: .int .i8 :: .int .i8 :: .int .i8 :: .int .i8 :: .int .i8 :: .int .i8 :: .int .i8 :: .int .i8 :: .int .i8 :: .int .i8 :: .int .i8 :: .int .i8 :: .int .i8 :: .int .i8 :: .int .i8 :: .int .i8 :: .int .i8 :: .int .i8 :: .int .i8 :: .int .i8 :: .int .i64 :: .int .i64 :: .int .i64::[]) s),.cells [.gref 3 41],.gro 41 u,.dead,.dead] (.tuple []) [(.cells [(.map 1)]),(.map true (.int .u8 :: .int .u8 :: .int .u8 :: .int .i8 :: .int .i8 :: .int .i8 :: .int .i8 :: .int .i8 :: .int .i8 :: .int .i8 :: .int .i8 :: .int .i8 :: .int .i8 :: .int .i8 :: .int .i8 :: .int .i8 :: .int .i8 :: .int .i8 :: .int .i8 :: .int .i8 :: .int .i8 :: .int .i8 :: .int .i8 :: .int .i8 :: .int .i8 :: .int .i8 :: .int .i8 :: .int .i8 :: .int .i8 :: .int .i8 :: .int .i8 :: .int .i8 :: .int .i8 :: .int .i8 :: .int .i8 :: .int .i8 :: .int .i8 :: .int .i8 :: .int .i64 :: .int .i64 :: .int .i64::[]) o),.cells [.gref 6 41],.dead,.dead,.dead,.gro 41 p,.dead,.dead]:=by
 unfold M176 at h
 refine zI Try.func176 ?_
 refine zs ?_
 obtain ⟨_,F,h⟩:=bindS h
 have U:=ckI F
 refine zB ?_ { arr:=[6] }
 refine nT (zs ?_)
 refine zA ?_
 refine nT (zb ?_)
 refine AWp.weak (Wk.ren [some 0,some 1,some 2,none,none,none,some 6,some 3,some 4,some 5] [1,3,6,11,12] rfl rfl) ?_
 obtain ⟨a0,J,v,G,k⟩:=bindK h
 refine AWp.cutXW 0 (fun τ => ∃ l m,v (l,m)=some (o,p)/\τ={ env:=[],heap:=[(.cells [(.map 1)]),(.map true (.int .u8 :: .int .u8 :: .int .u8 :: .int .i8 :: .int .i8 :: .int .i8 :: .int .i8 :: .int .i8 :: .int .i8 :: .int .i8 :: .int .i8 :: .int .i8 :: .int .i8 :: .int .i8 :: .int .i8 :: .int .i8 :: .int .i8 :: .int .i8 :: .int .i8 :: .int .i8 :: .int .i8 :: .int .i8 :: .int .i8 :: .int .i8 :: .int .i8 :: .int .i8 :: .int .i8 :: .int .i8 :: .int .i8 :: .int .i8 :: .int .i8 :: .int .i8 :: .int .i8 :: .int .i8 :: .int .i8 :: .int .i8 :: .int .i8 :: .int .i8 :: .int .i64 :: .int .i64 :: .int .i64::[]) l),.cells [.gref 6 41],.dead,.dead,.dead,.gro 41 m,.dead,.dead],n:=33 }) ?_ ?_
 ·skip
  refine AWp.iterW J (fun (e,q,r)=>{ env:=[(1,zl 1 c),(3,(.func 96 [] [.ptr 0 0,.ptr 2 0])),(6,.ptr 6 0),(11,(.d (.int .i64 (A.len c)))),(12,zi e)],heap:=[(.cells [(.map 1)]),(.map true (.int .u8 :: .int .u8 :: .int .u8 :: .int .i8 :: .int .i8 :: .int .i8 :: .int .i8 :: .int .i8 :: .int .i8 :: .int .i8 :: .int .i8 :: .int .i8 :: .int .i8 :: .int .i8 :: .int .i8 :: .int .i8 :: .int .i8 :: .int .i8 :: .int .i8 :: .int .i8 :: .int .i8 :: .int .i8 :: .int .i8 :: .int .i8 :: .int .i8 :: .int .i8 :: .int .i8 :: .int .i8 :: .int .i8 :: .int .i8 :: .int .i8 :: .int .i8 :: .int .i8 :: .int .i8 :: .int .i8 :: .int .i8 :: .int .i8 :: .int .i8 :: .int .i64 :: .int .i64 :: .int .i64::[]) q),.cells [.gref 7 41],.dead,.dead,.dead,(.arr 1 g),.gro 41 r,.dead,.dead],n:=33 }) ⟨_,zR [some 0,some 1,some 2,some 3,some 4,some 5,some 6,some 7,some 8,some 9] [1,3,6,11,12],rfl⟩ ?_
  rintro ⟨e,q,r⟩ N a
  dsimp only [M176L0] at a
  refine zs ?_
  refine zA ?_
  refine nT (zs ?_)
  rcases tf (A.zlt e (A.len c)) with i | i
  ·replace a:=cT i a
   refine zT ?_
   refine zk (nT (zs (zb (zs ?_))))
   refine zB ?_
   refine nT (zs (zn ?_))
   obtain ⟨V,y,a⟩:=bindS a
   obtain ⟨O,P,Q⟩:=gaI y
   obtain ⟨K,z,a⟩:=bindS a
   refine zD (M75w hA z) ?_
   refine zF ?_
   refine nT (zs ?_)
   obtain ⟨w,B,a⟩:=bindS a
   obtain ⟨R,S⟩:=gtI B
   refine zB ?_
   refine nT ?_
   obtain ⟨⟨L,M⟩,b,a⟩:=bindS a
   refine AWp.cutW (fun τ=>τ={ env:=[(1,zl 1 c),(3,(.func 96 [] [.ptr 0 0,.ptr 2 0])),(6,.ptr 6 0),(11,(.d (.int .i64 (A.len c)))),(12,zi e)],heap:=[(.cells [(.map 1)]),(.map true (.int .u8 :: .int .u8 :: .int .u8 :: .int .i8 :: .int .i8 :: .int .i8 :: .int .i8 :: .int .i8 :: .int .i8 :: .int .i8 :: .int .i8 :: .int .i8 :: .int .i8 :: .int .i8 :: .int .i8 :: .int .i8 :: .int .i8 :: .int .i8 :: .int .i8 :: .int .i8 :: .int .i8 :: .int .i8 :: .int .i8 :: .int .i8 :: .int .i8 :: .int .i8 :: .int .i8 :: .int .i8 :: .int .i8 :: .int .i8 :: .int .i8 :: .int .i8 :: .int .i8 :: .int .i8 :: .int .i8 :: .int .i8 :: .int .i8 :: .int .i8 :: .int .i64 :: .int .i64 :: .int .i64::[]) L),.cells [.gref 7 41],.dead,.dead,.dead,(.arr 1 g),.gro 41 M,.dead,.dead],n:=33 }) ?_ ?_
   ·skip
    rcases tf (A.zlt K (A.len w)) with j | j
    ·replace b:=cT j b
     refine zT ?_
     refine zn ?_
     obtain ⟨W,C,b⟩:=bindS b
     refine zD (M76w hA C) ?_
     obtain ⟨⟨X,Y⟩,E,b⟩:=bindS b
     refine zD (M96w hA E) ?_
     refine zF ?_
     cases soI b
     exact oWi ⟨_,zR [some 0,some 1,some 2,some 3,some 4,some 5,some 6,some 10,some 11,some 12] [1,3,6,11,12],rfl⟩
    ·replace b:=cF j b
     refine zU ?_
     refine zk ?_
     cases soI b
     exact oWi ⟨_,zR [some 0,some 1,some 2,some 3,some 4,some 5,some 6,some 7,some 8,some 9] [1,3,6,11,12],rfl⟩
   ·rintro _ rfl
    refine nB (nT ?_)
    refine zA ?_
    exact nT ⟨_,(soI a).symm,_,zR [some 0,some 1,some 2,some 3,some 4,some 5,some 6,some 7,some 8,some 9] [1,3,6,11,12],rfl⟩
  ·replace a:=cF i a
   refine zU ?_
   refine AWp.exit (xT (xT ?_))
   refine exL a fun hx => ?_
   subst hx
   exact oxWI ⟨_,zR [some 0,some 1,some 2,some 3,some 4,some 5,some 7,some 8,some 9] [],_,_,k,rfl⟩
 ·rintro _ ⟨l,m,k,rfl⟩
  have h:=(G _ k)
  refine xB ?_
  cases soI h
  exact zq

theorem M178w {A:Ar} (hA:SA A) {b:List D} {c:Int} {a:List D} (h:M178 A b c=some a):ACall Try.prog 178 [.d (.agg b),zi c] [] (.d (.agg a)) []:=by
 unfold M178 at h
 refine zI Try.func178 ?_
 refine zs ?_
 obtain ⟨_,w,h⟩:=bindS h
 have f3:=ckI w
 refine zB ?_ { arr:=[2,4] }
 refine nT (zs ?_)
 obtain ⟨_,G,h⟩:=bindS h
 have f7:=ckI G
 obtain ⟨_,N,h⟩:=bindS h
 have f8:=ckI N
 obtain ⟨⟨i0,j0⟩,e9,h⟩:=bindS h
 obtain ⟨q0,u0,v0⟩:=gdI e9
 refine zB ?_ { tk:=[10] }
 refine nT (zs ?_)
 obtain ⟨_,g,h⟩:=bindS h
 have w0:=ckI g
 obtain ⟨_,i,h⟩:=bindS h
 have y0:=ckI i
 obtain ⟨m0,o0,h⟩:=bindS h
 refine zB ?_ { tk:=[14] }
 refine nT (zs ?_)
 obtain ⟨_,j,h⟩:=bindS h
 have z0:=ckI j
 obtain ⟨_,k,h⟩:=bindS h
 have a1:=ckI k
 obtain ⟨_,m,h⟩:=bindS h
 have b1:=ckI m
 obtain ⟨_,o,h⟩:=bindS h
 have c1:=ckI o
 obtain ⟨_,p,h⟩:=bindS h
 have d1:=ckI p
 obtain ⟨_,q,h⟩:=bindS h
 have e1:=ckI q
 obtain ⟨_,r,h⟩:=bindS h
 have g1:=ckI r
 obtain ⟨_,s,h⟩:=bindS h
 have i1:=ckI s
 obtain ⟨_,u,h⟩:=bindS h
 have j1:=ckI u
 obtain ⟨_,v,h⟩:=bindS h
 have k1:=ckI v
 obtain ⟨_,y,h⟩:=bindS h
 have l1:=ckI y
 obtain ⟨_,z,h⟩:=bindS h
 have m1:=ckI z
 obtain ⟨_,B,h⟩:=bindS h
 have n1:=ckI B
 obtain ⟨_,C,h⟩:=bindS h
 have o1:=ckI C
 obtain ⟨_,E,h⟩:=bindS h
 have p1:=ckI E
 obtain ⟨_,F,h⟩:=bindS h
 have q1:=ckI F
 obtain ⟨_,J,h⟩:=bindS h
 have r1:=ckI J
 obtain ⟨_,K,h⟩:=bindS h
 have s1:=ckI K
 obtain ⟨_,L,h⟩:=bindS h
 have u1:=ckI L
 refine AWp.rd hT hA {} rfl zu (by kernel_rfl) (lb rfl) ?_
 refine nT (zs ?_)
 obtain ⟨_,M,h⟩:=bindS h
 have v1:=ckI M
 obtain ⟨_,O,h⟩:=bindS h
 have w1:=ckI O
 obtain ⟨k0,P,h⟩:=bindS h
 have y1:=gcI P
 obtain ⟨_,Q,h⟩:=bindS h
 have z1:=ckI Q
 obtain ⟨_,R,h⟩:=bindS h
 have a2:=ckI R
 obtain ⟨n0,p0,h⟩:=bindS h
 refine zB ?_ { tk:=[30] }
 refine nT (zs ?_)
 obtain ⟨_,S,h⟩:=bindS h
 have b2:=ckI S
 obtain ⟨_,U,h⟩:=bindS h
 have c2:=ckI U
 obtain ⟨l0,V,h⟩:=bindS h
 have d2:=gcI V
 obtain ⟨_,W,h⟩:=bindS h
 have e2:=ckI W
 obtain ⟨_,X,h⟩:=bindS h
 have g2:=ckI X
 obtain ⟨_,Y,h⟩:=bindS h
 have i2:=ckI Y
 obtain ⟨_,a0,h⟩:=bindS h
 have j2:=ckI a0
 have l2:=lnF hA (l:=[.int .i8 0,.int .i8 0]) (n:=2) rfl
 obtain ⟨_,b0,h⟩:=bindS h
 have k2:=ckI b0
 refine AWp.rd hT hA { tk:=[38] } rfl zu (by kernel_rfl) (lb rfl) ?_
 refine nT (zs ?_)
 obtain ⟨r2,c0,h⟩:=bindS h
 obtain ⟨m2,n2,o2⟩:=gaI c0
 obtain ⟨_,e0,h⟩:=bindS h
 have q2:=ckI e0
 obtain ⟨_,d0,h⟩:=bindS h
 have p2:=ckI d0
 refine zB ?_ { tk:=[42] }
 refine nT ?_
 obtain ⟨_,g0,h⟩:=bindS h
 have r0:=ckI g0
 obtain ⟨_,e,h⟩:=bindS h
 have s0:=ckI e
 refine zr ?_
 cases soI h
 exact ⟨(rs1 (resCk rfl rfl rfl rfl (lnN hA (by assumption)) (onN hA (by assumption)))),rfl,rfl,lb rfl,_,rfl⟩

theorem M179w {A:Ar} (hA:SA A) {g j:List D} {c k:Int} {q:List D} (h:M179 A g j c k=some q):ACall Try.prog 179 [.d (.agg g),zl 1 j,zi c,zi k] [] (.d (.agg q)) []:=by
 unfold M179 at h
 refine zI Try.func179 ?_
 refine zs ?_
 obtain ⟨_,W,h⟩:=bindS h
 have f5:=ckI W
 refine zB ?_ { arr:=[4,8] }
 refine nT (zs (zn ?_))
 obtain ⟨g2,X,h⟩:=bindS h
 obtain ⟨f8,f9,u0⟩:=gaI X
 obtain ⟨j2,F,h⟩:=bindS h
 refine zD (M76w hA F) ?_ { tk:=[16],arr:=[9] }
 obtain ⟨_,J,h⟩:=bindS h
 have i1:=ckI J
 obtain ⟨_,G,h⟩:=bindS h
 have g1:=ckI G
 refine zF ?_ { tk:=[16],arr:=[9] }
 refine nT (zs (zs ?_))
 obtain ⟨_,K,h⟩:=bindS h
 have j1:=ckI K
 obtain ⟨_,L,h⟩:=bindS h
 have k1:=ckI L
 obtain ⟨_,M,h⟩:=bindS h
 have l1:=ckI M
 obtain ⟨_,N,h⟩:=bindS h
 have m1:=ckI N
 obtain ⟨e,O,h⟩:=bindS h
 have n1:=gcI O
 obtain ⟨_,P,h⟩:=bindS h
 have o1:=ckI P
 obtain ⟨_,Q,h⟩:=bindS h
 have p1:=ckI Q
 obtain ⟨_,R,h⟩:=bindS h
 have q1:=ckI R
 obtain ⟨_,S,h⟩:=bindS h
 have r1:=ckI S
 obtain ⟨_,U,h⟩:=bindS h
 have s1:=ckI U
 obtain ⟨_,V,h⟩:=bindS h
 have u1:=ckI V
 refine AWp.rd hT hA {} rfl zu (by kernel_rfl) (lb rfl) ?_
 refine nT (zb ?_)
 obtain ⟨l2,k0,s,j0,o⟩:=bindK h
 refine AWp.cutX 0 [8,9] [] 3 (lb rfl) (fun τ => ∃ p,s p=some q/\τ={ env:=[(8,.ptr 1 0),(9,.ptr 2 0)],heap:=[(.arr 1 g),(.arr 1 ((.int .u8 0)::(.int .u8 0)::(.int .u8 0)::(.int .i8 0)::(.int .i8 0)::(.int .i8 0)::(.int .i8 0)::(.int .i8 0)::(.int .i8 0)::(.int .i8 0)::(.int .i8 0)::(.int .i8 0)::(.int .i8 0)::(.int .i8 0)::(.int .i8 0)::(.int .i8 0)::(.int .i8 0)::(.int .i8 0)::(.int .i8 0)::(.int .i8 0)::(.int .i8 0)::(.int .i8 0)::(.int .i8 0)::(.int .i8 0)::(.int .i8 0)::(.int .i8 0)::(.int .i8 0)::(.int .i8 0)::(.int .i8 0)::(.int .i8 0)::(.int .i8 0)::(.int .i8 0)::(.int .i8 0)::(.int .i8 0)::(.int .i8 0)::(.int .i8 0)::(.int .i8 0)::(.int .i8 0)::(.int .i64 0)::(.int .i64 0)::(.int .i64 0)::[])),(.arr 1 p)],n:=52 }) ?_ ?_
 ·skip
  refine AWp.iter k0 [1,2,3,8,9,24,25,26] [] 3 (lb rfl) (fun (i,r)=>{ env:=[(1,zl 1 j),(2,zi c),(3,zi k),(8,.ptr 1 0),(9,.ptr 2 0),(24,(.mref 0 2 (A.zadd (A.quo .i64 (A.zadd (A.zadd 0 (A.zmul c (Int.ofNat 8))) (Int.ofNat 14)) (Int.ofNat 2)) 0) (A.zsub e 0))),(25,(.d (.int .i64 (A.zsub e 0)))),(26,zi i)],heap:=[(.arr 1 g),(.arr 1 ((.int .u8 0)::(.int .u8 0)::(.int .u8 0)::(.int .i8 0)::(.int .i8 0)::(.int .i8 0)::(.int .i8 0)::(.int .i8 0)::(.int .i8 0)::(.int .i8 0)::(.int .i8 0)::(.int .i8 0)::(.int .i8 0)::(.int .i8 0)::(.int .i8 0)::(.int .i8 0)::(.int .i8 0)::(.int .i8 0)::(.int .i8 0)::(.int .i8 0)::(.int .i8 0)::(.int .i8 0)::(.int .i8 0)::(.int .i8 0)::(.int .i8 0)::(.int .i8 0)::(.int .i8 0)::(.int .i8 0)::(.int .i8 0)::(.int .i8 0)::(.int .i8 0)::(.int .i8 0)::(.int .i8 0)::(.int .i8 0)::(.int .i8 0)::(.int .i8 0)::(.int .i8 0)::(.int .i8 0)::(.int .i64 0)::(.int .i64 0)::(.int .i64 0)::[])),(.arr 1 r)],n:=52 }) ⟨rfl,zv⟩ ?_
  rintro ⟨i,r⟩ s0 a
  dsimp only [M179L0] at a
  refine zs ?_
  refine zA ?_
  refine nT (zs ?_)
  rcases tf (A.zlt i (A.zsub e 0)) with l | l
  ·replace a:=cT l a
   refine zT ?_
   refine zk (nT (zs (zb (zs ?_))))
   obtain ⟨_,Y,a⟩:=bindS a
   have v1:=ckI Y
   obtain ⟨_,a0,a⟩:=bindS a
   have w1:=ckI a0
   obtain ⟨⟨u,m0⟩,b0,a⟩:=bindS a
   obtain ⟨y1,z1,a2⟩:=gdI b0
   refine zB ?_ { tk:=[29] }
   refine nT (zs ?_)
   obtain ⟨n0,d0,a⟩:=bindS a
   obtain ⟨b2,c2⟩:=gtI d0
   obtain ⟨⟨o0,v,p0⟩,e0,a⟩:=bindS a
   obtain ⟨d2,e2⟩:=gtI e0
   refine AWp.rd hT hA {} rfl zu (by kernel_rfl) (lb rfl) ?_
   refine nT ?_
   obtain ⟨l0,b,a⟩:=bindS a
   refine AWp.cutN [1,2,3,8,9,24,25,26] [] 3 (lb rfl) (fun τ=>τ={ env:=[(1,zl 1 j),(2,zi c),(3,zi k),(8,.ptr 1 0),(9,.ptr 2 0),(24,(.mref 0 2 (A.zadd (A.quo .i64 (A.zadd (A.zadd 0 (A.zmul c (Int.ofNat 8))) (Int.ofNat 14)) (Int.ofNat 2)) 0) (A.zsub e 0))),(25,(.d (.int .i64 (A.zsub e 0)))),(26,zi i)],heap:=[(.arr 1 g),(.arr 1 ((.int .u8 0)::(.int .u8 0)::(.int .u8 0)::(.int .i8 0)::(.int .i8 0)::(.int .i8 0)::(.int .i8 0)::(.int .i8 0)::(.int .i8 0)::(.int .i8 0)::(.int .i8 0)::(.int .i8 0)::(.int .i8 0)::(.int .i8 0)::(.int .i8 0)::(.int .i8 0)::(.int .i8 0)::(.int .i8 0)::(.int .i8 0)::(.int .i8 0)::(.int .i8 0)::(.int .i8 0)::(.int .i8 0)::(.int .i8 0)::(.int .i8 0)::(.int .i8 0)::(.int .i8 0)::(.int .i8 0)::(.int .i8 0)::(.int .i8 0)::(.int .i8 0)::(.int .i8 0)::(.int .i8 0)::(.int .i8 0)::(.int .i8 0)::(.int .i8 0)::(.int .i8 0)::(.int .i8 0)::(.int .i64 0)::(.int .i64 0)::(.int .i64 0)::[])),(.arr 1 l0)],n:=52 }) ?_ ?_
   ·skip
    rcases tf (A.zeq (A.wrp .i64 u) v) with m | m
    ·replace b:=cT m b
     refine zT ?_
     refine AWp.regionDraw rfl (lb rfl) ?_
     obtain ⟨k2,g0,b⟩:=bindS b
     refine DOps.c0 hT hA { tk:=[47] } rfl zu (M106w hA g0) rfl rfl (lb rfl) rfl rfl ?_
     obtain ⟨_,i0,b⟩:=bindS b
     have v0:=ckI i0
     obtain ⟨_,w,b⟩:=bindS b
     have w0:=ckI w
     obtain ⟨q0,r0,b⟩:=bindS b
     refine DOps.cd hT hA { tk:=[47] } rfl zu (by kernel_rfl) ?_
     cases soI b
     exact zO
    ·replace b:=cF m b
     refine zU ?_
     refine zk ?_
     cases soI b
     exact zO
   ·rintro _ rfl
    refine nB (nT ?_)
    refine zA ?_
    exact nT ⟨_,(soI a).symm,rfl,zc⟩
  ·replace a:=cF l a
   refine zU ?_
   refine AWp.exit (xT (xT ?_))
   refine exL a fun hx => ?_
   subst hx
   exact oxI ⟨rfl,_,o,zv⟩
 ·rintro _ ⟨p,o,rfl⟩
  have h:=(j0 _ o)
  refine xB (nT (zs ?_))
  obtain ⟨i2,y,h⟩:=bindS h
  obtain ⟨y0,z0,a1⟩:=gaI y
  obtain ⟨_,B,h⟩:=bindS h
  have c1:=ckI B
  obtain ⟨_,z,h⟩:=bindS h
  have b1:=ckI z
  refine zB ?_ { tk:=[51] }
  refine nT ?_
  obtain ⟨_,C,h⟩:=bindS h
  have d1:=ckI C
  obtain ⟨_,E,h⟩:=bindS h
  have e1:=ckI E
  refine zr ?_
  cases soI h
  exact ⟨(rs1 (resCk rfl rfl rfl rfl (lnN hA (by assumption)) (onN hA (by assumption)))),rfl,rfl,lb rfl,_,rfl⟩

theorem M96aw {A:Ar} (hA:SA A) {i:List D} {j:List (D×D)} {c k e:List D} {o:List (D×D)} {p q:List D} (h:M96a A i j c k e=some (o,p,q)):ACall Try.prog 96 [.d (.agg i),.ptr 0 0,.ptr 2 0] [(.cells [(.map 1)]),(.map true (.int .u8 :: .int .u8 :: .int .u8 :: .int .i8 :: .int .i8 :: .int .i8 :: .int .i8 :: .int .i8 :: .int .i8 :: .int .i8 :: .int .i8 :: .int .i8 :: .int .i8 :: .int .i8 :: .int .i8 :: .int .i8 :: .int .i8 :: .int .i8 :: .int .i8 :: .int .i8 :: .int .i8 :: .int .i8 :: .int .i8 :: .int .i8 :: .int .i8 :: .int .i8 :: .int .i8 :: .int .i8 :: .int .i8 :: .int .i8 :: .int .i8 :: .int .i8 :: .int .i8 :: .int .i8 :: .int .i8 :: .int .i8 :: .int .i8 :: .int .i8 :: .int .i64 :: .int .i64 :: .int .i64::[]) j),.cells [.gref 7 41],.dead,.dead,.dead,(.arr 1 c),.gro 41 k,.dead,.dead,(.arr 1 e)] (.tuple []) [(.cells [(.map 1)]),(.map true (.int .u8 :: .int .u8 :: .int .u8 :: .int .i8 :: .int .i8 :: .int .i8 :: .int .i8 :: .int .i8 :: .int .i8 :: .int .i8 :: .int .i8 :: .int .i8 :: .int .i8 :: .int .i8 :: .int .i8 :: .int .i8 :: .int .i8 :: .int .i8 :: .int .i8 :: .int .i8 :: .int .i8 :: .int .i8 :: .int .i8 :: .int .i8 :: .int .i8 :: .int .i8 :: .int .i8 :: .int .i8 :: .int .i8 :: .int .i8 :: .int .i8 :: .int .i8 :: .int .i8 :: .int .i8 :: .int .i8 :: .int .i8 :: .int .i8 :: .int .i8 :: .int .i64 :: .int .i64 :: .int .i64::[]) o),.cells [.gref 11 41],.dead,.dead,.dead,(.arr 1 c),.dead,.dead,.dead,(.arr 1 p),.gro 41 q,.dead,.dead]:=by
 unfold M96a at h
 refine zI Try.func96 ?_
 refine zs ?_
 obtain ⟨_,y,h⟩:=bindS h
 have S:=ckI y
 refine zB ?_ { arr:=[3] }
 refine nT (zs ?_)
 obtain ⟨m,b,h⟩:=bindS h
 refine AWp.cutW (fun τ=>τ={ env:=[(1,.ptr 0 0),(2,.ptr 2 0),(3,.ptr 11 0),(5,.d (.bool m))],heap:=[(.cells [(.map 1)]),(.map true (.int .u8 :: .int .u8 :: .int .u8 :: .int .i8 :: .int .i8 :: .int .i8 :: .int .i8 :: .int .i8 :: .int .i8 :: .int .i8 :: .int .i8 :: .int .i8 :: .int .i8 :: .int .i8 :: .int .i8 :: .int .i8 :: .int .i8 :: .int .i8 :: .int .i8 :: .int .i8 :: .int .i8 :: .int .i8 :: .int .i8 :: .int .i8 :: .int .i8 :: .int .i8 :: .int .i8 :: .int .i8 :: .int .i8 :: .int .i8 :: .int .i8 :: .int .i8 :: .int .i8 :: .int .i8 :: .int .i8 :: .int .i8 :: .int .i8 :: .int .i8 :: .int .i64 :: .int .i64 :: .int .i64::[]) j),.cells [.gref 7 41],.dead,.dead,.dead,(.arr 1 c),.gro 41 k,.dead,.dead,(.arr 1 e),(.arr 1 i)],n:=21 }) ?_ ?_
 ·skip
  obtain ⟨V,z,b⟩:=bindS b
  obtain ⟨U,G,J⟩:=gaI z
  obtain ⟨_,r,b⟩:=bindS b
  have K:=ckI r
  obtain ⟨C,l,b⟩:=bindS b
  rcases C with _ | _
  ·have B:=lkN l
   refine zB ?_ { tk:=[10] }
   cases soI b
   exact oWi ⟨_,zR [some 0,some 1,some 2,some 3,some 4,some 5,some 6,some 7,some 8,some 9,some 10,some 11] [1,2,3,5],rfl⟩
  ·have B:=lkS l
   refine zB ?_ { tk:=[10] }
   cases soI b
   exact oWi ⟨_,zR [some 0,some 1,some 2,some 3,some 4,some 5,some 6,some 7,some 8,some 9,some 10,some 11] [1,2,3,5],rfl⟩
 ·rintro _ rfl
  refine nT (zs ?_)
  refine zA ?_
  refine nT ?_
  obtain ⟨⟨E,F⟩,a,h⟩:=bindS h
  refine AWp.cutW (fun τ=>τ={ env:=[],heap:=[(.cells [(.map 1)]),(.map true (.int .u8 :: .int .u8 :: .int .u8 :: .int .i8 :: .int .i8 :: .int .i8 :: .int .i8 :: .int .i8 :: .int .i8 :: .int .i8 :: .int .i8 :: .int .i8 :: .int .i8 :: .int .i8 :: .int .i8 :: .int .i8 :: .int .i8 :: .int .i8 :: .int .i8 :: .int .i8 :: .int .i8 :: .int .i8 :: .int .i8 :: .int .i8 :: .int .i8 :: .int .i8 :: .int .i8 :: .int .i8 :: .int .i8 :: .int .i8 :: .int .i8 :: .int .i8 :: .int .i8 :: .int .i8 :: .int .i8 :: .int .i8 :: .int .i8 :: .int .i8 :: .int .i64 :: .int .i64 :: .int .i64::[]) E),.cells [.gref 11 41],.dead,.dead,.dead,(.arr 1 c),.dead,.dead,.dead,(.arr 1 e),.gro 41 F,.dead,.dead],n:=21 }) ?_ ?_
  ·skip
   rcases tf m with g | g
   ·replace a:=cT g a
    refine zU ?_
    refine zk ?_
    cases soI a
    exact oWi ⟨_,zR [some 0,some 1,some 2,some 3,some 4,some 5,some 6,none,none,none,some 10,some 7,some 8,some 9] [],rfl⟩
   ·replace a:=cF g a
    refine zT ?_
    refine zs ?_
    obtain ⟨W,s,a⟩:=bindS a
    obtain ⟨L,M,N⟩:=gaI s
    obtain ⟨_,u,a⟩:=bindS a
    have O:=ckI u
    refine zB ?_
    refine nT ?_
    obtain ⟨_,v,a⟩:=bindS a
    have P:=ckI v
    obtain ⟨X,w,a⟩:=bindS a
    obtain ⟨Q,R⟩:=apI w
    refine zB ?_ { tk:=[17,20] }
    cases soI a
    exact oWi ⟨_,(Wk.trans (Wk.settle 2 0 rfl rfl rfl) (zR [some 0,some 1,some 2,some 3,some 4,some 5,some 6,some 7,some 8,some 9,some 10,some 12,some 13,some 14] [])),rfl⟩
  ·rintro _ rfl
   cases soI h
   exact zq

theorem M177w {A:Ar} (hA:SA A) {m B:List D} {W:List (D×D)} {X:List D} {P:List (D×D)} {Q:List D} (h:M177 A m B W X=some (P,Q)):ACall Try.prog 177 [.d (.agg []),zl 1 m,.d (.agg B),(.func 96 [] [.ptr 0 0,.ptr 2 0])] [(.cells [(.map 1)]),(.map true (.int .u8 :: .int .u8 :: .int .u8 :: .int .i8 :: .int .i8 :: .int .i8 :: .int .i8 :: .int .i8 :: .int .i8 :: .int .i8 :: .int .i8 :: .int .i8 :: .int .i8 :: .int .i8 :: .int .i8 :: .int .i8 :: .int .i8 :: .int .i8 :: .int .i8 :: .int .i8 :: .int .i8 :: .int .i8 :: .int .i8 :: .int .i8 :: .int .i8 :: .int .i8 :: .int .i8 :: .int .i8 :: .int .i8 :: .int .i8 :: .int .i8 :: .int .i8 :: .int .i8 :: .int .i8 :: .int .i8 :: .int .i8 :: .int .i8 :: .int .i8 :: .int .i64 :: .int .i64 :: .int .i64::[]) W),.cells [.gref 3 41],.gro 41 X,.dead,.dead] (.tuple []) [(.cells [(.map 1)]),(.map true (.int .u8 :: .int .u8 :: .int .u8 :: .int .i8 :: .int .i8 :: .int .i8 :: .int .i8 :: .int .i8 :: .int .i8 :: .int .i8 :: .int .i8 :: .int .i8 :: .int .i8 :: .int .i8 :: .int .i8 :: .int .i8 :: .int .i8 :: .int .i8 :: .int .i8 :: .int .i8 :: .int .i8 :: .int .i8 :: .int .i8 :: .int .i8 :: .int .i8 :: .int .i8 :: .int .i8 :: .int .i8 :: .int .i8 :: .int .i8 :: .int .i8 :: .int .i8 :: .int .i8 :: .int .i8 :: .int .i8 :: .int .i8 :: .int .i8 :: .int .i8 :: .int .i64 :: .int .i64 :: .int .i64::[]) P),.cells [.gref 6 41],.dead,.dead,.dead,.gro 41 Q,.dead,.dead]:=by
 unfold M177 at h
 refine zI Try.func177 ?_
 refine zs ?_
 obtain ⟨_,e6,h⟩:=bindS h
 have f5:=ckI e6
 refine zA ?_ { arr:=[6] } (h:=(by (repeat (cbv;simp only [f5]));try cbv))
 refine nT (zs ?_)
 refine zA ?_
 refine nT (zb ?_)
 refine AWp.weak (Wk.ren [some 0,some 1,some 2,none,none,none,some 6,some 3,some 4,some 5] [1,3,6,13,14] rfl rfl) ?_
 obtain ⟨d5,o3,Y,n3,M⟩:=bindK h
 refine AWp.cutXW 0 (fun τ => ∃ N O,Y (N,O)=some (P,Q)/\τ={ env:=[],heap:=[(.cells [(.map 1)]),(.map true (.int .u8 :: .int .u8 :: .int .u8 :: .int .i8 :: .int .i8 :: .int .i8 :: .int .i8 :: .int .i8 :: .int .i8 :: .int .i8 :: .int .i8 :: .int .i8 :: .int .i8 :: .int .i8 :: .int .i8 :: .int .i8 :: .int .i8 :: .int .i8 :: .int .i8 :: .int .i8 :: .int .i8 :: .int .i8 :: .int .i8 :: .int .i8 :: .int .i8 :: .int .i8 :: .int .i8 :: .int .i8 :: .int .i8 :: .int .i8 :: .int .i8 :: .int .i8 :: .int .i8 :: .int .i8 :: .int .i8 :: .int .i8 :: .int .i8 :: .int .i8 :: .int .i64 :: .int .i64 :: .int .i64::[]) N),.cells [.gref 6 41],.dead,.dead,.dead,.gro 41 O,.dead,.dead],n:=107 }) ?_ ?_
 ·skip
  refine AWp.iterW o3 (fun (y,U,V)=>{ env:=[(1,zl 1 m),(3,(.func 96 [] [.ptr 0 0,.ptr 2 0])),(6,.ptr 6 0),(13,(.d (.int .i64 (A.len m)))),(14,zi y)],heap:=[(.cells [(.map 1)]),(.map true (.int .u8 :: .int .u8 :: .int .u8 :: .int .i8 :: .int .i8 :: .int .i8 :: .int .i8 :: .int .i8 :: .int .i8 :: .int .i8 :: .int .i8 :: .int .i8 :: .int .i8 :: .int .i8 :: .int .i8 :: .int .i8 :: .int .i8 :: .int .i8 :: .int .i8 :: .int .i8 :: .int .i8 :: .int .i8 :: .int .i8 :: .int .i8 :: .int .i8 :: .int .i8 :: .int .i8 :: .int .i8 :: .int .i8 :: .int .i8 :: .int .i8 :: .int .i8 :: .int .i8 :: .int .i8 :: .int .i8 :: .int .i8 :: .int .i8 :: .int .i8 :: .int .i64 :: .int .i64 :: .int .i64::[]) U),.cells [.gref 7 41],.dead,.dead,.dead,(.arr 1 B),.gro 41 V,.dead,.dead],n:=107 }) ⟨_,zR [some 0,some 1,some 2,some 3,some 4,some 5,some 6,some 7,some 8,some 9] [1,3,6,13,14],rfl⟩ ?_
  rintro ⟨y,U,V⟩ l4 z
  dsimp only [M177L0] at z
  refine zs ?_
  refine zA ?_
  refine nT (zs ?_)
  rcases tf (A.zlt y (A.len m)) with o | o
  ·replace z:=cT o z
   refine zT ?_ (hb:=(by first | rfl | simp only [o,zqa,zqb,zqc,zqd]))
   refine zk (nT (zs ?_))
   obtain ⟨⟨c4,d4⟩,k,z⟩:=bindS z
   refine AWp.cutW (fun τ=>τ={ env:=[(1,zl 1 m),(3,(.func 96 [] [.ptr 0 0,.ptr 2 0])),(6,.ptr 6 0),(13,(.d (.int .i64 (A.len m)))),(14,zi y)],heap:=[(.cells [(.map 1)]),(.map true (.int .u8 :: .int .u8 :: .int .u8 :: .int .i8 :: .int .i8 :: .int .i8 :: .int .i8 :: .int .i8 :: .int .i8 :: .int .i8 :: .int .i8 :: .int .i8 :: .int .i8 :: .int .i8 :: .int .i8 :: .int .i8 :: .int .i8 :: .int .i8 :: .int .i8 :: .int .i8 :: .int .i8 :: .int .i8 :: .int .i8 :: .int .i8 :: .int .i8 :: .int .i8 :: .int .i8 :: .int .i8 :: .int .i8 :: .int .i8 :: .int .i8 :: .int .i8 :: .int .i8 :: .int .i8 :: .int .i8 :: .int .i8 :: .int .i8 :: .int .i8 :: .int .i64 :: .int .i64 :: .int .i64::[]) c4),.cells [.gref 7 41],.dead,.dead,.dead,(.arr 1 B),.gro 41 d4,.dead,.dead],n:=107 }) ?_ ?_
   ·skip
    refine zb (zs ?_)
    refine zA ?_ (h:=(by (repeat (cbv;simp only [o]));try cbv))
    refine nT (zs (zs ?_))
    obtain ⟨_,g0,k⟩:=bindS k
    have d2:=ckI g0
    obtain ⟨_,i0,k⟩:=bindS k
    have e2:=ckI i0
    obtain ⟨a0,j0,k⟩:=bindS k
    have g2:=gcI j0
    refine zA ?_ (h:=(by (repeat (cbv;simp only [o,d2,e2,g2]));try cbv))
    refine nT ?_
    obtain ⟨⟨q3,r3⟩,r,k⟩:=bindS k
    refine AWp.cutW (fun τ=>τ={ env:=[(1,zl 1 m),(3,(.func 96 [] [.ptr 0 0,.ptr 2 0])),(6,.ptr 6 0),(8,zi y),(13,(.d (.int .i64 (A.len m)))),(14,zi y)],heap:=[(.cells [(.map 1)]),(.map true (.int .u8 :: .int .u8 :: .int .u8 :: .int .i8 :: .int .i8 :: .int .i8 :: .int .i8 :: .int .i8 :: .int .i8 :: .int .i8 :: .int .i8 :: .int .i8 :: .int .i8 :: .int .i8 :: .int .i8 :: .int .i8 :: .int .i8 :: .int .i8 :: .int .i8 :: .int .i8 :: .int .i8 :: .int .i8 :: .int .i8 :: .int .i8 :: .int .i8 :: .int .i8 :: .int .i8 :: .int .i8 :: .int .i8 :: .int .i8 :: .int .i8 :: .int .i8 :: .int .i8 :: .int .i8 :: .int .i8 :: .int .i8 :: .int .i8 :: .int .i8 :: .int .i64 :: .int .i64 :: .int .i64::[]) q3),.cells [.gref 7 41],.dead,.dead,.dead,(.arr 1 B),.gro 41 r3,.dead,.dead],n:=107 }) ?_ ?_
    ·skip
     rcases tf (A.zlt 0 a0) with u | u
     ·replace r:=cT u r
      refine zT ?_ (hb:=(by first | rfl | simp only [o,u,zqa,zqb,zqc,zqd]))
      refine zn ?_
      obtain ⟨m4,k0,r⟩:=bindS r
      obtain ⟨C,E,F⟩:=gaI k0
      obtain ⟨p4,l0,r⟩:=bindS r
      refine zC (M178w hA l0) ?_ (h:=(by (repeat (cbv;simp only [o,u,C,E,F,C,E,F]));try cbv))
      obtain ⟨⟨q4,r4⟩,m0,r⟩:=bindS r
      refine zC (M96w hA m0) ?_ (h:=(by (repeat (cbv;simp only [o,u,C,E,F,C,E,F]));try cbv))
      refine zE ?_ (h:=(by (repeat (cbv;simp only [o,u,C,E,F,C,E,F]));try cbv))
      cases soI r
      exact oWi ⟨_,(zR [some 0,some 1,some 2,some 3,some 4,some 5,some 6,some 10,some 11,some 12] [1,3,6,8,13,14] (h:=(by first | (cbv;done) | ((repeat (cbv;simp only [o,u,C,E,F]));try cbv)))),rfl⟩
     ·replace r:=cF u r
      refine zU ?_ (hb:=(by first | rfl | simp only [o,u,zqa,zqb,zqc,zqd]))
      refine zk ?_
      cases soI r
      exact oWi ⟨_,(zR [some 0,some 1,some 2,some 3,some 4,some 5,some 6,some 7,some 8,some 9] [1,3,6,8,13,14] (h:=(by first | (cbv;done) | ((repeat (cbv;simp only [o,u]));try cbv)))),rfl⟩
    ·rintro _ rfl
     refine nT (zs (zn ?_))
     obtain ⟨n4,n0,k⟩:=bindS k
     obtain ⟨b,c,e⟩:=gaI n0
     obtain ⟨p3,o0,k⟩:=bindS k
     refine zC (M75w hA o0) ?_ (h:=(by (repeat (cbv;simp only [b,c,e,b,c,e]));try cbv))
     refine zE ?_ (h:=(by (repeat (cbv;simp only [b,c,e,b,c,e]));try cbv))
     refine nT (zs (zs ?_))
     obtain ⟨b0,p0,k⟩:=bindS k
     obtain ⟨R,S⟩:=gtI p0
     refine zA ?_ (h:=(by (repeat (cbv;simp only [b,c,e,R,S]));try cbv))
     refine nT ?_
     rcases tf (A.zeq p3 (A.len b0)) with g | g
     ·replace k:=cT g k
      refine zT ?_ (hb:=(by first | rfl | simp only [b,c,e,g,zqa,zqb,zqc,zqd]))
      refine AWp.exit (xT (xB ?_))
      cases soI k
      exact oWi ⟨_,(zR [some 0,some 1,some 2,some 3,some 4,some 5,some 6,some 7,some 8,some 9] [1,3,6,13,14] (h:=(by first | (cbv;done) | ((repeat (cbv;simp only [b,c,e,g]));try cbv)))),rfl⟩
     ·replace k:=cF g k
      refine zU ?_ (hb:=(by first | rfl | simp only [b,c,e,g,zqa,zqb,zqc,zqd]))
      refine zk (nT (zs ?_))
      obtain ⟨⟨L,c0,d0⟩,q0,k⟩:=bindS k
      obtain ⟨i2,j2⟩:=gtI q0
      refine zA ?_ { tk:=[43] } (h:=(by (repeat (cbv;simp only [b,c,e,g,R,S,i2,j2]));try cbv))
      refine nT (zs ?_)
      refine zA ?_ (h:=(by (repeat (cbv;simp only [b,c,e,g]));try cbv))
      refine nT (zb (zs ?_))
      refine zA ?_ (h:=(by (repeat (cbv;simp only [b,c,e,g]));try cbv))
      refine nT ?_
      obtain ⟨⟨a4,b4⟩,s,k⟩:=bindS k
      refine AWp.cutW (fun τ=>τ={ env:=[(1,zl 1 m),(3,(.func 96 [] [.ptr 0 0,.ptr 2 0])),(6,.ptr 6 0),(13,(.d (.int .i64 (A.len m)))),(14,zi y)],heap:=[(.cells [(.map 1)]),(.map true (.int .u8 :: .int .u8 :: .int .u8 :: .int .i8 :: .int .i8 :: .int .i8 :: .int .i8 :: .int .i8 :: .int .i8 :: .int .i8 :: .int .i8 :: .int .i8 :: .int .i8 :: .int .i8 :: .int .i8 :: .int .i8 :: .int .i8 :: .int .i8 :: .int .i8 :: .int .i8 :: .int .i8 :: .int .i8 :: .int .i8 :: .int .i8 :: .int .i8 :: .int .i8 :: .int .i8 :: .int .i8 :: .int .i8 :: .int .i8 :: .int .i8 :: .int .i8 :: .int .i8 :: .int .i8 :: .int .i8 :: .int .i8 :: .int .i8 :: .int .i8 :: .int .i64 :: .int .i64 :: .int .i64::[]) a4),.cells [.gref 7 41],.dead,.dead,.dead,(.arr 1 B),.gro 41 b4,.dead,.dead],n:=107 }) ?_ ?_
      ·skip
       rcases tf (A.zeq L 1) with i | i
       ·replace s:=cT i s
        refine zT ?_ (hb:=(by first | rfl | simp only [b,c,e,g,i,zqa,zqb,zqc,zqd]))
        refine zn ?_
        obtain ⟨s4,r0,s⟩:=bindS s
        refine zC (M179w hA r0) ?_ (h:=(by (repeat (cbv;simp only [b,c,e,g,i,b,c,e]));try cbv))
        obtain ⟨⟨u4,v4⟩,s0,s⟩:=bindS s
        refine zC (M96w hA s0) ?_ (h:=(by (repeat (cbv;simp only [b,c,e,g,i,b,c,e]));try cbv))
        refine zE ?_ (h:=(by (repeat (cbv;simp only [b,c,e,g,i,b,c,e]));try cbv))
        cases soI s
        exact oWi ⟨_,(zR [some 0,some 1,some 2,some 3,some 4,some 5,some 6,some 10,some 11,some 12] [1,3,6,13,14] (h:=(by first | (cbv;done) | ((repeat (cbv;simp only [b,c,e,g,i]));try cbv)))),rfl⟩
       ·replace s:=cF i s
        refine zU ?_ (hb:=(by first | rfl | simp only [b,c,e,g,i,zqa,zqb,zqc,zqd]))
        refine zs ?_
        refine zA ?_ (h:=(by (repeat (cbv;simp only [b,c,e,g,i]));try cbv))
        refine nT ?_
        obtain ⟨⟨y3,z3⟩,a,s⟩:=bindS s
        refine AWp.cutW (fun τ=>τ={ env:=[(1,zl 1 m),(3,(.func 96 [] [.ptr 0 0,.ptr 2 0])),(6,.ptr 6 0),(13,(.d (.int .i64 (A.len m)))),(14,zi y)],heap:=[(.cells [(.map 1)]),(.map true (.int .u8 :: .int .u8 :: .int .u8 :: .int .i8 :: .int .i8 :: .int .i8 :: .int .i8 :: .int .i8 :: .int .i8 :: .int .i8 :: .int .i8 :: .int .i8 :: .int .i8 :: .int .i8 :: .int .i8 :: .int .i8 :: .int .i8 :: .int .i8 :: .int .i8 :: .int .i8 :: .int .i8 :: .int .i8 :: .int .i8 :: .int .i8 :: .int .i8 :: .int .i8 :: .int .i8 :: .int .i8 :: .int .i8 :: .int .i8 :: .int .i8 :: .int .i8 :: .int .i8 :: .int .i8 :: .int .i8 :: .int .i8 :: .int .i8 :: .int .i8 :: .int .i64 :: .int .i64 :: .int .i64::[]) y3),.cells [.gref 7 41],.dead,.dead,.dead,(.arr 1 B),.gro 41 z3,.dead,.dead],n:=107 }) ?_ ?_
        ·skip
         rcases tf (A.zeq L 2) with j | j
         ·replace a:=cT j a
          refine zT ?_ (hb:=(by first | rfl | simp only [b,c,e,g,i,j,zqa,zqb,zqc,zqd]))
          refine zs ?_
          obtain ⟨_,v0,a⟩:=bindS a
          have l2:=ckI v0
          obtain ⟨_,u0,a⟩:=bindS a
          have k2:=ckI u0
          refine zA ?_ { tk:=[57],arr:=[11] } (h:=(by (repeat (cbv;simp only [b,c,e,g,i,j,b,c,e,k2,l2]));try cbv))
          refine nT (zs ?_)
          obtain ⟨_,w0,a⟩:=bindS a
          have m2:=ckI w0
          obtain ⟨_,y0,a⟩:=bindS a
          have n2:=ckI y0
          obtain ⟨e4,z0,a⟩:=bindS a
          have o2:=gcI z0
          obtain ⟨_,a1,a⟩:=bindS a
          have p2:=nkI a1
          obtain ⟨_,b1,a⟩:=bindS a
          have q2:=ckI b1
          obtain ⟨_,c1,a⟩:=bindS a
          have r2:=ckI c1
          obtain ⟨j4,d1,a⟩:=bindS a
          refine AWp.rd hT hA { tk:=[64] } rfl (by (repeat (cbv;simp only [b,c,e,g,i,j,m2,n2,o2,p2,q2,r2,d1]));try cbv) (by kernel_rfl) (lb rfl) ?_
          refine nT (zs ?_)
          obtain ⟨_,e1,a⟩:=bindS a
          have s2:=ckI e1
          obtain ⟨_,g1,a⟩:=bindS a
          have u2:=ckI g1
          obtain ⟨g4,i1,a⟩:=bindS a
          have v2:=gcI i1
          obtain ⟨_,j1,a⟩:=bindS a
          have w2:=ckI j1
          obtain ⟨_,k1,a⟩:=bindS a
          have y2:=ckI k1
          obtain ⟨_,l1,a⟩:=bindS a
          have z2:=ckI l1
          obtain ⟨_,m1,a⟩:=bindS a
          have a3:=ckI m1
          have c3:=lnF hA (l:=[.int .i8 (A.wrp .i8 c0),.int .i8 (A.wrp .i8 d0)]) (n:=2) rfl
          obtain ⟨_,n1,a⟩:=bindS a
          have b3:=ckI n1
          refine AWp.rd hT hA { tk:=[78] } rfl (by (repeat (cbv;simp only [b,c,e,g,i,j,s2,u2,v2,w2,y2,z2,a3,b3,c3]));try cbv) (by kernel_rfl) (lb rfl) ?_
          refine nT (zs ?_)
          obtain ⟨_,o1,a⟩:=bindS a
          have d3:=ckI o1
          obtain ⟨_,p1,a⟩:=bindS a
          have e3:=ckI p1
          obtain ⟨i4,q1,a⟩:=bindS a
          have g3:=gcI q1
          obtain ⟨_,r1,a⟩:=bindS a
          have i3:=ckI r1
          obtain ⟨_,s1,a⟩:=bindS a
          have j3:=ckI s1
          obtain ⟨k4,u1,a⟩:=bindS a
          refine zA ?_ { tk:=[86] } (h:=(by (repeat (cbv;simp only [b,c,e,g,i,j,d3,e3,g3,i3,j3,u1]));try cbv))
          refine nT (zn ?_)
          obtain ⟨o4,v1,a⟩:=bindS a
          obtain ⟨G,J,K⟩:=gaI v1
          obtain ⟨⟨w4,y4,z4⟩,w1,a⟩:=bindS a
          refine zC (M96aw hA w1) ?_ (h:=(by (repeat (cbv;simp only [b,c,e,g,i,j,G,J,K,G,J,K]));try cbv))
          refine zE ?_ (h:=(by (repeat (cbv;simp only [b,c,e,g,i,j,G,J,K,G,J,K]));try cbv))
          cases soI a
          exact oWi ⟨_,(zR [some 0,some 1,some 2,some 3,some 4,some 5,some 6,some 11,some 12,some 13] [1,3,6,13,14] (h:=(by first | (cbv;done) | ((repeat (cbv;simp only [b,c,e,g,i,j,G,J,K]));try cbv)))),rfl⟩
         ·replace a:=cF j a
          refine zU ?_ (hb:=(by first | rfl | simp only [b,c,e,g,i,j,zqa,zqb,zqc,zqd]))
          refine zs ?_
          refine zA ?_ (h:=(by (repeat (cbv;simp only [b,c,e,g,i,j]));try cbv))
          refine nT ?_
          obtain ⟨⟨v3,w3⟩,q,a⟩:=bindS a
          refine AWp.cutW (fun τ=>τ={ env:=[(1,zl 1 m),(3,(.func 96 [] [.ptr 0 0,.ptr 2 0])),(6,.ptr 6 0),(13,(.d (.int .i64 (A.len m)))),(14,zi y)],heap:=[(.cells [(.map 1)]),(.map true (.int .u8 :: .int .u8 :: .int .u8 :: .int .i8 :: .int .i8 :: .int .i8 :: .int .i8 :: .int .i8 :: .int .i8 :: .int .i8 :: .int .i8 :: .int .i8 :: .int .i8 :: .int .i8 :: .int .i8 :: .int .i8 :: .int .i8 :: .int .i8 :: .int .i8 :: .int .i8 :: .int .i8 :: .int .i8 :: .int .i8 :: .int .i8 :: .int .i8 :: .int .i8 :: .int .i8 :: .int .i8 :: .int .i8 :: .int .i8 :: .int .i8 :: .int .i8 :: .int .i8 :: .int .i8 :: .int .i8 :: .int .i8 :: .int .i8 :: .int .i8 :: .int .i64 :: .int .i64 :: .int .i64::[]) v3),.cells [.gref 7 41],.dead,.dead,.dead,(.arr 1 B),.gro 41 w3,.dead,.dead],n:=107 }) ?_ ?_
          ·skip
           rcases tf (A.zeq L 3) with p | p
           ·replace q:=cT p q
            refine zT ?_ (hb:=(by first | rfl | simp only [b,c,e,g,i,j,p,zqa,zqb,zqc,zqd]))
            refine zs ?_
            obtain ⟨_,y1,q⟩:=bindS q
            have k3:=ckI y1
            obtain ⟨_,z1,q⟩:=bindS q
            have l3:=ckI z1
            obtain ⟨e0,a2,q⟩:=bindS q
            have m3:=gcI a2
            refine zA ?_ (h:=(by (repeat (cbv;simp only [b,c,e,g,i,j,p,k3,l3,m3]));try cbv))
            refine nT ?_
            obtain ⟨⟨s3,u3⟩,w,q⟩:=bindS q
            refine AWp.cutW (fun τ=>τ={ env:=[(1,zl 1 m),(3,(.func 96 [] [.ptr 0 0,.ptr 2 0])),(6,.ptr 6 0),(13,(.d (.int .i64 (A.len m)))),(14,zi y)],heap:=[(.cells [(.map 1)]),(.map true (.int .u8 :: .int .u8 :: .int .u8 :: .int .i8 :: .int .i8 :: .int .i8 :: .int .i8 :: .int .i8 :: .int .i8 :: .int .i8 :: .int .i8 :: .int .i8 :: .int .i8 :: .int .i8 :: .int .i8 :: .int .i8 :: .int .i8 :: .int .i8 :: .int .i8 :: .int .i8 :: .int .i8 :: .int .i8 :: .int .i8 :: .int .i8 :: .int .i8 :: .int .i8 :: .int .i8 :: .int .i8 :: .int .i8 :: .int .i8 :: .int .i8 :: .int .i8 :: .int .i8 :: .int .i8 :: .int .i8 :: .int .i8 :: .int .i8 :: .int .i8 :: .int .i64 :: .int .i64 :: .int .i64::[]) s3),.cells [.gref 7 41],.dead,.dead,.dead,(.arr 1 B),.gro 41 u3,.dead,.dead],n:=107 }) ?_ ?_
            ·skip
             rcases tf (A.zeq e0 0) with v | v
             ·replace w:=cT v w
              refine zT ?_ (hb:=(by first | rfl | simp only [b,c,e,g,i,j,p,v,zqa,zqb,zqc,zqd]))
              refine zn ?_
              obtain ⟨a5,b2,w⟩:=bindS w
              refine zC (M76w hA b2) ?_ (h:=(by (repeat (cbv;simp only [b,c,e,g,i,j,p,v,b,c,e]));try cbv))
              obtain ⟨⟨b5,c5⟩,c2,w⟩:=bindS w
              refine zC (M96w hA c2) ?_ (h:=(by (repeat (cbv;simp only [b,c,e,g,i,j,p,v,b,c,e]));try cbv))
              refine zE ?_ (h:=(by (repeat (cbv;simp only [b,c,e,g,i,j,p,v,b,c,e]));try cbv))
              cases soI w
              exact oWi ⟨_,(zR [some 0,some 1,some 2,some 3,some 4,some 5,some 6,some 10,some 11,some 12] [1,3,6,13,14] (h:=(by first | (cbv;done) | ((repeat (cbv;simp only [b,c,e,g,i,j,p,v]));try cbv)))),rfl⟩
             ·replace w:=cF v w
              refine zU ?_ (hb:=(by first | rfl | simp only [b,c,e,g,i,j,p,v,zqa,zqb,zqc,zqd]))
              refine zk ?_
              cases soI w
              exact oWi ⟨_,(zR [some 0,some 1,some 2,some 3,some 4,some 5,some 6,some 7,some 8,some 9] [1,3,6,13,14] (h:=(by first | (cbv;done) | ((repeat (cbv;simp only [b,c,e,g,i,j,p,v]));try cbv)))),rfl⟩
            ·rintro _ rfl
             cases soI q
             exact oWi ⟨_,zR [some 0,some 1,some 2,some 3,some 4,some 5,some 6,some 7,some 8,some 9] [1,3,6,13,14],rfl⟩
           ·replace q:=cF p q
            refine zU ?_ (hb:=(by first | rfl | simp only [b,c,e,g,i,j,p,zqa,zqb,zqc,zqd]))
            refine zk ?_
            cases soI q
            exact oWi ⟨_,(zR [some 0,some 1,some 2,some 3,some 4,some 5,some 6,some 7,some 8,some 9] [1,3,6,13,14] (h:=(by first | (cbv;done) | ((repeat (cbv;simp only [b,c,e,g,i,j,p]));try cbv)))),rfl⟩
          ·rintro _ rfl
           cases soI a
           exact oWi ⟨_,zR [some 0,some 1,some 2,some 3,some 4,some 5,some 6,some 7,some 8,some 9] [1,3,6,13,14],rfl⟩
        ·rintro _ rfl
         cases soI s
         exact oWi ⟨_,zR [some 0,some 1,some 2,some 3,some 4,some 5,some 6,some 7,some 8,some 9] [1,3,6,13,14],rfl⟩
      ·rintro _ rfl
       refine nB (nB ?_)
       cases soI k
       exact oWi ⟨_,zR [some 0,some 1,some 2,some 3,some 4,some 5,some 6,some 7,some 8,some 9] [1,3,6,13,14],rfl⟩
   ·rintro _ rfl
    refine nT ?_
    refine zA ?_
    exact nT ⟨_,(soI z).symm,_,zR [some 0,some 1,some 2,some 3,some 4,some 5,some 6,some 7,some 8,some 9] [1,3,6,13,14],rfl⟩
  ·replace z:=cF o z
   refine zU ?_ (hb:=(by first | rfl | simp only [o,zqa,zqb,zqc,zqd]))
   refine AWp.exit (xT (xT ?_))
   refine exL z fun hx => ?_
   subst hx
   exact oxWI ⟨_,(zR [some 0,some 1,some 2,some 3,some 4,some 5,some 7,some 8,some 9] [] (h:=(by first | (cbv;done) | ((repeat (cbv;simp only [o]));try cbv)))),_,_,M,rfl⟩
 ·rintro _ ⟨N,O,M,rfl⟩
  have h:=(n3 _ M)
  refine xB ?_
  cases soI h
  exact zq

theorem M180w {A:Ar} (hA:SA A) {c r:List D} {x3:List (D×D)} {x4:List D} {X:List (D×D)} {Y:List D} (h:M180 A c r x3 x4=some (X,Y)):ACall Try.prog 180 [.d (.agg []),zl 1 c,.d (.agg r),(.func 96 [] [.ptr 0 0,.ptr 2 0])] [(.cells [(.map 1)]),(.map true (.int .u8 :: .int .u8 :: .int .u8 :: .int .i8 :: .int .i8 :: .int .i8 :: .int .i8 :: .int .i8 :: .int .i8 :: .int .i8 :: .int .i8 :: .int .i8 :: .int .i8 :: .int .i8 :: .int .i8 :: .int .i8 :: .int .i8 :: .int .i8 :: .int .i8 :: .int .i8 :: .int .i8 :: .int .i8 :: .int .i8 :: .int .i8 :: .int .i8 :: .int .i8 :: .int .i8 :: .int .i8 :: .int .i8 :: .int .i8 :: .int .i8 :: .int .i8 :: .int .i8 :: .int .i8 :: .int .i8 :: .int .i8 :: .int .i8 :: .int .i8 :: .int .i64 :: .int .i64 :: .int .i64::[]) x3),.cells [.gref 3 41],.gro 41 x4,.dead,.dead] (.tuple []) [(.cells [(.map 1)]),(.map true (.int .u8 :: .int .u8 :: .int .u8 :: .int .i8 :: .int .i8 :: .int .i8 :: .int .i8 :: .int .i8 :: .int .i8 :: .int .i8 :: .int .i8 :: .int .i8 :: .int .i8 :: .int .i8 :: .int .i8 :: .int .i8 :: .int .i8 :: .int .i8 :: .int .i8 :: .int .i8 :: .int .i8 :: .int .i8 :: .int .i8 :: .int .i8 :: .int .i8 :: .int .i8 :: .int .i8 :: .int .i8 :: .int .i8 :: .int .i8 :: .int .i8 :: .int .i8 :: .int .i8 :: .int .i8 :: .int .i8 :: .int .i8 :: .int .i8 :: .int .i8 :: .int .i64 :: .int .i64 :: .int .i64::[]) X),.cells [.gref 6 41],.dead,.dead,.dead,.gro 41 Y,.dead,.dead]:=by
 unfold M180 at h
 refine zI Try.func180 ?_
 refine zs ?_
 obtain ⟨_,e6,h⟩:=bindS h
 have f5:=ckI e6
 refine zA ?_ { arr:=[6] } (h:=(by (repeat (cbv;simp only [f5]));try cbv))
 refine nT (zs ?_)
 refine zA ?_
 refine nT (zb ?_)
 refine AWp.weak (Wk.ren [some 0,some 1,some 2,none,none,none,some 6,some 3,some 4,some 5] [1,3,6,16,17] rfl rfl) ?_
 obtain ⟨v2,d2,j0,a2,R⟩:=bindK h
 refine AWp.cutXW 0 (fun τ => ∃ V W,j0 (V,W)=some (X,Y)/\τ={ env:=[],heap:=[(.cells [(.map 1)]),(.map true (.int .u8 :: .int .u8 :: .int .u8 :: .int .i8 :: .int .i8 :: .int .i8 :: .int .i8 :: .int .i8 :: .int .i8 :: .int .i8 :: .int .i8 :: .int .i8 :: .int .i8 :: .int .i8 :: .int .i8 :: .int .i8 :: .int .i8 :: .int .i8 :: .int .i8 :: .int .i8 :: .int .i8 :: .int .i8 :: .int .i8 :: .int .i8 :: .int .i8 :: .int .i8 :: .int .i8 :: .int .i8 :: .int .i8 :: .int .i8 :: .int .i8 :: .int .i8 :: .int .i8 :: .int .i8 :: .int .i8 :: .int .i8 :: .int .i8 :: .int .i8 :: .int .i64 :: .int .i64 :: .int .i64::[]) V),.cells [.gref 6 41],.dead,.dead,.dead,.gro 41 W,.dead,.dead],n:=91 }) ?_ ?_
 ·skip
  refine AWp.iterW d2 (fun (e,c0,d0)=>{ env:=[(1,zl 1 c),(3,(.func 96 [] [.ptr 0 0,.ptr 2 0])),(6,.ptr 6 0),(16,(.d (.int .i64 (A.len c)))),(17,zi e)],heap:=[(.cells [(.map 1)]),(.map true (.int .u8 :: .int .u8 :: .int .u8 :: .int .i8 :: .int .i8 :: .int .i8 :: .int .i8 :: .int .i8 :: .int .i8 :: .int .i8 :: .int .i8 :: .int .i8 :: .int .i8 :: .int .i8 :: .int .i8 :: .int .i8 :: .int .i8 :: .int .i8 :: .int .i8 :: .int .i8 :: .int .i8 :: .int .i8 :: .int .i8 :: .int .i8 :: .int .i8 :: .int .i8 :: .int .i8 :: .int .i8 :: .int .i8 :: .int .i8 :: .int .i8 :: .int .i8 :: .int .i8 :: .int .i8 :: .int .i8 :: .int .i8 :: .int .i8 :: .int .i8 :: .int .i64 :: .int .i64 :: .int .i64::[]) c0),.cells [.gref 7 41],.dead,.dead,.dead,(.arr 1 r),.gro 41 d0,.dead,.dead],n:=91 }) ⟨_,zR [some 0,some 1,some 2,some 3,some 4,some 5,some 6,some 7,some 8,some 9] [1,3,6,16,17],rfl⟩ ?_
  rintro ⟨e,c0,d0⟩ d1 m
  dsimp only [M180L2] at m
  refine zs ?_
  refine zA ?_
  refine nT (zs ?_)
  rcases tf (A.zlt e (A.len c)) with s | s
  ·replace m:=cT s m
   refine zT ?_ (hb:=(by first | rfl | simp only [s,zqa,zqb,zqc,zqd]))
   refine zk (nT (zs (zb (zs ?_))))
   refine zA ?_ (h:=(by (repeat (cbv;simp only [s]));try cbv))
   refine nT (zs ?_)
   obtain ⟨g,l0,m⟩:=bindS m
   obtain ⟨a0,b0⟩:=gtI l0
   refine zA ?_ (h:=(by (repeat (cbv;simp only [s,a0,b0]));try cbv))
   refine nT (zb ?_)
   obtain ⟨u2,c2,i0,z1,Q⟩:=bindK m
   refine AWp.cutXW 2 (fun τ => ∃ S U,i0 (S,U)=some d1/\τ={ env:=[(1,zl 1 c),(3,(.func 96 [] [.ptr 0 0,.ptr 2 0])),(6,.ptr 6 0),(16,(.d (.int .i64 (A.len c)))),(17,zi e)],heap:=[(.cells [(.map 1)]),(.map true (.int .u8 :: .int .u8 :: .int .u8 :: .int .i8 :: .int .i8 :: .int .i8 :: .int .i8 :: .int .i8 :: .int .i8 :: .int .i8 :: .int .i8 :: .int .i8 :: .int .i8 :: .int .i8 :: .int .i8 :: .int .i8 :: .int .i8 :: .int .i8 :: .int .i8 :: .int .i8 :: .int .i8 :: .int .i8 :: .int .i8 :: .int .i8 :: .int .i8 :: .int .i8 :: .int .i8 :: .int .i8 :: .int .i8 :: .int .i8 :: .int .i8 :: .int .i8 :: .int .i8 :: .int .i8 :: .int .i8 :: .int .i8 :: .int .i8 :: .int .i8 :: .int .i64 :: .int .i64 :: .int .i64::[]) S),.cells [.gref 7 41],.dead,.dead,.dead,(.arr 1 r),.gro 41 U,.dead,.dead],n:=91 }) ?_ ?_
   ·skip
    refine AWp.iterW c2 (fun (l,F,G)=>{ env:=[(1,zl 1 c),(3,(.func 96 [] [.ptr 0 0,.ptr 2 0])),(6,.ptr 6 0),(8,zi e),(16,(.d (.int .i64 (A.len c)))),(17,zi e),(23,zl 3 g),(24,(.d (.int .i64 (A.len g)))),(25,zi l)],heap:=[(.cells [(.map 1)]),(.map true (.int .u8 :: .int .u8 :: .int .u8 :: .int .i8 :: .int .i8 :: .int .i8 :: .int .i8 :: .int .i8 :: .int .i8 :: .int .i8 :: .int .i8 :: .int .i8 :: .int .i8 :: .int .i8 :: .int .i8 :: .int .i8 :: .int .i8 :: .int .i8 :: .int .i8 :: .int .i8 :: .int .i8 :: .int .i8 :: .int .i8 :: .int .i8 :: .int .i8 :: .int .i8 :: .int .i8 :: .int .i8 :: .int .i8 :: .int .i8 :: .int .i8 :: .int .i8 :: .int .i8 :: .int .i8 :: .int .i8 :: .int .i8 :: .int .i8 :: .int .i8 :: .int .i64 :: .int .i64 :: .int .i64::[]) F),.cells [.gref 7 41],.dead,.dead,.dead,(.arr 1 r),.gro 41 G,.dead,.dead],n:=91 }) ⟨_,zR [some 0,some 1,some 2,some 3,some 4,some 5,some 6,some 7,some 8,some 9] [1,3,6,8,16,17,23,24,25] (h:=(by first | (cbv;done) | ((repeat (cbv;simp only [s]));try cbv))),rfl⟩ ?_
    rintro ⟨l,F,G⟩ c1 a
    dsimp only [M180L1] at a
    refine zs ?_
    refine zA ?_
    refine nT (zs ?_)
    rcases tf (A.zlt l (A.len g)) with p | p
    ·replace a:=cT p a
     refine zT ?_ (hb:=(by first | rfl | simp only [p,zqa,zqb,zqc,zqd]))
     refine zk (nT (zs (zb (zs ?_))))
     obtain ⟨⟨K,N,O⟩,m0,a⟩:=bindS a
     obtain ⟨e1,g1⟩:=gtI m0
     refine zA ?_ { tk:=[29] } (h:=(by (repeat (cbv;simp only [p,e1,g1]));try cbv))
     refine nT (zs ?_)
     obtain ⟨_,n0,a⟩:=bindS a
     have i1:=ckI n0
     obtain ⟨_,o0,a⟩:=bindS a
     have j1:=ckI o0
     obtain ⟨j2,p0,a⟩:=bindS a
     have k1:=gcI p0
     obtain ⟨_,q0,a⟩:=bindS a
     have l1:=nkI q0
     refine zA ?_ (h:=(by (repeat (cbv;simp only [p,i1,j1,k1,l1]));try cbv))
     refine nT (zs (zs ?_))
     obtain ⟨E,r0,a⟩:=bindS a
     obtain ⟨m1,n1,o1,p1⟩:=slI r0
     refine zA ?_ (h:=(by (repeat (cbv;simp only [p,a0,b0,m1,n1,o1,p1]));try cbv))
     refine nT (zb ?_)
     obtain ⟨s2,b2,g0,y1,P⟩:=bindK a
     refine AWp.cutXW 4 (fun τ => ∃ M,g0 M=some c1/\τ={ env:=[(1,zl 1 c),(3,(.func 96 [] [.ptr 0 0,.ptr 2 0])),(6,.ptr 6 0),(8,zi e),(9,zi l),(11,.d (.bool M)),(16,(.d (.int .i64 (A.len c)))),(17,zi e),(23,zl 3 g),(24,(.d (.int .i64 (A.len g)))),(25,zi l)],heap:=[(.cells [(.map 1)]),(.map true (.int .u8 :: .int .u8 :: .int .u8 :: .int .i8 :: .int .i8 :: .int .i8 :: .int .i8 :: .int .i8 :: .int .i8 :: .int .i8 :: .int .i8 :: .int .i8 :: .int .i8 :: .int .i8 :: .int .i8 :: .int .i8 :: .int .i8 :: .int .i8 :: .int .i8 :: .int .i8 :: .int .i8 :: .int .i8 :: .int .i8 :: .int .i8 :: .int .i8 :: .int .i8 :: .int .i8 :: .int .i8 :: .int .i8 :: .int .i8 :: .int .i8 :: .int .i8 :: .int .i8 :: .int .i8 :: .int .i8 :: .int .i8 :: .int .i8 :: .int .i8 :: .int .i64 :: .int .i64 :: .int .i64::[]) F),.cells [.gref 7 41],.dead,.dead,.dead,(.arr 1 r),.gro 41 G,.dead,.dead],n:=91 }) ?_ ?_
     ·skip
      refine AWp.iterW b2 (fun (L,J)=>{ env:=[(1,zl 1 c),(3,(.func 96 [] [.ptr 0 0,.ptr 2 0])),(6,.ptr 6 0),(8,zi e),(9,zi l),(10,(.lbox [zi K,zi N,zi O])),(11,.d (.bool L)),(16,(.d (.int .i64 (A.len c)))),(17,zi e),(23,zl 3 g),(24,(.d (.int .i64 (A.len g)))),(25,zi l),(43,zl 3 E),(44,(.d (.int .i64 (A.len E)))),(45,zi J)],heap:=[(.cells [(.map 1)]),(.map true (.int .u8 :: .int .u8 :: .int .u8 :: .int .i8 :: .int .i8 :: .int .i8 :: .int .i8 :: .int .i8 :: .int .i8 :: .int .i8 :: .int .i8 :: .int .i8 :: .int .i8 :: .int .i8 :: .int .i8 :: .int .i8 :: .int .i8 :: .int .i8 :: .int .i8 :: .int .i8 :: .int .i8 :: .int .i8 :: .int .i8 :: .int .i8 :: .int .i8 :: .int .i8 :: .int .i8 :: .int .i8 :: .int .i8 :: .int .i8 :: .int .i8 :: .int .i8 :: .int .i8 :: .int .i8 :: .int .i8 :: .int .i8 :: .int .i8 :: .int .i8 :: .int .i64 :: .int .i64 :: .int .i64::[]) F),.cells [.gref 7 41],.dead,.dead,.dead,(.arr 1 r),.gro 41 G,.dead,.dead],n:=91 }) ⟨_,zR [some 0,some 1,some 2,some 3,some 4,some 5,some 6,some 7,some 8,some 9] [1,3,6,8,9,10,11,16,17,23,24,25,43,44,45] (h:=(by first | (cbv;done) | ((repeat (cbv;simp only [p]));try cbv))),rfl⟩ ?_
      rintro ⟨L,J⟩ n2 j
      dsimp only [M180L0] at j
      refine zs ?_
      refine zA ?_
      refine nT (zs ?_)
      rcases tf (A.zlt J (A.len E)) with i | i
      ·replace j:=cT i j
       refine zT ?_ (hb:=(by first | rfl | simp only [i,zqa,zqb,zqc,zqd]))
       refine zk (nT (zs (zb (zs ?_))))
       obtain ⟨⟨k0,k2,l2⟩,s0,j⟩:=bindS j
       obtain ⟨q1,r1⟩:=gtI s0
       refine zA ?_ { tk:=[49] } (h:=(by (repeat (cbv;simp only [i,q1,r1]));try cbv))
       refine nT (zs ?_)
       obtain ⟨e0,o,j⟩:=bindS j
       refine AWp.cutW (fun τ=>τ={ env:=[(1,zl 1 c),(3,(.func 96 [] [.ptr 0 0,.ptr 2 0])),(6,.ptr 6 0),(8,zi e),(9,zi l),(10,(.lbox [zi K,zi N,zi O])),(11,.d (.bool L)),(12,zi J),(14,.d (.bool e0)),(16,(.d (.int .i64 (A.len c)))),(17,zi e),(23,zl 3 g),(24,(.d (.int .i64 (A.len g)))),(25,zi l),(43,zl 3 E),(44,(.d (.int .i64 (A.len E)))),(45,zi J)],heap:=[(.cells [(.map 1)]),(.map true (.int .u8 :: .int .u8 :: .int .u8 :: .int .i8 :: .int .i8 :: .int .i8 :: .int .i8 :: .int .i8 :: .int .i8 :: .int .i8 :: .int .i8 :: .int .i8 :: .int .i8 :: .int .i8 :: .int .i8 :: .int .i8 :: .int .i8 :: .int .i8 :: .int .i8 :: .int .i8 :: .int .i8 :: .int .i8 :: .int .i8 :: .int .i8 :: .int .i8 :: .int .i8 :: .int .i8 :: .int .i8 :: .int .i8 :: .int .i8 :: .int .i8 :: .int .i8 :: .int .i8 :: .int .i8 :: .int .i8 :: .int .i8 :: .int .i8 :: .int .i8 :: .int .i64 :: .int .i64 :: .int .i64::[]) F),.cells [.gref 7 41],.dead,.dead,.dead,(.arr 1 r),.gro 41 G,.dead,.dead],n:=91 }) ?_ ?_
       ·skip
        rcases tf (A.zeq K 3) with u | u
        ·replace o:=cT u o
         refine zA ?_ (h:=(by (repeat (cbv;simp only [i,u]));try cbv))
         cases soI o
         exact oWi ⟨_,(zR [some 0,some 1,some 2,some 3,some 4,some 5,some 6,some 7,some 8,some 9] [1,3,6,8,9,10,11,12,14,16,17,23,24,25,43,44,45] (h:=(by first | (cbv;done) | ((repeat (cbv;simp only [i,u]));try cbv)))),rfl⟩
        ·replace o:=cF u o
         rcases tf (A.zeq k0 3) with w | w
         ·replace o:=cT w o
          refine zA ?_ (h:=(by (repeat (cbv;simp only [i,u,w]));try cbv))
          cases soI o
          exact oWi ⟨_,(zR [some 0,some 1,some 2,some 3,some 4,some 5,some 6,some 7,some 8,some 9] [1,3,6,8,9,10,11,12,14,16,17,23,24,25,43,44,45] (h:=(by first | (cbv;done) | ((repeat (cbv;simp only [i,u,w]));try cbv)))),rfl⟩
         ·replace o:=cF w o
          refine zA ?_ (h:=(by (repeat (cbv;simp only [i,u,w]));try cbv))
          cases soI o
          exact oWi ⟨_,(zR [some 0,some 1,some 2,some 3,some 4,some 5,some 6,some 7,some 8,some 9] [1,3,6,8,9,10,11,12,14,16,17,23,24,25,43,44,45] (h:=(by first | (cbv;done) | ((repeat (cbv;simp only [i,u,w]));try cbv)))),rfl⟩
       ·rintro _ rfl
        refine nT ?_
        obtain ⟨e2,b,j⟩:=bindS j
        refine AWp.cutW (fun τ=>τ={ env:=[(1,zl 1 c),(3,(.func 96 [] [.ptr 0 0,.ptr 2 0])),(6,.ptr 6 0),(8,zi e),(9,zi l),(10,(.lbox [zi K,zi N,zi O])),(11,.d (.bool e2)),(16,(.d (.int .i64 (A.len c)))),(17,zi e),(23,zl 3 g),(24,(.d (.int .i64 (A.len g)))),(25,zi l),(43,zl 3 E),(44,(.d (.int .i64 (A.len E)))),(45,zi J)],heap:=[(.cells [(.map 1)]),(.map true (.int .u8 :: .int .u8 :: .int .u8 :: .int .i8 :: .int .i8 :: .int .i8 :: .int .i8 :: .int .i8 :: .int .i8 :: .int .i8 :: .int .i8 :: .int .i8 :: .int .i8 :: .int .i8 :: .int .i8 :: .int .i8 :: .int .i8 :: .int .i8 :: .int .i8 :: .int .i8 :: .int .i8 :: .int .i8 :: .int .i8 :: .int .i8 :: .int .i8 :: .int .i8 :: .int .i8 :: .int .i8 :: .int .i8 :: .int .i8 :: .int .i8 :: .int .i8 :: .int .i8 :: .int .i8 :: .int .i8 :: .int .i8 :: .int .i8 :: .int .i8 :: .int .i64 :: .int .i64 :: .int .i64::[]) F),.cells [.gref 7 41],.dead,.dead,.dead,(.arr 1 r),.gro 41 G,.dead,.dead],n:=91 }) ?_ ?_
        ·skip
         rcases tf L with v | v
         ·replace b:=cT v b
          rcases tf e0 with y | y
          ·replace b:=cT y b
           obtain ⟨_,u0,b⟩:=bindS b
           have s1:=ckI u0
           obtain ⟨_,v0,b⟩:=bindS b
           have u1:=ckI v0
           obtain ⟨m2,w0,b⟩:=bindS b
           have v1:=gcI w0
           obtain ⟨_,y0,b⟩:=bindS b
           have w1:=nkI y0
           refine zA ?_ (h:=(by (repeat (cbv;simp only [v,y,s1,u1,v1,w1]));try cbv))
           cases soI b
           exact oWi ⟨_,(zR [some 0,some 1,some 2,some 3,some 4,some 5,some 6,some 7,some 8,some 9] [1,3,6,8,9,10,11,16,17,23,24,25,43,44,45] (h:=(by first | (cbv;done) | ((repeat (cbv;simp only [v,y]));try cbv)))),rfl⟩
          ·replace b:=cF y b
           refine zA ?_ (h:=(by (repeat (cbv;simp only [v,y]));try cbv))
           cases soI b
           exact oWi ⟨_,(zR [some 0,some 1,some 2,some 3,some 4,some 5,some 6,some 7,some 8,some 9] [1,3,6,8,9,10,11,16,17,23,24,25,43,44,45] (h:=(by first | (cbv;done) | ((repeat (cbv;simp only [v,y]));try cbv)))),rfl⟩
         ·replace b:=cF v b
          refine zA ?_ (h:=(by (repeat (cbv;simp only [v]));try cbv))
          cases soI b
          exact oWi ⟨_,(zR [some 0,some 1,some 2,some 3,some 4,some 5,some 6,some 7,some 8,some 9] [1,3,6,8,9,10,11,16,17,23,24,25,43,44,45] (h:=(by first | (cbv;done) | ((repeat (cbv;simp only [v]));try cbv)))),rfl⟩
        ·rintro _ rfl
         refine nB (nT ?_)
         refine zA ?_
         exact nT ⟨_,(soI j).symm,_,zR [some 0,some 1,some 2,some 3,some 4,some 5,some 6,some 7,some 8,some 9] [1,3,6,8,9,10,11,16,17,23,24,25,43,44,45],rfl⟩
      ·replace j:=cF i j
       refine zU ?_ (hb:=(by first | rfl | simp only [i,zqa,zqb,zqc,zqd]))
       refine AWp.exit (xT (xT ?_))
       refine exL j fun hx => ?_
       subst hx
       exact oxWI ⟨_,(zR [some 0,some 1,some 2,some 3,some 4,some 5,some 6,some 7,some 8,some 9] [1,3,6,8,9,11,16,17,23,24,25] (h:=(by first | (cbv;done) | ((repeat (cbv;simp only [i]));try cbv)))),_,P,rfl⟩
     ·rintro _ ⟨M,P,rfl⟩
      have a:=(y1 _ P)
      refine xB (nT (zs ?_))
      refine zA ?_
      refine nT ?_
      obtain ⟨⟨g2,i2⟩,k,a⟩:=bindS a
      refine AWp.cutW (fun τ=>τ={ env:=[(1,zl 1 c),(3,(.func 96 [] [.ptr 0 0,.ptr 2 0])),(6,.ptr 6 0),(8,zi e),(16,(.d (.int .i64 (A.len c)))),(17,zi e),(23,zl 3 g),(24,(.d (.int .i64 (A.len g)))),(25,zi l)],heap:=[(.cells [(.map 1)]),(.map true (.int .u8 :: .int .u8 :: .int .u8 :: .int .i8 :: .int .i8 :: .int .i8 :: .int .i8 :: .int .i8 :: .int .i8 :: .int .i8 :: .int .i8 :: .int .i8 :: .int .i8 :: .int .i8 :: .int .i8 :: .int .i8 :: .int .i8 :: .int .i8 :: .int .i8 :: .int .i8 :: .int .i8 :: .int .i8 :: .int .i8 :: .int .i8 :: .int .i8 :: .int .i8 :: .int .i8 :: .int .i8 :: .int .i8 :: .int .i8 :: .int .i8 :: .int .i8 :: .int .i8 :: .int .i8 :: .int .i8 :: .int .i8 :: .int .i8 :: .int .i8 :: .int .i64 :: .int .i64 :: .int .i64::[]) g2),.cells [.gref 7 41],.dead,.dead,.dead,(.arr 1 r),.gro 41 i2,.dead,.dead],n:=91 }) ?_ ?_
      ·skip
       rcases tf M with q | q
       ·replace k:=cT q k
        refine zT ?_ (hb:=(by first | rfl | simp only [q,zqa,zqb,zqc,zqd]))
        refine zn ?_
        obtain ⟨o2,z0,k⟩:=bindS k
        obtain ⟨z,B,C⟩:=gaI z0
        obtain ⟨p2,a1,k⟩:=bindS k
        refine zC (M76w hA a1) ?_ (h:=(by (repeat (cbv;simp only [q,z,B,C,z,B,C]));try cbv))
        obtain ⟨⟨q2,r2⟩,b1,k⟩:=bindS k
        refine zC (M96w hA b1) ?_ (h:=(by (repeat (cbv;simp only [q,z,B,C,z,B,C]));try cbv))
        refine zE ?_ (h:=(by (repeat (cbv;simp only [q,z,B,C,z,B,C]));try cbv))
        cases soI k
        exact oWi ⟨_,(zR [some 0,some 1,some 2,some 3,some 4,some 5,some 6,some 10,some 11,some 12] [1,3,6,8,16,17,23,24,25] (h:=(by first | (cbv;done) | ((repeat (cbv;simp only [q,z,B,C]));try cbv)))),rfl⟩
       ·replace k:=cF q k
        refine zU ?_ (hb:=(by first | rfl | simp only [q,zqa,zqb,zqc,zqd]))
        refine zk ?_
        cases soI k
        exact oWi ⟨_,(zR [some 0,some 1,some 2,some 3,some 4,some 5,some 6,some 7,some 8,some 9] [1,3,6,8,16,17,23,24,25] (h:=(by first | (cbv;done) | ((repeat (cbv;simp only [q]));try cbv)))),rfl⟩
      ·rintro _ rfl
       refine nB (nT ?_)
       refine zA ?_
       exact nT ⟨_,(soI a).symm,_,zR [some 0,some 1,some 2,some 3,some 4,some 5,some 6,some 7,some 8,some 9] [1,3,6,8,16,17,23,24,25],rfl⟩
    ·replace a:=cF p a
     refine zU ?_ (hb:=(by first | rfl | simp only [p,zqa,zqb,zqc,zqd]))
     refine AWp.exit (xT (xT ?_))
     refine exL a fun hx => ?_
     subst hx
     exact oxWI ⟨_,(zR [some 0,some 1,some 2,some 3,some 4,some 5,some 6,some 7,some 8,some 9] [1,3,6,16,17] (h:=(by first | (cbv;done) | ((repeat (cbv;simp only [p]));try cbv)))),_,_,Q,rfl⟩
   ·rintro _ ⟨S,U,Q,rfl⟩
    have m:=(z1 _ Q)
    refine xB (nB (nT ?_))
    refine zA ?_
    exact nT ⟨_,(soI m).symm,_,zR [some 0,some 1,some 2,some 3,some 4,some 5,some 6,some 7,some 8,some 9] [1,3,6,16,17],rfl⟩
  ·replace m:=cF s m
   refine zU ?_ (hb:=(by first | rfl | simp only [s,zqa,zqb,zqc,zqd]))
   refine AWp.exit (xT (xT ?_))
   refine exL m fun hx => ?_
   subst hx
   exact oxWI ⟨_,(zR [some 0,some 1,some 2,some 3,some 4,some 5,some 7,some 8,some 9] [] (h:=(by first | (cbv;done) | ((repeat (cbv;simp only [s]));try cbv)))),_,_,R,rfl⟩
 ·rintro _ ⟨V,W,R,rfl⟩
  have h:=(a2 _ R)
  refine xB ?_
  cases soI h
  exact zq

theorem M138w {A:Ar} (hA:SA A) {b:Int} {a:Bool} (h:M138 A b=some a):ACall Try.prog 138 [zi b] [] (.d (.bool a)) []:=by
 unfold M138 at h
 refine zI Try.func138 ?_
 refine zs ?_
 refine zA ?_
 refine nT (zs ?_)
 refine zA ?_ { tk:=[5] }
 refine nT (zr ?_)
 cases soI h
 exact zq

theorem M118w {A:Ar} (hA:SA A) {a b l:Int} (h:M118 A a b=some l):ACall Try.prog 118 [zi a,zi b] [] (zi l) []:=by
 unfold M118 at h
 refine zI Try.func118 ?_
 refine zs ?_
 refine zA ?_
 refine nT (zs (zn ?_))
 obtain ⟨o,m,h⟩:=bindS h
 refine zC (M138w hA m) ?_
 refine zE ?_
 refine nT (zs (zn ?_))
 obtain ⟨k,n,h⟩:=bindS h
 refine zC (M138w hA n) ?_
 refine zE ?_
 refine nT (zs (zs ?_))
 refine zA ?_
 refine nT ?_
 rcases tf o with g | g
 ·replace h:=cT g h
  refine zT ?_
  refine zs (zs ?_)
  refine zB ?_
  refine nT ?_
  rcases tf k with i | i
  ·replace h:=cT i h
   refine zT ?_
   refine zs ?_
   refine zB ?_
   refine nT (zr (rT (rT ?_)))
   cases soI h
   exact zq
  ·replace h:=cF i h
   refine zU ?_
   refine zk (nT (zs ?_))
   refine zB ?_
   refine nT (zr (rT ?_))
   cases soI h
   exact zq
 ·replace h:=cF g h
  refine zU ?_
  refine zk (nT (zs (zs ?_)))
  refine zB ?_
  refine nT ?_
  rcases tf k with j | j
  ·replace h:=cT j h
   refine zT ?_
   refine zs ?_
   refine zB ?_
   refine nT (zr (rT ?_))
   cases soI h
   exact zq
  ·replace h:=cF j h
   refine zU ?_
   refine zk (nT (zs (zs ?_)))
   refine zB ?_
   refine nT ?_
   rcases tf (A.zlt a b) with c | c
   ·replace h:=cT c h
    refine zT ?_
    refine zs ?_
    refine zB ?_
    refine nT (zr (rT ?_))
    cases soI h
    exact zq
   ·replace h:=cF c h
    refine zU ?_
    refine zk (nT (zs (zs ?_)))
    refine zB ?_
    refine nT ?_
    rcases tf (A.zlt b a) with e | e
    ·replace h:=cT e h
     refine zT ?_
     refine zs ?_
     refine zB ?_
     refine nT (zr (rT ?_))
     cases soI h
     exact zq
    ·replace h:=cF e h
     refine zU ?_
     refine zk (nT (zs ?_))
     refine zB ?_
     refine nT (zr ?_)
     cases soI h
     exact zq

theorem M98w {A:Ar} (hA:SA A) {c e:List D} {o:Int} (h:M98 A c e=some o):ACall Try.prog 98 [zl 1 c,zl 1 e] [] (zi o) []:=by
 unfold M98 at h
 refine zI Try.func98 ?_
 refine zs ?_
 refine zA ?_
 refine nT (zs (zs ?_))
 refine zA ?_
 refine nT (zb ?_)
 obtain ⟨G,u,p,m,b⟩:=bindK h
 refine AWp.cutX 0 [0,1] [] 0 (lb rfl) (fun τ=>p (.inl ())=some o/\τ={ env:=[(0,zl 1 c),(1,zl 1 e)],heap:=[],n:=36 }) ?_ ?_
 ·skip
  refine AWp.iter u [0,1,9,10,11] [] 0 (lb rfl) (fun g=>{ env:=[(0,zl 1 c),(1,zl 1 e),(9,zl 1 c),(10,(.d (.int .i64 (A.len c)))),(11,zi g)],heap:=[],n:=36 }) ⟨rfl,zc⟩ ?_
  rintro g z a
  dsimp only [M98L0] at a
  refine zs ?_
  refine zA ?_
  refine nT (zs ?_)
  rcases tf (A.zlt g (A.len c)) with i | i
  ·replace a:=cT i a
   refine zT ?_
   refine zk (nT (zs (zb (zs ?_))))
   obtain ⟨w,q,a⟩:=bindS a
   obtain ⟨B,C⟩:=gtI q
   refine zB ?_
   refine nT (zs (zs ?_))
   refine zB ?_
   refine nT ?_
   rcases tf (A.zle (A.len e) g) with j | j
   ·replace a:=cT j a
    refine zT ?_
    refine zs ?_
    refine zB ?_
    refine nT (zr (rT (rB (rT (rT ?_)))))
    refine exL a fun hx => ?_
    subst hx
    refine oxR ?_
    replace b:=(eR (m _ b))
    refine rB (rT ?_)
    cases soI b
    exact zq
   ·replace a:=cF j a
    refine zU ?_
    refine zk (nT (zs ?_))
    obtain ⟨y,r,a⟩:=bindS a
    obtain ⟨E,F⟩:=gtI r
    refine zB ?_
    refine nT (zs (zn ?_))
    obtain ⟨v,s,a⟩:=bindS a
    refine zD (M118w hA s) ?_ { tk:=[26] }
    refine zF ?_ { tk:=[26] }
    refine nT (zs ?_)
    refine zB ?_
    refine nT ?_
    rcases tf (A.zeq v 0) with k | k
    ·replace a:=cT k a
     refine zU ?_
     refine zk (nB (nT ?_))
     refine zB ?_
     exact nT ⟨_,(soI a).symm,rfl,zv⟩
    ·replace a:=cF k a
     refine zT ?_
     refine zs ?_
     refine zB ?_ { tk:=[8,29] }
     refine nT (zr (rB (rT (rT ?_))))
     refine exL a fun hx => ?_
     subst hx
     refine oxR ?_
     replace b:=(eR (m _ b))
     refine rB (rT ?_)
     cases soI b
     exact zq
  ·replace a:=cF i a
   refine zU ?_
   refine AWp.exit (xT (xT ?_))
   refine exL a fun hx => ?_
   subst hx
   exact oxI ⟨rfl,b,zv⟩
 ·rintro _ ⟨b,rfl⟩
  have h:=(eL (m _ b))
  refine xB (nT (zs (zs ?_)))
  refine zA ?_
  refine nT ?_
  rcases tf (A.zlt (A.len c) (A.len e)) with l | l
  ·replace h:=cT l h
   refine zT ?_
   refine zs ?_
   refine zB ?_
   refine nT (zr (rT ?_))
   cases soI h
   exact zq
  ·replace h:=cF l h
   refine zU ?_
   refine zk (nT (zs ?_))
   refine zB ?_
   refine nT (zr ?_)
   cases soI h
   exact zq
end Go.Am
