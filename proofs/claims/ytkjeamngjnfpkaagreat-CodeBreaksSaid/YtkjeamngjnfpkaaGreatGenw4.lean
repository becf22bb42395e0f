/- Own text: Genw4. -/
import Derived.Test.YtkjeamngjnfpkaaGreatGenw3
set_option maxRecDepth 100000
set_option maxHeartbeats 2000000
set_option linter.unusedVariables false
set_option linter.unusedSimpArgs false
namespace Go.Am
open Go Go.Proofs
theorem Z67w {A:Ar} (hA:SA A) {e g:List D} {c:Int} (h:Z67 A e g=some c):ACall Tryz.prog 67 [zl 1 e,zl 1 g] [] (zi c) []:=by
 unfold Z67 at h
 refine zI Tryz.func67 ?_
 refine zs ?_
 refine zA ?_
 refine nT (zs (zs (zn ?_)))
 obtain ⟨k,i,h⟩:=bindS h
 refine zC (Z30w hA i) ?_
 refine zE ?_
 refine nT ?_
 rcases tf k with a | a
 ·replace h:=cT a h
  refine zU ?_
  refine zk (nT (zs (zs (zn ?_))))
  obtain ⟨l,j,h⟩:=bindS h
  refine zD (Z32w hA j) ?_
  refine zF ?_
  refine nT ?_
  rcases tf l with b | b
  ·replace h:=cT b h
   refine zU ?_
   refine zk (nT (zs ?_))
   refine zB ?_
   refine nT (zr ?_)
   cases soI h
   exact zq
  ·replace h:=cF b h
   refine zT ?_
   refine zs ?_
   refine zB ?_
   refine nT (zr (rT ?_))
   cases soI h
   exact zq
 ·replace h:=cF a h
  refine zT ?_
  refine zs ?_
  refine zB ?_
  refine nT (zr (rT ?_))
  cases soI h
  exact zq

theorem Z60w {A:Ar} (hA:SA A) {k l:Int} {m o e g:List D} {j:Int} (h:Z60 A k l m o e g=some j):ACall Tryz.prog 60 [.d (.agg [.int .i64 k,.int .i64 l,.list 1 m,.list 1 o]),zl 1 e,zl 1 g] [] (zi j) []:=by
 unfold Z60 at h
 refine zI Tryz.func60 ?_
 refine zs ?_
 refine zA ?_
 refine nT (zs (zs ?_))
 obtain ⟨i,a,h⟩:=bindS h
 refine AWp.cutN [1,2,14] [] 0 (lb rfl) (fun τ=>τ={ env:=[(1,zl 1 e),(2,zl 1 g),(14,.d (.bool i))],heap:=[],n:=18 }) ?_ ?_
 ·skip
  refine zn ?_
  obtain ⟨s,r,a⟩:=bindS a
  refine zC (Z30w hA r) ?_
  rcases tf s with c | c
  ·replace a:=cT c a
   obtain ⟨u,p,a⟩:=bindS a
   refine zD (Z100w hA p) ?_
   refine zF ?_
   cases soI a
   exact zO
  ·replace a:=cF c a
   refine zF ?_
   cases soI a
   exact zO
 ·rintro _ rfl
  refine nT ?_
  rcases tf i with b | b
  ·replace h:=cT b h
   refine zT ?_
   refine zs ?_
   refine zB ?_
   refine nT (zr (rT ?_))
   cases soI h
   exact zq
  ·replace h:=cF b h
   refine zU ?_
   refine zk (nT (zs (zn ?_)))
   obtain ⟨v,q,h⟩:=bindS h
   refine zD (Z67w hA q) ?_ { tk:=[17] }
   refine zF ?_ { tk:=[17] }
   refine nT (zr ?_)
   cases soI h
   exact zq

theorem Z101w {A:Ar} (hA:SA A) {g i j a b c e:List D} (h:Z101 A g i j=some (a,b,c,e)):ACall Tryz.prog 101 [zl 1 g,zl 1 i,zl 1 j] [] (.ptr 0 0) [.cells [zl 1 a,zl 1 b,zl 1 c,.gref 1 8,zi 0,zi 0,zi 0,zi 0,.gref 4 6,.gref 7 1],.gro 8 e,.dead,.dead,.gro 6 [],.dead,.dead,.gro 1 [],.dead,.dead]:=by
 unfold Z101 at h
 refine zI Tryz.func101 ?_
 refine zs ?_
 refine zA ?_
 refine nT (zs ?_)
 obtain ⟨_,k,h⟩:=bindS h
 have n:=ckI k
 obtain ⟨_,l,h⟩:=bindS h
 have o:=ckI l
 obtain ⟨_,m,h⟩:=bindS h
 have p:=ckI m
 refine zB ?_ { tk:=[14],esc:=[14],gr:=[12],nl:=[13] }
 refine nT ?_
 refine AWp.weak (Wk.settle 3 8 rfl rfl rfl) ?_
 refine AWp.weak (Wk.settle 3 9 rfl rfl rfl) ?_
 refine AWp.weak (Wk.ren [some 3,some 0,some 1,some 2,some 4,some 5,some 6,some 7,some 8,some 9] [6] rfl rfl) ?_
 refine zr ?_
 cases soI h
 exact zq

theorem Z103w {A:Ar} (hA:SA A) {r:Int} {e g i:List D} {j k l m:Int} {o b c:List D} {q:Bool} (h:Z103 A r e g i j k l m o b c=some q):ACall Tryz.prog 103 [.ptr 0 0,zi r] [.cells [zl 1 e,zl 1 g,zl 1 i,.gref 1 8,zi j,zi k,zi l,zi m,.gref 4 6,.gref 7 1],.gro 8 o,.dead,.dead,.gro 6 b,.dead,.dead,.gro 1 c,.dead,.dead] (.d (.bool q)) [.cells [zl 1 e,zl 1 g,zl 1 i,.gref 1 8,zi j,zi k,zi l,zi m,.gref 4 6,.gref 7 1],.gro 8 o,.dead,.dead,.gro 6 b,.dead,.dead,.gro 1 c,.dead,.dead]:=by
 unfold Z103 at h
 refine zI Tryz.func103 ?_
 refine zs ?_
 refine zA ?_
 refine nT (zs ?_)
 obtain ⟨C,a,h⟩:=bindS h
 refine AWp.cutW (fun τ=>τ={ env:=[(4,.d (.bool C))],heap:=[.cells [zl 1 e,zl 1 g,zl 1 i,.gref 1 8,zi j,zi k,zi l,zi m,.gref 4 6,.gref 7 1],.gro 8 o,.dead,.dead,.gro 6 b,.dead,.dead,.gro 1 c,.dead,.dead],n:=32 }) ?_ ?_
 ·skip
  obtain ⟨_,u,a⟩:=bindS a
  have O:=ckI u
  obtain ⟨_,v,a⟩:=bindS a
  have P:=ckI v
  obtain ⟨⟨E,F,s,G,J,K,L,M⟩,w,a⟩:=bindS a
  have Q:=gcI w
  rcases tf s with p | p
  ·replace a:=cT p a
   refine AWp.rd hT hA { tk:=[31] } rfl zu (by kernel_rfl) (lb rfl) ?_
   cases soI a
   exact oWi ⟨_,zR [some 0,some 1,some 2,some 3,some 4,some 5,some 6,some 7,some 8,some 9] [4],rfl⟩
  ·replace a:=cF p a
   obtain ⟨_,y,a⟩:=bindS a
   have R:=ckI y
   obtain ⟨_,z,a⟩:=bindS a
   have S:=ckI z
   obtain ⟨N,B,a⟩:=bindS a
   obtain ⟨U,V⟩:=gtI B
   refine AWp.rd hT hA { tk:=[31] } rfl zu (by kernel_rfl) (lb rfl) ?_
   cases soI a
   exact oWi ⟨_,zR [some 0,some 1,some 2,some 3,some 4,some 5,some 6,some 7,some 8,some 9] [4],rfl⟩
 ·rintro _ rfl
  refine nT (zr ?_)
  cases soI h
  exact zq

theorem Z104w {A:Ar} (hA:SA A) {m:Int} {r s o:List D} {c z B C:Int} {x9 q0 r0 d0 e0 g0:List D} {i0 j0 k0 l0:Int} {m0 n0 o0:List D} (h:Z104 A m r s o c z B C x9 q0 r0=some (d0,e0,g0,i0,j0,k0,l0,m0,n0,o0)):ACall Tryz.prog 104 [.ptr 0 0,zi m] [.cells [zl 1 r,zl 1 s,zl 1 o,.gref 1 8,zi c,zi z,zi B,zi C,.gref 4 6,.gref 7 1],.gro 8 x9,.dead,.dead,.gro 6 q0,.dead,.dead,.gro 1 r0,.dead,.dead] (.tuple []) [.cells [zl 1 d0,zl 1 e0,zl 1 g0,.gref 10 8,zi i0,zi j0,zi k0,zi l0,.gref 13 6,.gref 16 1],.dead,.dead,.dead,.dead,.dead,.dead,.dead,.dead,.dead,.gro 8 m0,.dead,.dead,.gro 6 n0,.dead,.dead,.gro 1 o0,.dead,.dead]:=by
 unfold Z104 at h
 refine zI Tryz.func104 ?_
 refine zs ?_
 obtain ⟨_,l1,h⟩:=bindS h
 have f14:=ckI l1
 obtain ⟨_,n1,h⟩:=bindS h
 have f15:=ckI n1
 refine zB ?_
 refine nT (zs ?_)
 refine zA ?_ { tk:=[20] }
 refine nT (zs ?_)
 refine zA ?_
 refine nT (zs (zs ?_))
 obtain ⟨⟨q6,s6,v0,d7,i7,q7,s7,u7⟩,z2,h⟩:=bindS h
 have f25:=gcI z2
 refine zB ?_
 refine nT ?_
 obtain ⟨⟨p0,b0,u⟩,l,h⟩:=bindS h
 refine AWp.cutW (fun τ=>τ={ env:=[(0,.ptr 0 0),(4,(.eptr 10 8 m 0)),(5,zi c)],heap:=[(.cells [zl 1 r,zl 1 s,zl 1 o,.gref 10 8,(.d (.int .i64 (A.wrp .i64 (A.zadd c 1)))),zi z,zi B,zi C,.gref 13 6,.gref 16 1]),.dead,.dead,.dead,.dead,.dead,.dead,.dead,.dead,.dead,.gro 8 p0,.dead,.dead,.gro 6 b0,.dead,.dead,.gro 1 u,.dead,.dead],n:=285 }) ?_ ?_
 ·skip
  rcases tf v0 with Q | Q
  ·replace l:=cT Q l
   refine zU ?_
   refine zk ?_
   cases soI l
   exact oWi ⟨_,zR [some 0,none,none,none,none,none,none,none,none,none,some 1,some 2,some 3,some 4,some 5,some 6,some 7,some 8,some 9] [0,4,5],rfl⟩
  ·replace l:=cF Q l
   refine zT ?_
   refine zs ?_
   refine AWp.rd hT hA { tk:=[45] } rfl zu (by kernel_rfl) (lb rfl) ?_
   refine nT (zs ?_)
   obtain ⟨v8,l3,l⟩:=bindS l
   obtain ⟨f29,f30⟩:=gtI l3
   obtain ⟨⟨e9,i9,q9,u9,v9,w9,y9,z9⟩,s3,l⟩:=bindS l
   have f40:=gcI s3
   obtain ⟨a41,u3,l⟩:=bindS l
   obtain ⟨f43,f44⟩:=gtI u3
   obtain ⟨l45,v3,l⟩:=bindS l
   obtain ⟨f47,f48⟩:=apI v3
   refine AWp.rd hT hA { tk:=[51,72] } rfl zu (by kernel_rfl) (lb rfl) ?_
   refine nT ?_
   refine AWp.weak (Wk.settle 0 8 rfl rfl rfl) ?_
   obtain ⟨l49,w3,l⟩:=bindS l
   obtain ⟨f51,f52⟩:=apI w3
   refine zB ?_ { tk:=[79,81] }
   cases soI l
   exact oWi ⟨_,(Wk.trans (Wk.settle 0 9 rfl rfl rfl) (zR [some 0,none,none,none,some 4,some 5,some 6,some 7,some 8,some 9,some 1,some 2,some 3,some 10,some 11,some 12,some 13,some 14,some 15] [0,4,5])),rfl⟩
 ·rintro _ rfl
  refine nT (zs ?_)
  obtain ⟨⟨y0,v,z0,a1,b1,c1,d1,e1⟩,y3,h⟩:=bindS h
  have f66:=gcI y3
  obtain ⟨_,z3,h⟩:=bindS h
  have f69:=ckI z3
  obtain ⟨_,a4,h⟩:=bindS h
  have f70:=ckI a4
  obtain ⟨⟨a71,a72,w,a74,a75,a76⟩,b4,h⟩:=bindS h
  have f78:=gcI b4
  refine AWp.rd hT hA {} rfl zu (by kernel_rfl) (lb rfl) ?_
  refine nT (zs ?_)
  refine zB ?_
  refine nT (zs ?_)
  obtain ⟨a79,c4,h⟩:=bindS h
  obtain ⟨f81,f82⟩:=gtI c4
  obtain ⟨⟨E,a84,a85,a86⟩,d4,h⟩:=bindS h
  obtain ⟨f88,f89⟩:=gtI d4
  refine zB ?_ { tk:=[108] }
  refine nT (zs ?_)
  refine zB ?_
  refine nT (zs ?_)
  refine zA ?_
  refine nT (zs (zs ?_))
  refine zA ?_
  refine nT (zb (zs ?_))
  refine zA ?_
  refine nT ?_
  obtain ⟨⟨V,W,X,Y,a0⟩,i,h⟩:=bindS h
  refine AWp.cutW (fun τ=>τ={ env:=[(0,.ptr 0 0),(4,(.eptr 10 8 m 0)),(5,zi c),(6,zi w),(7,zi v)],heap:=[(.cells [zl 1 r,zl 1 s,zl 1 o,.gref 10 8,(.d (.int .i64 (A.wrp .i64 (A.zadd c 1)))),zi V,zi W,zi X,.gref 13 6,.gref 16 1]),.dead,.dead,.dead,.dead,.dead,.dead,.dead,.dead,.dead,.gro 8 Y,.dead,.dead,.gro 6 a0,.dead,.dead,.gro 1 u,.dead,.dead],n:=285 }) ?_ ?_
  ·skip
   rcases tf (A.zeq E 1) with U | U
   ·replace i:=cT U i
    refine zT ?_
    obtain ⟨_,e4,i⟩:=bindS i
    have f93:=ckI e4
    obtain ⟨_,g4,i⟩:=bindS i
    have f94:=ckI g4
    obtain ⟨a95,i4,i⟩:=bindS i
    have f97:=gcI i4
    obtain ⟨_,j4,i⟩:=bindS i
    have f100:=ckI j4
    obtain ⟨_,k4,i⟩:=bindS i
    have f101:=ckI k4
    obtain ⟨⟨n5,o5,p5,q5,r5,s5,u5,v5⟩,g1,i⟩:=bindS i
    have f111:=gcI g1
    refine AWp.rd hT hA { tk:=[130],vx:=[129,132] } rfl zu (by kernel_rfl) (lb rfl) ?_
    cases soI i
    exact oWi ⟨_,zR [some 0,some 1,some 2,some 3,some 4,some 5,some 6,some 7,some 8,some 9,some 10,some 11,some 12,some 13,some 14,some 15,some 16,some 17,some 18] [0,4,5,6,7],rfl⟩
   ·replace i:=cF U i
    refine zU ?_
    refine zs ?_
    refine zB ?_
    refine nT ?_
    obtain ⟨⟨g5,i5,j5,k5,l5⟩,g,i⟩:=bindS i
    refine AWp.cutW (fun τ=>τ={ env:=[(0,.ptr 0 0),(4,(.eptr 10 8 m 0)),(5,zi c),(6,zi w),(7,zi v)],heap:=[(.cells [zl 1 r,zl 1 s,zl 1 o,.gref 10 8,(.d (.int .i64 (A.wrp .i64 (A.zadd c 1)))),zi g5,zi i5,zi j5,.gref 13 6,.gref 16 1]),.dead,.dead,.dead,.dead,.dead,.dead,.dead,.dead,.dead,.gro 8 k5,.dead,.dead,.gro 6 l5,.dead,.dead,.gro 1 u,.dead,.dead],n:=285 }) ?_ ?_
    ·skip
     rcases tf (A.zeq E 2) with G | G
     ·replace g:=cT G g
      refine zT ?_
      obtain ⟨_,i1,g⟩:=bindS g
      have f115:=ckI i1
      obtain ⟨_,j1,g⟩:=bindS g
      have f116:=ckI j1
      obtain ⟨⟨y5,z5,a6,b6,c6,d6,e6,g6⟩,m1,g⟩:=bindS g
      have f129:=gcI m1
      obtain ⟨w5,k1,g⟩:=bindS g
      have f119:=gcI k1
      obtain ⟨_,o1,g⟩:=bindS g
      have f132:=ckI o1
      obtain ⟨_,p1,g⟩:=bindS g
      have f133:=ckI p1
      refine AWp.rd hT hA { tk:=[143],vx:=[142,146] } rfl zu (by kernel_rfl) (lb rfl) ?_
      cases soI g
      exact oWi ⟨_,zR [some 0,some 1,some 2,some 3,some 4,some 5,some 6,some 7,some 8,some 9,some 10,some 11,some 12,some 13,some 14,some 15,some 16,some 17,some 18] [0,4,5,6,7],rfl⟩
     ·replace g:=cF G g
      refine zU ?_
      refine zs ?_
      refine zB ?_
      refine nT ?_
      obtain ⟨⟨a5,b5,c5,d5,e5⟩,e,g⟩:=bindS g
      refine AWp.cutW (fun τ=>τ={ env:=[(0,.ptr 0 0),(4,(.eptr 10 8 m 0)),(5,zi c),(6,zi w),(7,zi v)],heap:=[(.cells [zl 1 r,zl 1 s,zl 1 o,.gref 10 8,(.d (.int .i64 (A.wrp .i64 (A.zadd c 1)))),zi a5,zi b5,zi c5,.gref 13 6,.gref 16 1]),.dead,.dead,.dead,.dead,.dead,.dead,.dead,.dead,.dead,.gro 8 d5,.dead,.dead,.gro 6 e5,.dead,.dead,.gro 1 u,.dead,.dead],n:=285 }) ?_ ?_
      ·skip
       rcases tf (A.zeq E 3) with J | J
       ·replace e:=cT J e
        refine zT ?_
        refine zs ?_
        refine zB ?_
        refine nT (zs (zs ?_))
        obtain ⟨_,q1,e⟩:=bindS e
        have f137:=ckI q1
        obtain ⟨_,r1,e⟩:=bindS e
        have f138:=ckI r1
        obtain ⟨s0,s1,e⟩:=bindS e
        have f141:=gcI s1
        obtain ⟨_,u1,e⟩:=bindS e
        have f144:=ckI u1
        obtain ⟨_,v1,e⟩:=bindS e
        have f145:=ckI v1
        obtain ⟨⟨i6,j6,k6,l6,m6,n6,o6,p6⟩,y1,e⟩:=bindS e
        have f158:=gcI y1
        obtain ⟨u0,w1,e⟩:=bindS e
        have f148:=gcI w1
        refine AWp.rd hT hA { vx:=[154,160] } rfl zu (by kernel_rfl) (lb rfl) ?_
        refine nT ?_
        obtain ⟨⟨l4,m4,n4,o4⟩,k,e⟩:=bindS e
        refine AWp.cutW (fun τ=>τ={ env:=[(0,.ptr 0 0),(4,(.eptr 10 8 m 0)),(5,zi c),(6,zi w),(7,zi v),(9,(.eptr 10 8 m 4)),(10,zi l4)],heap:=[(.cells [zl 1 r,zl 1 s,zl 1 o,.gref 10 8,(.d (.int .i64 (A.wrp .i64 (A.zadd c 1)))),zi m4,zi n4,zi o4,.gref 13 6,.gref 16 1]),.dead,.dead,.dead,.dead,.dead,.dead,.dead,.dead,.dead,(.gro 8 (A.lset p0 (A.nat m) (.agg [.int .i64 y0,(.int .i64 (A.wrp .i64 (A.zadd v 1))),.bool z0,.int .i64 a1,.int .i64 b1,.int .i64 c1,.int .i64 d1,.int .i64 e1]))),.dead,.dead,.gro 6 b0,.dead,.dead,.gro 1 u,.dead,.dead],n:=285 }) ?_ ?_
        ·skip
         rcases tf (A.zeq s0 u0) with K | K
         ·replace k:=cT K k
          refine zT ?_
          refine zs ?_
          obtain ⟨_,z1,k⟩:=bindS k
          have f162:=ckI z1
          obtain ⟨_,a2,k⟩:=bindS k
          have f163:=ckI a2
          obtain ⟨r6,b2,k⟩:=bindS k
          have f166:=gcI b2
          obtain ⟨_,c2,k⟩:=bindS k
          have f169:=ckI c2
          obtain ⟨_,d2,k⟩:=bindS k
          have f170:=ckI d2
          refine AWp.rd hT hA { tk:=[171],vx:=[170,174] } rfl zu (by kernel_rfl) (lb rfl) ?_
          refine nT ?_
          refine zB ?_
          cases soI k
          exact oWi ⟨_,zR [some 0,some 1,some 2,some 3,some 4,some 5,some 6,some 7,some 8,some 9,some 10,some 11,some 12,some 13,some 14,some 15,some 16,some 17,some 18] [0,4,5,6,7,9,10],rfl⟩
         ·replace k:=cF K k
          refine zU ?_
          refine zk ?_
          cases soI k
          exact oWi ⟨_,zR [some 0,some 1,some 2,some 3,some 4,some 5,some 6,some 7,some 8,some 9,some 10,some 11,some 12,some 13,some 14,some 15,some 16,some 17,some 18] [0,4,5,6,7,9,10],rfl⟩
        ·rintro _ rfl
         refine nT ?_
         refine zB ?_ { tk:=[10,176] }
         cases soI e
         exact oWi ⟨_,zR [some 0,some 1,some 2,some 3,some 4,some 5,some 6,some 7,some 8,some 9,some 10,some 11,some 12,some 13,some 14,some 15,some 16,some 17,some 18] [0,4,5,6,7],rfl⟩
       ·replace e:=cF J e
        refine zU ?_
        refine zs ?_
        refine zB ?_
        refine nT ?_
        obtain ⟨⟨y4,z4⟩,p,e⟩:=bindS e
        refine AWp.cutW (fun τ=>τ={ env:=[(0,.ptr 0 0),(4,(.eptr 10 8 m 0)),(5,zi c),(6,zi w),(7,zi v)],heap:=[(.cells [zl 1 r,zl 1 s,zl 1 o,.gref 10 8,(.d (.int .i64 (A.wrp .i64 (A.zadd c 1)))),zi z,zi B,zi C,.gref 13 6,.gref 16 1]),.dead,.dead,.dead,.dead,.dead,.dead,.dead,.dead,.dead,.gro 8 y4,.dead,.dead,.gro 6 z4,.dead,.dead,.gro 1 u,.dead,.dead],n:=285 }) ?_ ?_
        ·skip
         rcases tf (A.zeq E 4) with L | L
         ·replace p:=cT L p
          refine zT ?_
          obtain ⟨_,e2,p⟩:=bindS p
          have f179:=ckI e2
          obtain ⟨_,g2,p⟩:=bindS p
          have f180:=ckI g2
          obtain ⟨⟨u6,v6,w6,y6,z6,a7,b7,c7⟩,i2,p⟩:=bindS p
          have f190:=gcI i2
          refine AWp.rd hT hA { tk:=[185],vx:=[187] } rfl zu (by kernel_rfl) (lb rfl) ?_
          cases soI p
          exact oWi ⟨_,zR [some 0,some 1,some 2,some 3,some 4,some 5,some 6,some 7,some 8,some 9,some 10,some 11,some 12,some 13,some 14,some 15,some 16,some 17,some 18] [0,4,5,6,7],rfl⟩
         ·replace p:=cF L p
          refine zU ?_
          refine zs ?_
          refine zB ?_
          refine nT ?_
          obtain ⟨⟨v4,w4⟩,a,p⟩:=bindS p
          refine AWp.cutW (fun τ=>τ={ env:=[(0,.ptr 0 0),(4,(.eptr 10 8 m 0)),(5,zi c),(6,zi w),(7,zi v)],heap:=[(.cells [zl 1 r,zl 1 s,zl 1 o,.gref 10 8,(.d (.int .i64 (A.wrp .i64 (A.zadd c 1)))),zi z,zi B,zi C,.gref 13 6,.gref 16 1]),.dead,.dead,.dead,.dead,.dead,.dead,.dead,.dead,.dead,.gro 8 v4,.dead,.dead,.gro 6 w4,.dead,.dead,.gro 1 u,.dead,.dead],n:=285 }) ?_ ?_
          ·skip
           rcases tf (A.zeq E 5) with M | M
           ·replace a:=cT M a
            refine zT ?_
            obtain ⟨_,j2,a⟩:=bindS a
            have f194:=ckI j2
            obtain ⟨_,k2,a⟩:=bindS a
            have f195:=ckI k2
            obtain ⟨⟨g7,j7,k7,l7,m7,n7,o7,p7⟩,m2,a⟩:=bindS a
            have f208:=gcI m2
            obtain ⟨e7,l2,a⟩:=bindS a
            have f198:=gcI l2
            obtain ⟨_,n2,a⟩:=bindS a
            have f211:=ckI n2
            obtain ⟨_,o2,a⟩:=bindS a
            have f212:=ckI o2
            obtain ⟨r7,p2,a⟩:=bindS a
            have f215:=gcI p2
            obtain ⟨_,q2,a⟩:=bindS a
            have f217:=nkI q2
            obtain ⟨_,r2,a⟩:=bindS a
            have f220:=ckI r2
            obtain ⟨_,s2,a⟩:=bindS a
            have f221:=ckI s2
            refine AWp.rd hT hA { tk:=[206],vx:=[197,203,208] } rfl zu (by kernel_rfl) (lb rfl) ?_
            cases soI a
            exact oWi ⟨_,zR [some 0,some 1,some 2,some 3,some 4,some 5,some 6,some 7,some 8,some 9,some 10,some 11,some 12,some 13,some 14,some 15,some 16,some 17,some 18] [0,4,5,6,7],rfl⟩
           ·replace a:=cF M a
            refine zU ?_
            refine zs ?_
            refine zB ?_
            refine nT ?_
            obtain ⟨⟨s4,u4⟩,j,a⟩:=bindS a
            refine AWp.cutW (fun τ=>τ={ env:=[(0,.ptr 0 0),(4,(.eptr 10 8 m 0)),(5,zi c),(6,zi w),(7,zi v)],heap:=[(.cells [zl 1 r,zl 1 s,zl 1 o,.gref 10 8,(.d (.int .i64 (A.wrp .i64 (A.zadd c 1)))),zi z,zi B,zi C,.gref 13 6,.gref 16 1]),.dead,.dead,.dead,.dead,.dead,.dead,.dead,.dead,.dead,.gro 8 s4,.dead,.dead,.gro 6 u4,.dead,.dead,.gro 1 u,.dead,.dead],n:=285 }) ?_ ?_
            ·skip
             rcases tf (A.zeq E 6) with N | N
             ·replace j:=cT N j
              refine zT ?_
              refine zs ?_
              obtain ⟨_,u2,j⟩:=bindS j
              have f225:=ckI u2
              obtain ⟨_,v2,j⟩:=bindS j
              have f226:=ckI v2
              obtain ⟨⟨v7,w7,y7,z7,a8,b8,c8,d8⟩,y2,j⟩:=bindS j
              have f239:=gcI y2
              obtain ⟨w0,w2,j⟩:=bindS j
              have f229:=gcI w2
              refine AWp.rd hT hA { vx:=[215] } rfl zu (by kernel_rfl) (lb rfl) ?_
              refine nT ?_
              obtain ⟨p4,F,j⟩:=bindS j
              refine AWp.cutW (fun τ=>τ={ env:=[(0,.ptr 0 0),(4,(.eptr 10 8 m 0)),(5,zi c),(6,zi w),(7,zi v)],heap:=[(.cells [zl 1 r,zl 1 s,zl 1 o,.gref 10 8,(.d (.int .i64 (A.wrp .i64 (A.zadd c 1)))),zi z,zi B,zi C,.gref 13 6,.gref 16 1]),.dead,.dead,.dead,.dead,.dead,.dead,.dead,.dead,.dead,.gro 8 p4,.dead,.dead,.gro 6 b0,.dead,.dead,.gro 1 u,.dead,.dead],n:=285 }) ?_ ?_
              ·skip
               rcases tf (A.zeq w0 0) with O | O
               ·replace F:=cT O F
                refine zT ?_
                refine zB ?_
                cases soI F
                exact oWi ⟨_,zR [some 0,some 1,some 2,some 3,some 4,some 5,some 6,some 7,some 8,some 9,some 10,some 11,some 12,some 13,some 14,some 15,some 16,some 17,some 18] [0,4,5,6,7],rfl⟩
               ·replace F:=cF O F
                refine zU ?_
                refine zk ?_
                cases soI F
                exact oWi ⟨_,zR [some 0,some 1,some 2,some 3,some 4,some 5,some 6,some 7,some 8,some 9,some 10,some 11,some 12,some 13,some 14,some 15,some 16,some 17,some 18] [0,4,5,6,7],rfl⟩
              ·rintro _ rfl
               cases soI j
               exact oWi ⟨_,zR [some 0,some 1,some 2,some 3,some 4,some 5,some 6,some 7,some 8,some 9,some 10,some 11,some 12,some 13,some 14,some 15,some 16,some 17,some 18] [0,4,5,6,7],rfl⟩
             ·replace j:=cF N j
              refine zU ?_
              refine zs ?_
              refine zB ?_
              refine nT ?_
              obtain ⟨⟨q4,r4⟩,b,j⟩:=bindS j
              refine AWp.cutW (fun τ=>τ={ env:=[(0,.ptr 0 0),(4,(.eptr 10 8 m 0)),(5,zi c),(6,zi w),(7,zi v)],heap:=[(.cells [zl 1 r,zl 1 s,zl 1 o,.gref 10 8,(.d (.int .i64 (A.wrp .i64 (A.zadd c 1)))),zi z,zi B,zi C,.gref 13 6,.gref 16 1]),.dead,.dead,.dead,.dead,.dead,.dead,.dead,.dead,.dead,.gro 8 q4,.dead,.dead,.gro 6 r4,.dead,.dead,.gro 1 u,.dead,.dead],n:=285 }) ?_ ?_
              ·skip
               rcases tf (A.zeq E 7) with P | P
               ·replace b:=cT P b
                refine zT ?_
                refine zs ?_
                obtain ⟨⟨e8,g8,i8,j8,k8,l8,m8,n8⟩,a3,b⟩:=bindS b
                have f253:=gcI a3
                obtain ⟨_,b3,b⟩:=bindS b
                have f256:=ckI b3
                obtain ⟨_,c3,b⟩:=bindS b
                have f257:=ckI c3
                obtain ⟨⟨o8,p8,q8,r8,s8,u8⟩,d3,b⟩:=bindS b
                have f265:=gcI d3
                refine AWp.rd hT hA {} rfl zu (by kernel_rfl) (lb rfl) ?_
                refine nT (zs ?_)
                obtain ⟨_,e3,b⟩:=bindS b
                have f268:=ckI e3
                obtain ⟨_,g3,b⟩:=bindS b
                have f269:=ckI g3
                obtain ⟨w8,i3,b⟩:=bindS b
                have f272:=gcI i3
                obtain ⟨_,j3,b⟩:=bindS b
                have f275:=ckI j3
                obtain ⟨_,k3,b⟩:=bindS b
                have f276:=ckI k3
                obtain ⟨⟨y8,z8,a9,b9,c9,d9⟩,m3,b⟩:=bindS b
                have f284:=gcI m3
                refine AWp.rd hT hA { vx:=[250] } rfl zu (by kernel_rfl) (lb rfl) ?_
                refine nT ?_
                refine zB ?_
                cases soI b
                exact oWi ⟨_,zR [some 0,some 1,some 2,some 3,some 4,some 5,some 6,some 7,some 8,some 9,some 10,some 11,some 12,some 13,some 14,some 15,some 16,some 17,some 18] [0,4,5,6,7],rfl⟩
               ·replace b:=cF P b
                refine zU ?_
                refine zk ?_
                cases soI b
                exact oWi ⟨_,zR [some 0,some 1,some 2,some 3,some 4,some 5,some 6,some 7,some 8,some 9,some 10,some 11,some 12,some 13,some 14,some 15,some 16,some 17,some 18] [0,4,5,6,7],rfl⟩
              ·rintro _ rfl
               cases soI j
               exact oWi ⟨_,zR [some 0,some 1,some 2,some 3,some 4,some 5,some 6,some 7,some 8,some 9,some 10,some 11,some 12,some 13,some 14,some 15,some 16,some 17,some 18] [0,4,5,6,7],rfl⟩
            ·rintro _ rfl
             cases soI a
             exact oWi ⟨_,zR [some 0,some 1,some 2,some 3,some 4,some 5,some 6,some 7,some 8,some 9,some 10,some 11,some 12,some 13,some 14,some 15,some 16,some 17,some 18] [0,4,5,6,7],rfl⟩
          ·rintro _ rfl
           cases soI p
           exact oWi ⟨_,zR [some 0,some 1,some 2,some 3,some 4,some 5,some 6,some 7,some 8,some 9,some 10,some 11,some 12,some 13,some 14,some 15,some 16,some 17,some 18] [0,4,5,6,7],rfl⟩
        ·rintro _ rfl
         cases soI e
         exact oWi ⟨_,zR [some 0,some 1,some 2,some 3,some 4,some 5,some 6,some 7,some 8,some 9,some 10,some 11,some 12,some 13,some 14,some 15,some 16,some 17,some 18] [0,4,5,6,7],rfl⟩
      ·rintro _ rfl
       cases soI g
       exact oWi ⟨_,zR [some 0,some 1,some 2,some 3,some 4,some 5,some 6,some 7,some 8,some 9,some 10,some 11,some 12,some 13,some 14,some 15,some 16,some 17,some 18] [0,4,5,6,7],rfl⟩
    ·rintro _ rfl
     cases soI i
     exact oWi ⟨_,zR [some 0,some 1,some 2,some 3,some 4,some 5,some 6,some 7,some 8,some 9,some 10,some 11,some 12,some 13,some 14,some 15,some 16,some 17,some 18] [0,4,5,6,7],rfl⟩
  ·rintro _ rfl
   refine nB (nT (zs ?_))
   obtain ⟨c0,y,h⟩:=bindS h
   refine AWp.cutW (fun τ=>τ={ env:=[(0,.ptr 0 0),(4,(.eptr 10 8 m 0)),(5,zi c),(274,.d (.bool c0))],heap:=[(.cells [zl 1 r,zl 1 s,zl 1 o,.gref 10 8,(.d (.int .i64 (A.wrp .i64 (A.zadd c 1)))),zi V,zi W,zi X,.gref 13 6,.gref 16 1]),.dead,.dead,.dead,.dead,.dead,.dead,.dead,.dead,.dead,.gro 8 Y,.dead,.dead,.gro 6 a0,.dead,.dead,.gro 1 u,.dead,.dead],n:=285 }) ?_ ?_
   ·skip
    rcases tf (A.zlt w (A.len o)) with R | R
    ·replace y:=cT R y
     obtain ⟨g9,n3,y⟩:=bindS y
     obtain ⟨f318,f319⟩:=gtI n3
     refine zB ?_
     cases soI y
     exact oWi ⟨_,zR [some 0,some 1,some 2,some 3,some 4,some 5,some 6,some 7,some 8,some 9,some 10,some 11,some 12,some 13,some 14,some 15,some 16,some 17,some 18] [0,4,5,274],rfl⟩
    ·replace y:=cF R y
     refine zB ?_
     cases soI y
     exact oWi ⟨_,zR [some 0,some 1,some 2,some 3,some 4,some 5,some 6,some 7,some 8,some 9,some 10,some 11,some 12,some 13,some 14,some 15,some 16,some 17,some 18] [0,4,5,274],rfl⟩
   ·rintro _ rfl
    refine nT ?_
    obtain ⟨m5,q,h⟩:=bindS h
    refine AWp.cutW (fun τ=>τ={ env:=[],heap:=[(.cells [zl 1 r,zl 1 s,zl 1 o,.gref 10 8,(.d (.int .i64 (A.wrp .i64 (A.zadd c 1)))),zi V,zi W,zi X,.gref 13 6,.gref 16 1]),.dead,.dead,.dead,.dead,.dead,.dead,.dead,.dead,.dead,.gro 8 Y,.dead,.dead,.gro 6 a0,.dead,.dead,.gro 1 m5,.dead,.dead],n:=285 }) ?_ ?_
    ·skip
     rcases tf c0 with S | S
     ·replace q:=cT S q
      refine zT ?_
      obtain ⟨⟨j9,k9,l9,m9,n9,o9,p9,r9⟩,o3,q⟩:=bindS q
      have f332:=gcI o3
      obtain ⟨_,p3,q⟩:=bindS q
      have f335:=ckI p3
      obtain ⟨_,q3,q⟩:=bindS q
      have f336:=ckI q3
      obtain ⟨s9,r3,q⟩:=bindS q
      have f339:=gcI r3
      refine AWp.rd hT hA { tk:=[5,283] } rfl zu (by kernel_rfl) (lb rfl) ?_
      cases soI q
      exact oWi ⟨_,zR [some 0,some 1,some 2,some 3,some 4,some 5,some 6,some 7,some 8,some 9,some 10,some 11,some 12,some 13,some 14,some 15,some 16,some 17,some 18] [],rfl⟩
     ·replace q:=cF S q
      refine zU ?_
      refine zk ?_
      cases soI q
      exact oWi ⟨_,zR [some 0,some 1,some 2,some 3,some 4,some 5,some 6,some 7,some 8,some 9,some 10,some 11,some 12,some 13,some 14,some 15,some 16,some 17,some 18] [],rfl⟩
    ·rintro _ rfl
     cases soI h
     exact zq

theorem Z70wa {A:Ar} (hA:SA A) {Q i e R:List D} (h:Z70 A Q i e R=some (.inl ())):ACall Tryz.prog 70 [zl 1 Q,zl 1 i,zl 1 e,zl 1 R] [] .nilptr []:=by
 unfold Z70 at h
 refine zI Tryz.func70 ?_
 refine zs ?_
 refine zA ?_
 refine nT (zs (zs ?_))
 refine zA ?_
 refine nT ?_
 rcases tf (A.zlt 12 (A.len e)) with j | j
 ·replace h:=cT j h
  refine zT ?_
  refine zs ?_
  refine zB ?_
  refine nT (zr (rT ?_))
  cases soI h
  exact zq
 ·replace h:=cF j h
  refine zU ?_
  refine zk (nT (zs (zn ?_)))
  obtain ⟨⟨r7,r8,r9,m0⟩,X,h⟩:=bindS h
  refine zD (Z101w hA X) ?_ { tk:=[17] }
  refine zF ?_ { tk:=[17] }
  refine nT (zs (zs ?_))
  refine zB ?_
  refine nT (zb ?_)
  obtain ⟨a1,b0,S,O,c⟩:=bindK h
  refine AWp.cutXW 0 (fun τ => ∃ B C E F G J K L M N,S (.inl (B,C,E,F,G,J,K,L,M,N))=some (.inl ())∧τ={ env:=[(9,.ptr 0 0)],heap:=[.cells [zl 1 B,zl 1 C,zl 1 E,.gref 1 8,zi F,zi G,zi J,zi K,.gref 4 6,.gref 7 1],.gro 8 L,.dead,.dead,.gro 6 M,.dead,.dead,.gro 1 N,.dead,.dead],n:=49 }) ?_ ?_
  ·skip
   refine AWp.iterW b0 (fun (g,o,p,q,r,s,u,v,w,y,z)=>{ env:=[(1,zl 1 i),(2,zl 1 e),(9,.ptr 0 0),(10,zi g)],heap:=[.cells [zl 1 o,zl 1 p,zl 1 q,.gref 1 8,zi r,zi s,zi u,zi v,.gref 4 6,.gref 7 1],.gro 8 w,.dead,.dead,.gro 6 y,.dead,.dead,.gro 1 z,.dead,.dead],n:=49 }) ⟨_,zR [some 0,some 1,some 2,some 3,some 4,some 5,some 6,some 7,some 8,some 9] [1,2,9,10],rfl⟩ ?_
   rintro ⟨g,o,p,q,r,s,u,v,w,y,z⟩ g0 a
   dsimp only [Z70L0] at a
   refine zs (zs ?_)
   refine zA ?_
   refine nT ?_
   rcases tf (A.zlt g (A.len e)) with k | k
   ·replace a:=cT k a
    refine zT ?_
    refine zk (nT (zs (zb (zs (zs ?_)))))
    obtain ⟨P,b,a⟩:=bindS a
    refine AWp.cutW (fun τ=>τ={ env:=[(1,zl 1 i),(2,zl 1 e),(9,.ptr 0 0),(10,zi g),(41,.d (.bool P))],heap:=[.cells [zl 1 o,zl 1 p,zl 1 q,.gref 1 8,zi r,zi s,zi u,zi v,.gref 4 6,.gref 7 1],.gro 8 w,.dead,.dead,.gro 6 y,.dead,.dead,.gro 1 z,.dead,.dead],n:=49 }) ?_ ?_
    ·skip
     refine zn ?_
     obtain ⟨d0,U,b⟩:=bindS b
     obtain ⟨i0,j0⟩:=gtI U
     obtain ⟨c0,V,b⟩:=bindS b
     refine zD (Z77w hA V) ?_
     rcases tf c0 with l | l
     ·replace b:=cT l b
      obtain ⟨n0,W,b⟩:=bindS b
      refine zD (Z103w hA W) ?_
      refine zF ?_
      cases soI b
      exact oWi ⟨_,zR [some 0,some 1,some 2,some 3,some 4,some 5,some 6,some 7,some 8,some 9] [1,2,9,10,41],rfl⟩
     ·replace b:=cF l b
      refine zF ?_
      cases soI b
      exact oWi ⟨_,zR [some 0,some 1,some 2,some 3,some 4,some 5,some 6,some 7,some 8,some 9] [1,2,9,10,41],rfl⟩
    ·rintro _ rfl
     refine nT ?_
     rcases tf P with m | m
     ·replace a:=cT m a
      refine zT ?_
      refine zs ?_
      refine zB ?_
      refine nT ?_
      refine AWp.weak (Wk.ren [] [8] rfl rfl) ?_
      refine zr (rT (rB (rT (rT ?_))))
      refine exL a fun hx => ?_
      subst hx
      refine oxWR ?_
      replace c:=(eR (O _ c))
      refine rB (rT ?_)
      cases soI c
      exact zq
     ·replace a:=cF m a
      refine zU ?_
      refine zk (nT (zn ?_))
      obtain ⟨e0,Y,a⟩:=bindS a
      obtain ⟨k0,l0⟩:=gtI Y
      obtain ⟨⟨o0,p0,q0,r0,s0,u0,v0,w0,y0,z0⟩,a0,a⟩:=bindS a
      refine zD (Z104w hA a0) ?_
      refine zF ?_
      refine nB (nT ?_)
      refine zB ?_
      exact nT ⟨_,(soI a).symm,_,zR [some 0,some 10,some 11,some 12,some 13,some 14,some 15,some 16,some 17,some 18] [1,2,9,10],rfl⟩
   ·replace a:=cF k a
    refine zU ?_
    refine AWp.exit (xT (xT ?_))
    refine exL a fun hx => ?_
    subst hx
    exact oxWI ⟨_,zR [some 0,some 1,some 2,some 3,some 4,some 5,some 6,some 7,some 8,some 9] [9],_,_,_,_,_,_,_,_,_,_,c,rfl⟩
  ·rintro _ ⟨B,C,E,F,G,J,K,L,M,N,c,rfl⟩
   have h:=(eL (O _ c))
   refine xB (nT (zs ?_))
   refine zA ?_ { tk:=[9,48] }
   refine nT (zr ?_)
   cases soI h

theorem Z70wb {A:Ar} (hA:SA A) {x1 i e x4 O P Q:List D} {R S U V:Int} {W X Y:List D} (h:Z70 A x1 i e x4=some (.inr (O,P,Q,R,S,U,V,W,X,Y))):ACall Tryz.prog 70 [zl 1 x1,zl 1 i,zl 1 e,zl 1 x4] [] (.ptr 0 0) [.cells [zl 1 O,zl 1 P,zl 1 Q,.gref 1 8,zi R,zi S,zi U,zi V,.gref 4 6,.gref 7 1],.gro 8 W,.dead,.dead,.gro 6 X,.dead,.dead,.gro 1 Y,.dead,.dead]:=by
 unfold Z70 at h
 refine zI Tryz.func70 ?_
 refine zs ?_
 refine zA ?_
 refine nT (zs (zs ?_))
 refine zA ?_
 refine nT ?_
 rcases tf (A.zlt 12 (A.len e)) with j | j
 ·replace h:=cT j h
  refine zT ?_
  refine zs ?_
  refine zB ?_
  refine nT (zr (rT ?_))
  cases soI h
 ·replace h:=cF j h
  refine zU ?_
  refine zk (nT (zs (zn ?_)))
  obtain ⟨⟨r7,r8,r9,u0⟩,e6,h⟩:=bindS h
  refine zD (Z101w hA e6) ?_ { tk:=[17] }
  refine zF ?_ { tk:=[17] }
  refine nT (zs (zs ?_))
  refine zB ?_
  refine nT (zb ?_)
  obtain ⟨j1,k0,c0,a0,c⟩:=bindK h
  refine AWp.cutXW 0 (fun τ => ∃ B C E F G J K L M N,c0 (.inl (B,C,E,F,G,J,K,L,M,N))=some (.inr (O,P,Q,R,S,U,V,W,X,Y))∧τ={ env:=[(9,.ptr 0 0)],heap:=[.cells [zl 1 B,zl 1 C,zl 1 E,.gref 1 8,zi F,zi G,zi J,zi K,.gref 4 6,.gref 7 1],.gro 8 L,.dead,.dead,.gro 6 M,.dead,.dead,.gro 1 N,.dead,.dead],n:=49 }) ?_ ?_
  ·skip
   refine AWp.iterW k0 (fun (g,o,p,q,r,s,u,v,w,y,z)=>{ env:=[(1,zl 1 i),(2,zl 1 e),(9,.ptr 0 0),(10,zi g)],heap:=[.cells [zl 1 o,zl 1 p,zl 1 q,.gref 1 8,zi r,zi s,zi u,zi v,.gref 4 6,.gref 7 1],.gro 8 w,.dead,.dead,.gro 6 y,.dead,.dead,.gro 1 z,.dead,.dead],n:=49 }) ⟨_,zR [some 0,some 1,some 2,some 3,some 4,some 5,some 6,some 7,some 8,some 9] [1,2,9,10],rfl⟩ ?_
   rintro ⟨g,o,p,q,r,s,u,v,w,y,z⟩ o0 a
   dsimp only [Z70L0] at a
   refine zs (zs ?_)
   refine zA ?_
   refine nT ?_
   rcases tf (A.zlt g (A.len e)) with k | k
   ·replace a:=cT k a
    refine zT ?_
    refine zk (nT (zs (zb (zs (zs ?_)))))
    obtain ⟨b0,b,a⟩:=bindS a
    refine AWp.cutW (fun τ=>τ={ env:=[(1,zl 1 i),(2,zl 1 e),(9,.ptr 0 0),(10,zi g),(41,.d (.bool b0))],heap:=[.cells [zl 1 o,zl 1 p,zl 1 q,.gref 1 8,zi r,zi s,zi u,zi v,.gref 4 6,.gref 7 1],.gro 8 w,.dead,.dead,.gro 6 y,.dead,.dead,.gro 1 z,.dead,.dead],n:=49 }) ?_ ?_
    ·skip
     refine zn ?_
     obtain ⟨m0,d0,b⟩:=bindS b
     obtain ⟨p0,q0⟩:=gtI d0
     obtain ⟨l0,e0,b⟩:=bindS b
     refine zD (Z77w hA e0) ?_
     rcases tf l0 with l | l
     ·replace b:=cT l b
      obtain ⟨v0,g0,b⟩:=bindS b
      refine zD (Z103w hA g0) ?_
      refine zF ?_
      cases soI b
      exact oWi ⟨_,zR [some 0,some 1,some 2,some 3,some 4,some 5,some 6,some 7,some 8,some 9] [1,2,9,10,41],rfl⟩
     ·replace b:=cF l b
      refine zF ?_
      cases soI b
      exact oWi ⟨_,zR [some 0,some 1,some 2,some 3,some 4,some 5,some 6,some 7,some 8,some 9] [1,2,9,10,41],rfl⟩
    ·rintro _ rfl
     refine nT ?_
     rcases tf b0 with m | m
     ·replace a:=cT m a
      refine zT ?_
      refine zs ?_
      refine zB ?_
      refine nT ?_
      refine AWp.weak (Wk.ren [] [8] rfl rfl) ?_
      refine zr (rT (rB (rT (rT ?_))))
      refine exL a fun hx => ?_
      subst hx
      refine oxWR ?_
      replace c:=(eR (a0 _ c))
      refine rB (rT ?_)
      cases soI c
     ·replace a:=cF m a
      refine zU ?_
      refine zk (nT (zn ?_))
      obtain ⟨n0,i0,a⟩:=bindS a
      obtain ⟨r0,s0⟩:=gtI i0
      obtain ⟨⟨w0,y0,z0,a1,b1,c1,d1,e1,g1,i1⟩,j0,a⟩:=bindS a
      refine zD (Z104w hA j0) ?_
      refine zF ?_
      refine nB (nT ?_)
      refine zB ?_
      exact nT ⟨_,(soI a).symm,_,zR [some 0,some 10,some 11,some 12,some 13,some 14,some 15,some 16,some 17,some 18] [1,2,9,10],rfl⟩
   ·replace a:=cF k a
    refine zU ?_
    refine AWp.exit (xT (xT ?_))
    refine exL a fun hx => ?_
    subst hx
    exact oxWI ⟨_,zR [some 0,some 1,some 2,some 3,some 4,some 5,some 6,some 7,some 8,some 9] [9],_,_,_,_,_,_,_,_,_,_,c,rfl⟩
  ·rintro _ ⟨B,C,E,F,G,J,K,L,M,N,c,rfl⟩
   have h:=(eL (a0 _ c))
   refine xB (nT (zs ?_))
   refine zA ?_ { tk:=[9,48] }
   refine nT (zr ?_)
   cases soI h
   exact zq

theorem Z68wa {A:Ar} (hA:SA A) {e g i:List D} {c:Int} (h:Z68 A e g i=some (.inl c)):ACall Tryz.prog 68 [zl 1 e,zl 1 g,zl 1 i] [] (.tuple [.nilptr,zi c]) []:=by
 unfold Z68 at h
 refine zI Tryz.func68 ?_
 refine zs ?_
 refine zA ?_
 refine nT (zs (zn ?_))
 obtain ⟨l,j,h⟩:=bindS h
 refine zC (Z67w hA j) ?_
 refine zE ?_
 refine nT (zs (zs ?_))
 refine zA ?_
 refine nT ?_
 rcases tf (A.zeq l 0) with a | a
 ·replace h:=cT a h
  refine zU ?_
  refine zk (nT (zs (zn ?_)))
  obtain ⟨k,b,h⟩:=bindS h
  rcases k with _ | ⟨v,w,m,n,o,p,q,r,s,u⟩
  ·replace h:=(eL h)
   refine zD (Z70wa hA b) ?_
   refine zF ?_
   refine nT (zs (zs ?_))
   refine zB ?_
   refine nT ?_
   refine zT ?_
   refine zs ?_
   refine zB ?_
   refine nT (zr (rT ?_))
   cases soI h
   exact zq
  ·replace h:=(eR h)
   refine zD (Z70wb hA b) ?_
   refine zF ?_
   refine nT (zs (zs ?_))
   refine zB ?_
   refine nT ?_
   refine zU ?_
   refine zk (nT (zs ?_))
   refine zB ?_
   refine nT (zr ?_)
   cases soI h
 ·replace h:=cF a h
  refine zT ?_
  refine zs ?_
  refine zB ?_
  refine nT (zr (rT ?_))
  cases soI h
  exact zq

theorem Z68wb {A:Ar} (hA:SA A) {p q r c e g:List D} {i j k l:Int} {m n o:List D} (h:Z68 A p q r=some (.inr (c,e,g,i,j,k,l,m,n,o))):ACall Tryz.prog 68 [zl 1 p,zl 1 q,zl 1 r] [] (.tuple [.ptr 0 0,zi 0]) [.cells [zl 1 c,zl 1 e,zl 1 g,.gref 1 8,zi i,zi j,zi k,zi l,.gref 4 6,.gref 7 1],.gro 8 m,.dead,.dead,.gro 6 n,.dead,.dead,.gro 1 o,.dead,.dead]:=by
 unfold Z68 at h
 refine zI Tryz.func68 ?_
 refine zs ?_
 refine zA ?_
 refine nT (zs (zn ?_))
 obtain ⟨v,s,h⟩:=bindS h
 refine zC (Z67w hA s) ?_
 refine zE ?_
 refine nT (zs (zs ?_))
 refine zA ?_
 refine nT ?_
 rcases tf (A.zeq v 0) with a | a
 ·replace h:=cT a h
  refine zU ?_
  refine zk (nT (zs (zn ?_)))
  obtain ⟨u,b,h⟩:=bindS h
  rcases u with _ | ⟨J,K,w,y,z,B,C,E,F,G⟩
  ·replace h:=(eL h)
   refine zD (Z70wa hA b) ?_
   refine zF ?_
   refine nT (zs (zs ?_))
   refine zB ?_
   refine nT ?_
   refine zT ?_
   refine zs ?_
   refine zB ?_
   refine nT (zr (rT ?_))
   cases soI h
  ·replace h:=(eR h)
   refine zD (Z70wb hA b) ?_
   refine zF ?_
   refine nT (zs (zs ?_))
   refine zB ?_
   refine nT ?_
   refine zU ?_
   refine zk (nT (zs ?_))
   refine zB ?_
   refine nT (zr ?_)
   cases soI h
   exact zq
 ·replace h:=cF a h
  refine zT ?_
  refine zs ?_
  refine zB ?_
  refine nT (zr (rT ?_))
  cases soI h

theorem Z90w {A:Ar} (hA:SA A) {c e i:Int} {g:Bool} (h:Z90 A c e i=some g):ACall Tryz.prog 90 [zi c,zi e,zi i] [] (.d (.bool g)) []:=by
 unfold Z90 at h
 refine zI Tryz.func90 ?_
 refine zs ?_
 refine zA ?_
 refine nT (zs ?_)
 obtain ⟨j,a,h⟩:=bindS h
 refine AWp.cutN [6] [] 0 (lb rfl) (fun τ=>τ={ env:=[(6,.d (.bool j))],heap:=[],n:=15 }) ?_ ?_
 ·skip
  rcases tf (A.zle c e) with b | b
  ·replace a:=cT b a
   refine zB ?_ { tk:=[14] }
   cases soI a
   exact zO
  ·replace a:=cF b a
   refine zB ?_ { tk:=[14] }
   cases soI a
   exact zO
 ·rintro _ rfl
  refine nT (zr ?_)
  cases soI h
  exact zq

theorem Z48w {A:Ar} (hA:SA A) {c:List D} {j:Bool} (h:Z48 A c=some j):ACall Tryz.prog 48 [zl 4 c] [] (.d (.bool j)) []:=by
 unfold Z48 at h
 refine zI Tryz.func48 ?_
 refine zs ?_
 refine zA ?_
 refine nT (zs (zs ?_))
 refine zA ?_
 refine nT (zb ?_)
 obtain ⟨E,q,l,k,b⟩:=bindK h
 refine AWp.cutX 0 [0] [] 0 (lb rfl) (fun τ=>l (.inl ())=some j∧τ={ env:=[(0,zl 4 c)],heap:=[],n:=19 }) ?_ ?_
 ·skip
  refine AWp.iter q [0,3] [] 0 (lb rfl) (fun i=>{ env:=[(0,zl 4 c),(3,zi i)],heap:=[],n:=19 }) ⟨rfl,zc⟩ ?_
  rintro i y a
  dsimp only [Z48L0] at a
  refine zs (zs ?_)
  refine zA ?_
  refine nT ?_
  rcases tf (A.zlt i (A.len c)) with e | e
  ·replace a:=cT e a
   refine zT ?_
   refine zk (nT (zs (zb (zs (zn ?_)))))
   obtain ⟨⟨s,u,v,w⟩,m,a⟩:=bindS a
   obtain ⟨z,B⟩:=gtI m
   obtain ⟨r,o,a⟩:=bindS a
   refine zD (Z31w hA o) ?_
   refine zF ?_
   refine nT ?_
   rcases tf r with g | g
   ·replace a:=cT g a
    refine zU ?_
    refine zk (nB (nT ?_))
    refine zB ?_
    exact nT ⟨_,(soI a).symm,rfl,zv⟩
   ·replace a:=cF g a
    refine zT ?_
    refine zs ?_
    refine zB ?_
    refine nT (zr (rB (rT (rT ?_))))
    refine exL a fun hx => ?_
    subst hx
    refine oxR ?_
    replace b:=(eR (k _ b))
    refine rB (rT ?_)
    cases soI b
    exact zq
  ·replace a:=cF e a
   refine zU ?_
   refine AWp.exit (xT (xT ?_))
   refine exL a fun hx => ?_
   subst hx
   exact oxI ⟨rfl,b,zv⟩
 ·rintro _ ⟨b,rfl⟩
  have h:=(eL (k _ b))
  refine xB (nT (zs (zn ?_)))
  obtain ⟨C,p,h⟩:=bindS h
  refine zC (Z90w hA p) ?_ { tk:=[18] }
  refine zE ?_ { tk:=[18] }
  refine nT (zr ?_)
  cases soI h
  exact zq

theorem Z171w {A:Ar} (hA:SA A) {g l m o p c q r s i j k:Int} {e:Bool} (h:Z171 A g l m o p c q r s i j k=some e):ACall Tryz.prog 171 [.d (.agg [.int .i64 g,.int .i64 l,.int .i64 m,.int .i64 o,.int .i64 p,.int .i64 c]),.d (.agg [.int .i64 q,.int .i64 r,.int .i64 s,.int .i64 i,.int .i64 j,.int .i64 k])] [] (.d (.bool e)) []:=by
 unfold Z171 at h
 refine zI Tryz.func171 ?_
 refine zs ?_
 refine zA ?_
 refine nT (zs ?_)
 obtain ⟨u,a,h⟩:=bindS h
 refine AWp.cutN [4] [] 0 (lb rfl) (fun τ=>τ={ env:=[(4,.d (.bool u))],heap:=[],n:=15 }) ?_ ?_
 ·skip
  rcases tf (A.zeq c 0) with b | b
  ·replace a:=cT b a
   refine zB ?_ { tk:=[14] }
   cases soI a
   exact zO
  ·replace a:=cF b a
   refine zB ?_ { tk:=[14] }
   cases soI a
   exact zO
 ·rintro _ rfl
  refine nT (zr ?_)
  cases soI h
  exact zq

theorem Z135w {A:Ar} (hA:SA A) {i v w y e g k z B u c j:Int} {E:Bool} (h:Z135 A i v w y e g k z B u c j=some E):ACall Tryz.prog 135 [.d (.agg [.int .i64 i,.int .i64 v,.int .i64 w,.int .i64 y,.int .i64 e,.int .i64 g]),.d (.agg [.int .i64 k,.int .i64 z,.int .i64 B,.int .i64 u,.int .i64 c,.int .i64 j])] [] (.d (.bool E)) []:=by
 unfold Z135 at h
 refine zI Tryz.func135 ?_
 refine zs ?_
 refine zA ?_
 refine nT (zs (zs ?_))
 obtain ⟨C,a,h⟩:=bindS h
 refine AWp.cutN [2,3,35] [] 0 (lb rfl) (fun τ=>τ={ env:=[(2,(.lbox [zi i,zi v,zi w,zi y,zi e,zi g])),(3,(.lbox [zi k,zi z,zi B,zi u,zi c,zi j])),(35,.d (.bool C))],heap:=[],n:=53 }) ?_ ?_
 ·skip
  rcases tf (A.zeq e c) with l | l
  ·replace a:=cT l a
   refine zB ?_
   cases soI a
   exact zO
  ·replace a:=cF l a
   rcases tf (A.zeq e j) with m | m
   ·replace a:=cT m a
    refine zB ?_
    cases soI a
    exact zO
   ·replace a:=cF m a
    rcases tf (A.zeq g c) with o | o
    ·replace a:=cT o a
     refine zB ?_
     cases soI a
     exact zO
    ·replace a:=cF o a
     rcases tf (A.zeq g 0) with p | p
     ·replace a:=cT p a
      refine zB ?_
      cases soI a
      exact zO
     ·replace a:=cF p a
      refine zB ?_
      cases soI a
      exact zO
 ·rintro _ rfl
  refine nT ?_
  rcases tf C with q | q
  ·replace h:=cT q h
   refine zT ?_
   refine zs ?_
   refine zB ?_
   refine nT (zr (rT ?_))
   cases soI h
   exact zq
  ·replace h:=cF q h
   refine zU ?_
   refine zk (nT (zs ?_))
   obtain ⟨K,b,h⟩:=bindS h
   refine AWp.cutN [4] [] 0 (lb rfl) (fun τ=>τ={ env:=[(4,.d (.bool K))],heap:=[],n:=53 }) ?_ ?_
   ·skip
    refine zn ?_
    rcases tf (A.zeq i k) with r | r
    ·replace b:=cT r b
     obtain ⟨J,F,b⟩:=bindS b
     refine zD (Z171w hA F) ?_ { tk:=[52] }
     rcases tf J with s | s
     ·replace b:=cT s b
      refine zF ?_ { tk:=[52] }
      cases soI b
      exact zO
     ·replace b:=cF s b
      obtain ⟨L,G,b⟩:=bindS b
      refine zD (Z171w hA G) ?_ { tk:=[52] }
      refine zF ?_ { tk:=[52] }
      cases soI b
      exact zO
    ·replace b:=cF r b
     refine zF ?_ { tk:=[52] }
     cases soI b
     exact zO
   ·rintro _ rfl
    refine nT (zr ?_)
    cases soI h
    exact zq

theorem Z91w {A:Ar} (hA:SA A) {i:List D} {L:Bool} (h:Z91 A i=some L):ACall Tryz.prog 91 [zl 6 i] [] (.d (.bool L)) []:=by
 unfold Z91 at h
 refine zI Tryz.func91 ?_
 refine zs ?_
 refine zA ?_
 refine nT (zs (zs ?_))
 refine zA ?_
 refine nT ?_
 rcases tf (A.zlt 8 (A.len i)) with v | v
 ·replace h:=cT v h
  refine zT ?_
  refine zs ?_
  refine zB ?_
  refine nT (zr (rT ?_))
  cases soI h
  exact zq
 ·replace h:=cF v h
  refine zU ?_
  refine zk (nT (zs (zs ?_)))
  refine zB ?_
  refine nT (zb ?_)
  obtain ⟨e1,i0,R,o,g⟩:=bindK h
  refine AWp.cutX 0 [] [] 0 (lb rfl) (fun τ=>R (.inl ())=some L∧τ={ env:=[],heap:=[],n:=80 }) ?_ ?_
  ·skip
   refine AWp.iter i0 [0,3] [] 0 (lb rfl) (fun j=>{ env:=[(0,zl 6 i),(3,zi j)],heap:=[],n:=80 }) ⟨rfl,zv⟩ ?_
   rintro j e0 b
   dsimp only [Z91L1] at b
   refine zs (zs ?_)
   refine zA ?_
   refine nT ?_
   rcases tf (A.zlt j (A.len i)) with w | w
   ·replace b:=cT w b
    refine zT ?_
    refine zk (nT (zs (zb (zs ?_))))
    obtain ⟨⟨p,q,r,l,s,m⟩,S,b⟩:=bindS b
    obtain ⟨w0,y0⟩:=gtI S
    refine zB ?_ { tk:=[18] }
    refine nT (zs (zs ?_))
    obtain ⟨O,a,b⟩:=bindS b
    refine AWp.cutN [0,3,4,46] [] 0 (lb rfl) (fun τ=>τ={ env:=[(0,zl 6 i),(3,zi j),(4,(.lbox [zi p,zi q,zi r,zi l,zi s,zi m])),(46,.d (.bool O))],heap:=[],n:=80 }) ?_ ?_
    ·skip
     refine zn ?_
     obtain ⟨j0,U,a⟩:=bindS a
     refine zD (Z90w hA U) ?_
     rcases tf j0 with y | y
     ·replace a:=cT y a
      obtain ⟨k0,V,a⟩:=bindS a
      refine zD (Z90w hA V) ?_
      rcases tf k0 with z | z
      ·replace a:=cT z a
       obtain ⟨l0,W,a⟩:=bindS a
       refine zD (Z90w hA W) ?_
       rcases tf l0 with B | B
       ·replace a:=cT B a
        obtain ⟨m0,X,a⟩:=bindS a
        refine zD (Z90w hA X) ?_
        rcases tf m0 with C | C
        ·replace a:=cT C a
         obtain ⟨b1,Y,a⟩:=bindS a
         refine zD (Z90w hA Y) ?_
         refine zF ?_
         cases soI a
         exact zO
        ·replace a:=cF C a
         refine zF ?_
         cases soI a
         exact zO
       ·replace a:=cF B a
        refine zF ?_
        cases soI a
        exact zO
      ·replace a:=cF z a
       refine zF ?_
       cases soI a
       exact zO
     ·replace a:=cF y a
      refine zF ?_
      cases soI a
      exact zO
    ·rintro _ rfl
     refine nT ?_
     rcases tf O with E | E
     ·replace b:=cT E b
      refine zT ?_
      refine zs ?_
      refine zB ?_
      refine nT (zr (rT (rB (rT (rT ?_)))))
      refine exL b fun hx => ?_
      subst hx
      refine oxR ?_
      replace g:=(eR (o _ g))
      refine rB (rT ?_)
      cases soI g
      exact zq
     ·replace b:=cF E b
      refine zU ?_
      refine zk (nT (zs (zs ?_)))
      obtain ⟨P,e,b⟩:=bindS b
      refine AWp.cutN [0,3,4,68] [] 0 (lb rfl) (fun τ=>τ={ env:=[(0,zl 6 i),(3,zi j),(4,(.lbox [zi p,zi q,zi r,zi l,zi s,zi m])),(68,.d (.bool P))],heap:=[],n:=80 }) ?_ ?_
      ·skip
       refine zn ?_
       rcases tf (A.zeq m 0) with F | F
       ·replace e:=cT F e
        rcases tf (A.zeq l 0) with G | G
        ·replace e:=cT G e
         refine zF ?_
         cases soI e
         exact zO
        ·replace e:=cF G e
         refine zF ?_
         cases soI e
         exact zO
       ·replace e:=cF F e
        obtain ⟨c1,a0,e⟩:=bindS e
        refine zD (Z90w hA a0) ?_
        refine zF ?_
        cases soI e
        exact zO
      ·rintro _ rfl
       refine nT ?_
       rcases tf P with J | J
       ·replace b:=cT J b
        refine zT ?_
        refine zs ?_
        refine zB ?_
        refine nT (zr (rT (rB (rT (rT ?_)))))
        refine exL b fun hx => ?_
        subst hx
        refine oxR ?_
        replace g:=(eR (o _ g))
        refine rB (rT ?_)
        cases soI g
        exact zq
       ·replace b:=cF J b
        refine zU ?_
        refine zk (nT (zs ?_))
        refine zB ?_
        refine nT (zb ?_)
        obtain ⟨d1,g0,Q,N,k⟩:=bindK b
        refine AWp.cutX 2 [0,3] [] 0 (lb rfl) (fun τ=>Q (.inl ())=some e0∧τ={ env:=[(0,zl 6 i),(3,zi j)],heap:=[],n:=80 }) ?_ ?_
        ·skip
         refine AWp.iter g0 [0,3,4,5] [] 0 (lb rfl) (fun M=>{ env:=[(0,zl 6 i),(3,zi j),(4,(.lbox [zi p,zi q,zi r,zi l,zi s,zi m])),(5,zi M)],heap:=[],n:=80 }) ⟨rfl,zv⟩ ?_
         rintro M v0 c
         dsimp only [Z91L0] at c
         refine zs (zs ?_)
         refine zA ?_
         refine nT ?_
         rcases tf (A.zlt M j) with K | K
         ·replace c:=cT K c
          refine zT ?_
          refine zk (nT (zs (zb (zs ?_))))
          refine AWp.regionDraw rfl (lb rfl) ?_
          obtain ⟨⟨o0,p0,q0,r0,s0,u0⟩,b0,c⟩:=bindS c
          obtain ⟨z0,a1⟩:=gtI b0
          obtain ⟨n0,d0,c⟩:=bindS c
          refine DOps.c0 hT hA {} rfl zu (Z135w hA d0) rfl rfl (lb rfl) rfl rfl ?_
          refine DOps.cd hT hA {} rfl zu (by kernel_rfl) ?_
          refine nT ?_
          rcases tf n0 with u | u
          ·replace c:=cT u c
           refine zT ?_
           refine zs ?_
           refine zB ?_
           refine nT (zr (rB (rT (rT ?_))))
           refine exL c fun hx => ?_
           subst hx
           refine oxR ?_
           replace k:=(eR (N _ k))
           refine rB (rB (rT (rT ?_)))
           refine exL k fun hx => ?_
           subst hx
           refine oxR ?_
           replace g:=(eR (o _ g))
           refine rB (rT ?_)
           cases soI g
           exact zq
          ·replace c:=cF u c
           refine zU ?_
           refine zk (nB (nT ?_))
           refine zB ?_
           exact nT ⟨_,(soI c).symm,rfl,zv⟩
         ·replace c:=cF K c
          refine zU ?_
          refine AWp.exit (xT (xT ?_))
          refine exL c fun hx => ?_
          subst hx
          exact oxI ⟨rfl,k,zv⟩
        ·rintro _ ⟨k,rfl⟩
         have b:=(eL (N _ k))
         refine xB (nB (nT ?_))
         refine zA ?_
         exact nT ⟨_,(soI b).symm,rfl,zc⟩
   ·replace b:=cF w b
    refine zU ?_
    refine AWp.exit (xT (xT ?_))
    refine exL b fun hx => ?_
    subst hx
    exact oxI ⟨rfl,g,zv⟩
  ·rintro _ ⟨g,rfl⟩
   have h:=(eL (o _ g))
   refine xB (nT (zs ?_))
   refine zA ?_
   refine nT (zr ?_)
   cases soI h
   exact zq
end Go.Am
