/- Own text: Genw1. -/
import Derived.Test.YtalfdjihejohoaaGenw0
set_option maxRecDepth 100000
set_option maxHeartbeats 2000000
set_option linter.unusedVariables false
set_option linter.unusedSimpArgs false
namespace Go.Am
open Go Go.Proofs
theorem E103w {A:Ar} (hA:SA A) {b:Int} {a:Bool} (h:E103 A b=some a):ACall Try.prog 103 [zi b] [] (.d (.bool a)) []:=by
 unfold E103 at h
 refine zI Try.func103 ?_
 refine zs ?_
 refine zA ?_
 refine nT (zs (zn ?_))
 obtain ⟨e,c,h⟩:=bindS h
 refine zC (E67w hA c) ?_ { tk:=[5] }
 refine zE ?_ { tk:=[5] }
 refine nT (zr ?_)
 cases soI h
 exact zq

theorem E132aw {A:Ar} (hA:SA A) {c:List D} {j:Int} (h:E132a A c=some j):ACall Try.prog 132 [zl 1 c,(.func 103 [] [])] [] (zi j) []:=by
 unfold E132a at h
 refine zI Try.func132 ?_
 refine zs ?_
 refine zA ?_
 refine nT (zs (zs ?_))
 refine zA ?_
 refine nT (zb ?_)
 obtain ⟨w,p,l,k,b⟩:=bindK h
 refine AWp.cutX 0 [] [] 0 (lb rfl) (fun τ=>l (.inl ())=some j/\τ={ env:=[],heap:=[],n:=19 }) ?_ ?_
 ·skip
  refine AWp.iter p [0,1,7,8] [] 0 (lb rfl) (fun i=>{ env:=[(0,zl 1 c),(1,(.func 103 [] [])),(7,(.d (.int .i64 (A.len c)))),(8,zi i)],heap:=[],n:=19 }) ⟨rfl,zc⟩ ?_
  rintro i s a
  dsimp only [E132aL0] at a
  refine zs ?_
  refine zA ?_
  refine nT (zs ?_)
  rcases tf (A.zlt i (A.len c)) with e | e
  ·replace a:=cT e a
   refine zT ?_
   refine zk (nT (zs (zb (zs ?_))))
   refine zB ?_ { tk:=[8,10] }
   refine nT (zs (zn ?_))
   obtain ⟨r,m,a⟩:=bindS a
   obtain ⟨u,v⟩:=gtI m
   obtain ⟨q,o,a⟩:=bindS a
   refine zD (E103w hA o) ?_
   refine zF ?_
   refine nT ?_
   rcases tf q with g | g
   ·replace a:=cT g a
    refine zT ?_
    refine zs ?_
    refine zB ?_ { tk:=[5,17] }
    refine nT (zr (rB (rT (rT ?_))))
    refine exL a fun hx => ?_
    subst hx
    refine oxR ?_
    replace b:=(eR (k _ b))
    refine rB (rT ?_)
    cases soI b
    exact zq
   ·replace a:=cF g a
    refine zU ?_
    refine zk (nB (nT ?_))
    refine zB ?_ { tk:=[18] }
    exact nT ⟨_,(soI a).symm,rfl,zv⟩
  ·replace a:=cF e a
   refine zU ?_
   refine AWp.exit (xT (xT ?_))
   refine exL a fun hx => ?_
   subst hx
   exact oxI ⟨rfl,b,zv⟩
 ·rintro _ ⟨b,rfl⟩
  have h:=(eL (k _ b))
  refine xB (nT (zs ?_))
  refine zA ?_
  refine nT (zr ?_)
  cases soI h
  exact zq

theorem E102aw {A:Ar} (hA:SA A) {b:List D} {a:Bool} (h:E102a A b=some a):ACall Try.prog 102 [zl 1 b,(.func 103 [] [])] [] (.d (.bool a)) []:=by
 unfold E102a at h
 refine zI Try.func102 ?_
 refine zs ?_
 refine zA ?_
 refine nT (zs (zn ?_))
 obtain ⟨e,c,h⟩:=bindS h
 refine zC (E132aw hA c) ?_ { tk:=[8] }
 refine zE ?_ { tk:=[8] }
 refine nT (zr ?_)
 cases soI h
 exact zq

theorem E57w {A:Ar} (hA:SA A) {N m e:List D} {l:Int} {s:Bool} {u:Int} (h:E57 A N m e l=some (s,u)):ACall Try.prog 57 [zl 1 N,zl 1 m,zl 1 e,zi l] [] (.tuple [.d (.bool s),zi u]) []:=by
 unfold E57 at h
 refine zI Try.func57 ?_
 refine zs ?_
 refine zA ?_
 refine nT (zs (zs (zn ?_)))
 obtain ⟨r6,e5,h⟩:=bindS h
 refine zC (E98w hA e5) ?_
 refine zE ?_
 refine nT (zs ?_)
 refine zA ?_
 refine nT ?_
 rcases tf (A.zeq r6 0) with F | F
 ·replace h:=cT F h
  refine zU ?_
  refine zk (nT (zs (zn ?_)))
  obtain ⟨g,e8,h⟩:=bindS h
  refine zD (E77w hA e8) ?_
  refine zF ?_
  refine nT (zs (zs ?_))
  obtain ⟨U,b,h⟩:=bindS h
  refine AWp.cutN [0,1,2,3,11,40] [] 0 (lb rfl) (fun τ=>τ={ env:=[(0,zl 1 N),(1,zl 1 m),(2,zl 1 e),(3,zi l),(11,zl 3 g),(40,.d (.bool U))],heap:=[],n:=89 }) ?_ ?_
  ·skip
   refine zn ?_
   rcases tf (A.zeq (A.len e) (A.len g)) with v | v
   ·replace b:=cT v b
    obtain ⟨s0,a0,b⟩:=bindS b
    refine zD (E102aw hA a0) ?_
    rcases tf s0 with B | B
    ·replace b:=cT B b
     refine zF ?_
     cases soI b
     exact zO
    ·replace b:=cF B b
     obtain ⟨u1,e0,b⟩:=bindS b
     refine zD (E67w hA e0) ?_
     refine zF ?_
     cases soI b
     exact zO
   ·replace b:=cF v b
    refine zF ?_
    cases soI b
    exact zO
  ·rintro _ rfl
   refine nT ?_
   rcases tf U with E | E
   ·replace h:=cT E h
    refine zT ?_
    refine zs ?_
    refine zB ?_
    refine nT (zr (rT ?_))
    cases soI h
    exact zq
   ·replace h:=cF E h
    refine zU ?_
    refine zk (nT (zs (zs (zn ?_))))
    obtain ⟨j,g0,h⟩:=bindS h
    refine zD (E104w hA g0) ?_
    refine zF ?_
    refine nT (zb ?_)
    obtain ⟨w1,p0,W,Q,o⟩:=bindK h
    refine AWp.cutX 0 [2,3] [] 0 (lb rfl) (fun τ=>W (.inl ())=some (s,u)/\τ={ env:=[(2,zl 1 e),(3,zi l)],heap:=[],n:=89 }) ?_ ?_
    ·skip
     refine AWp.iter p0 [1,2,3,11,42,43,44] [] 0 (lb rfl) (fun p=>{ env:=[(1,zl 1 m),(2,zl 1 e),(3,zi l),(11,zl 3 g),(42,(.own 2 j)),(43,(.d (.int .i64 (A.len j)))),(44,zi p)],heap:=[],n:=89 }) ⟨rfl,zv⟩ ?_
     rintro p l0 a
     dsimp only [E57L1] at a
     refine zs ?_
     refine zA ?_
     refine nT (zs ?_)
     rcases tf (A.zlt p (A.len j)) with G | G
     ·replace a:=cT G a
      refine zT ?_
      refine zk (nT (zs (zb (zs ?_))))
      obtain ⟨⟨O,P⟩,i0,a⟩:=bindS a
      obtain ⟨n1,o1⟩:=gtI i0
      refine zB ?_ { tk:=[47] }
      refine nT (zs ?_)
      obtain ⟨b1,j0,a⟩:=bindS a
      obtain ⟨p1,q1⟩:=gtI j0
      obtain ⟨c1,k0,a⟩:=bindS a
      obtain ⟨r1,s1⟩:=gtI k0
      refine AWp.rd hT hA {} rfl zu (by kernel_rfl) (lb rfl) ?_
      refine nT (zs (zs ?_))
      refine zB ?_
      refine nT (zb ?_)
      obtain ⟨v1,o0,V,m0,J⟩:=bindK a
      refine AWp.cutX 2 [1,2,3,11,14,42,43,44] [] 0 (lb rfl) (fun τ => ∃ r,V r=some l0/\τ={ env:=[(1,zl 1 m),(2,zl 1 e),(3,zi l),(11,zl 3 g),(14,zi r),(42,(.own 2 j)),(43,(.d (.int .i64 (A.len j)))),(44,zi p)],heap:=[],n:=89 }) ?_ ?_
      ·skip
       refine AWp.iter o0 [1,2,3,11,13,14,42,43,44,57,58,59] [] 0 (lb rfl) (fun (R,q)=>{ env:=[(1,zl 1 m),(2,zl 1 e),(3,zi l),(11,zl 3 g),(13,(.lbox [zi O,zi P])),(14,zi R),(42,(.own 2 j)),(43,(.d (.int .i64 (A.len j)))),(44,zi p),(57,zl 3 g),(58,(.d (.int .i64 (A.len g)))),(59,zi q)],heap:=[],n:=89 }) ⟨rfl,zv⟩ ?_
       rintro ⟨R,q⟩ d1 c
       dsimp only [E57L0] at c
       refine zs ?_
       refine zA ?_
       refine nT (zs ?_)
       rcases tf (A.zlt q (A.len g)) with w | w
       ·replace c:=cT w c
        refine zT ?_
        refine zk (nT (zs (zb (zs ?_))))
        obtain ⟨⟨v0,w0,y0⟩,Y,c⟩:=bindS c
        obtain ⟨g1,i1⟩:=gtI Y
        refine zB ?_ { tk:=[63] }
        refine nT (zs (zn ?_))
        obtain ⟨r0,b0,c⟩:=bindS c
        refine zD (E105w hA b0) ?_
        refine zF ?_
        refine nT ?_
        obtain ⟨u0,k,c⟩:=bindS c
        refine AWp.cutN [1,2,3,11,13,14,42,43,44,57,58,59] [] 0 (lb rfl) (fun τ=>τ={ env:=[(1,zl 1 m),(2,zl 1 e),(3,zi l),(11,zl 3 g),(13,(.lbox [zi O,zi P])),(14,zi u0),(42,(.own 2 j)),(43,(.d (.int .i64 (A.len j)))),(44,zi p),(57,zl 3 g),(58,(.d (.int .i64 (A.len g)))),(59,zi q)],heap:=[],n:=89 }) ?_ ?_
        ·skip
         rcases tf r0 with y | y
         ·replace k:=cT y k
          refine zT ?_
          obtain ⟨z0,c0,k⟩:=bindS k
          obtain ⟨j1,k1⟩:=gtI c0
          refine zB ?_
          cases soI k
          exact zO
         ·replace k:=cF y k
          refine zU ?_
          refine zk ?_
          cases soI k
          exact zO
        ·rintro _ rfl
         refine nB (nT ?_)
         refine zA ?_
         exact nT ⟨_,(soI c).symm,rfl,zc⟩
       ·replace c:=cF w c
        refine zU ?_
        refine AWp.exit (xT (xT ?_))
        refine exL c fun hx => ?_
        subst hx
        exact oxI ⟨rfl,_,J,zv⟩
      ·rintro _ ⟨r,J,rfl⟩
       have a:=(m0 _ J)
       refine xB (nT (zs ?_))
       refine zA ?_
       refine nT ?_
       rcases tf (A.zlt r 0) with z | z
       ·replace a:=cT z a
        refine zT ?_
        refine zs ?_
        refine zB ?_
        refine nT (zr (rB (rT (rT ?_))))
        refine exL a fun hx => ?_
        subst hx
        refine oxR ?_
        replace o:=(eR (Q _ o))
        refine rB (rT ?_)
        cases soI o
        exact zq
       ·replace a:=cF z a
        refine zU ?_
        refine zk (nB (nT ?_))
        refine zB ?_
        exact nT ⟨_,(soI a).symm,rfl,zv⟩
     ·replace a:=cF G a
      refine zU ?_
      refine AWp.exit (xT (xT ?_))
      refine exL a fun hx => ?_
      subst hx
      exact oxI ⟨rfl,o,zv⟩
    ·rintro _ ⟨o,rfl⟩
     have h:=(eL (Q _ o))
     refine xB (nT (zs (zs ?_)))
     refine zA ?_
     refine nT (zb ?_)
     obtain ⟨y1,q0,X,n0,K⟩:=bindK h
     refine AWp.cutX 4 [3] [] 0 (lb rfl) (fun τ => ∃ M,X M=some (s,u)/\τ={ env:=[(3,zi M)],heap:=[],n:=89 }) ?_ ?_
     ·skip
      refine AWp.iter q0 [3,77,78,79] [] 0 (lb rfl) (fun (S,L)=>{ env:=[(3,zi S),(77,zl 1 e),(78,(.d (.int .i64 (A.len e)))),(79,zi L)],heap:=[],n:=89 }) ⟨rfl,zc⟩ ?_
      rintro ⟨S,L⟩ e1 i
      dsimp only [E57L2] at i
      refine zs ?_
      refine zA ?_
      refine nT (zs ?_)
      rcases tf (A.zlt L (A.len e)) with C | C
      ·replace i:=cT C i
       refine zT ?_
       refine zk (nT (zs (zb (zs ?_))))
       obtain ⟨a1,d0,i⟩:=bindS i
       obtain ⟨l1,m1⟩:=gtI d0
       refine zB ?_
       refine nT ?_
       refine zB ?_
       refine nB (nT ?_)
       refine zB ?_
       exact nT ⟨_,(soI i).symm,rfl,zv⟩
      ·replace i:=cF C i
       refine zU ?_
       refine AWp.exit (xT (xT ?_))
       refine exL i fun hx => ?_
       subst hx
       exact oxI ⟨rfl,_,K,zv⟩
     ·rintro _ ⟨M,K,rfl⟩
      have h:=(n0 _ K)
      refine xB (nT (zs ?_))
      refine zA ?_
      refine nT (zr ?_)
      cases soI h
      exact zq
 ·replace h:=cF F h
  refine zT ?_
  refine zs ?_
  refine zB ?_
  refine nT (zr (rT ?_))
  cases soI h
  exact zq

theorem E58w {A:Ar} (hA:SA A) {u k c:List D} {i:Int} {y:Bool} {z:Int} (h:E58 A u k c i=some (y,z)):ACall Try.prog 58 [zl 1 u,zl 1 k,zl 1 c,zi i] [] (.tuple [.d (.bool y),zi z]) []:=by
 unfold E58 at h
 refine zI Try.func58 ?_
 refine zs ?_
 refine zA ?_
 refine nT (zs (zs (zn ?_)))
 obtain ⟨r6,e5,h⟩:=bindS h
 refine zC (E100w hA e5) ?_
 refine zE ?_
 refine nT (zs ?_)
 refine zA ?_
 refine nT ?_
 rcases tf (A.zeq r6 0) with Q | Q
 ·replace h:=cT Q h
  refine zU ?_
  refine zk (nT (zs (zn ?_)))
  obtain ⟨e,e8,h⟩:=bindS h
  refine zD (E83w hA e8) ?_
  refine zF ?_
  refine nT (zs (zs ?_))
  obtain ⟨a0,j,h⟩:=bindS h
  refine AWp.cutN [0,1,2,3,11,40] [] 0 (lb rfl) (fun τ=>τ={ env:=[(0,zl 1 u),(1,zl 1 k),(2,zl 1 c),(3,zi i),(11,zl 3 e),(40,.d (.bool a0))],heap:=[],n:=96 }) ?_ ?_
  ·skip
   rcases tf (A.zeq (A.len c) (A.len e)) with F | F
   ·replace j:=cT F j
    rcases tf (A.zlt i 0) with G | G
    ·replace j:=cT G j
     refine zB ?_
     cases soI j
     exact zO
    ·replace j:=cF G j
     refine zB ?_
     cases soI j
     exact zO
   ·replace j:=cF F j
    refine zB ?_
    cases soI j
    exact zO
  ·rintro _ rfl
   refine nT ?_
   rcases tf a0 with L | L
   ·replace h:=cT L h
    refine zT ?_
    refine zs ?_
    refine zB ?_
    refine nT (zr (rT ?_))
    cases soI h
    exact zq
   ·replace h:=cF L h
    refine zU ?_
    refine zk (nT (zs ?_))
    refine zB ?_
    refine nT (zs (zs ?_))
    refine zB ?_
    refine nT (zb ?_)
    obtain ⟨y1,v0,e0,X,q⟩:=bindK h
    refine AWp.cutX 0 [0,1,2,3,11,12] [] 0 (lb rfl) (fun τ => ∃ o,e0 (.inl o)=some (y,z)/\τ={ env:=[(0,zl 1 u),(1,zl 1 k),(2,zl 1 c),(3,zi i),(11,zl 3 e),(12,zi o)],heap:=[],n:=96 }) ?_ ?_
    ·skip
     refine AWp.iter v0 [0,1,2,3,11,12,41,42,43] [] 0 (lb rfl) (fun (U,B)=>{ env:=[(0,zl 1 u),(1,zl 1 k),(2,zl 1 c),(3,zi i),(11,zl 3 e),(12,zi U),(41,zl 1 c),(42,(.d (.int .i64 (A.len c)))),(43,zi B)],heap:=[],n:=96 }) ⟨rfl,zv⟩ ?_
     rintro ⟨U,B⟩ g1 b
     dsimp only [E58L0] at b
     refine zs ?_
     refine zA ?_
     refine nT (zs ?_)
     rcases tf (A.zlt B (A.len c)) with N | N
     ·replace b:=cT N b
      refine zT ?_
      refine zk (nT (zs (zb (zs ?_))))
      obtain ⟨V,n0,b⟩:=bindS b
      obtain ⟨q1,r1⟩:=gtI n0
      refine zB ?_
      refine nT (zs (zs ?_))
      obtain ⟨b0,r,b⟩:=bindS b
      refine AWp.cutN [0,1,2,3,11,12,14,41,42,43,52] [] 0 (lb rfl) (fun τ=>τ={ env:=[(0,zl 1 u),(1,zl 1 k),(2,zl 1 c),(3,zi i),(11,zl 3 e),(12,zi U),(14,zi V),(41,zl 1 c),(42,(.d (.int .i64 (A.len c)))),(43,zi B),(52,.d (.bool b0))],heap:=[],n:=96 }) ?_ ?_
      ·skip
       rcases tf (A.zlt V 0) with O | O
       ·replace r:=cT O r
        refine zB ?_
        cases soI r
        exact zO
       ·replace r:=cF O r
        refine zB ?_
        cases soI r
        exact zO
      ·rintro _ rfl
       refine nT ?_
       rcases tf b0 with P | P
       ·replace b:=cT P b
        refine zT ?_
        refine zs ?_
        refine zB ?_
        refine nT (zr (rT (rB (rT (rT ?_)))))
        refine exL b fun hx => ?_
        subst hx
        refine oxR ?_
        replace q:=(eR (X _ q))
        refine rB (rT ?_)
        cases soI q
        exact zq
       ·replace b:=cF P b
        refine zU ?_
        refine zk (nT ?_)
        refine zB ?_
        refine nB (nT ?_)
        refine zB ?_
        exact nT ⟨_,(soI b).symm,rfl,zv⟩
     ·replace b:=cF N b
      refine zU ?_
      refine AWp.exit (xT (xT ?_))
      refine exL b fun hx => ?_
      subst hx
      exact oxI ⟨rfl,_,q,zv⟩
    ·rintro _ ⟨o,q,rfl⟩
     have h:=(eL (X _ q))
     refine xB (nT (zs (zs (zn ?_))))
     obtain ⟨l,o0,h⟩:=bindS h
     refine zC (E60w hA o0) ?_
     refine zE ?_
     refine nT (zb ?_)
     obtain ⟨w1,u0,d0,W,p⟩:=bindK h
     refine AWp.cutX 2 [3,12] [] 0 (lb rfl) (fun τ=>d0 (.inl ())=some (y,z)/\τ={ env:=[(3,zi i),(12,zi o)],heap:=[],n:=96 }) ?_ ?_
     ·skip
      refine AWp.iter u0 [1,2,3,11,12,58,59,60] [] 0 (lb rfl) (fun s=>{ env:=[(1,zl 1 k),(2,zl 1 c),(3,zi i),(11,zl 3 e),(12,zi o),(58,(.own 2 l)),(59,(.d (.int .i64 (A.len l)))),(60,zi s)],heap:=[],n:=96 }) ⟨rfl,zc⟩ ?_
      rintro s q0 a
      dsimp only [E58L2] at a
      refine zs ?_
      refine zA ?_
      refine nT (zs ?_)
      rcases tf (A.zlt s (A.len l)) with R | R
      ·replace a:=cT R a
       refine zT ?_
       refine zk (nT (zs (zb (zs ?_))))
       obtain ⟨⟨C,E⟩,p0,a⟩:=bindS a
       obtain ⟨s1,u1⟩:=gtI p0
       refine zB ?_ { tk:=[63] }
       refine nT (zs ?_)
       refine zB ?_
       refine nT (zs (zs ?_))
       refine zB ?_
       refine nT (zb ?_)
       obtain ⟨v1,s0,c0,r0,S⟩:=bindK a
       refine AWp.cutX 4 [1,2,3,11,12,16,17,58,59,60] [] 0 (lb rfl) (fun τ => ∃ w,c0 w=some q0/\τ={ env:=[(1,zl 1 k),(2,zl 1 c),(3,zi i),(11,zl 3 e),(12,zi o),(16,(.lbox [zi C,zi E])),(17,zi w),(58,(.own 2 l)),(59,(.d (.int .i64 (A.len l)))),(60,zi s)],heap:=[],n:=96 }) ?_ ?_
       ·skip
        refine AWp.iter s0 [1,2,3,11,12,16,17,58,59,60,64,65,66] [] 0 (lb rfl) (fun (Y,v)=>{ env:=[(1,zl 1 k),(2,zl 1 c),(3,zi i),(11,zl 3 e),(12,zi o),(16,(.lbox [zi C,zi E])),(17,zi Y),(58,(.own 2 l)),(59,(.d (.int .i64 (A.len l)))),(60,zi s),(64,zl 3 e),(65,(.d (.int .i64 (A.len e)))),(66,zi v)],heap:=[],n:=96 }) ⟨rfl,zv⟩ ?_
        rintro ⟨Y,v⟩ e1 g
        dsimp only [E58L1] at g
        refine zs ?_
        refine zA ?_
        refine nT (zs ?_)
        rcases tf (A.zlt v (A.len e)) with J | J
        ·replace g:=cT J g
         refine zT ?_
         refine zk (nT (zs (zb (zs ?_))))
         obtain ⟨⟨z0,a1,b1⟩,i0,g⟩:=bindS g
         obtain ⟨i1,j1⟩:=gtI i0
         refine zB ?_ { tk:=[70] }
         refine nT (zs (zn ?_))
         obtain ⟨w0,j0,g⟩:=bindS g
         refine zD (E106w hA j0) ?_
         refine zF ?_
         refine nT ?_
         obtain ⟨y0,m,g⟩:=bindS g
         refine AWp.cutN [1,2,3,11,12,16,17,58,59,60,64,65,66] [] 0 (lb rfl) (fun τ=>τ={ env:=[(1,zl 1 k),(2,zl 1 c),(3,zi i),(11,zl 3 e),(12,zi o),(16,(.lbox [zi C,zi E])),(17,zi y0),(58,(.own 2 l)),(59,(.d (.int .i64 (A.len l)))),(60,zi s),(64,zl 3 e),(65,(.d (.int .i64 (A.len e)))),(66,zi v)],heap:=[],n:=96 }) ?_ ?_
         ·skip
          rcases tf w0 with K | K
          ·replace m:=cT K m
           refine zT ?_
           obtain ⟨c1,k0,m⟩:=bindS m
           obtain ⟨k1,l1⟩:=gtI k0
           refine zB ?_
           cases soI m
           exact zO
          ·replace m:=cF K m
           refine zU ?_
           refine zk ?_
           cases soI m
           exact zO
         ·rintro _ rfl
          refine nB (nT ?_)
          refine zA ?_
          exact nT ⟨_,(soI g).symm,rfl,zc⟩
        ·replace g:=cF J g
         refine zU ?_
         refine AWp.exit (xT (xT ?_))
         refine exL g fun hx => ?_
         subst hx
         exact oxI ⟨rfl,_,S,zv⟩
       ·rintro _ ⟨w,S,rfl⟩
        have a:=(r0 _ S)
        refine xB (nT (zs ?_))
        obtain ⟨d1,l0,a⟩:=bindS a
        obtain ⟨m1,n1⟩:=gtI l0
        obtain ⟨g0,m0,a⟩:=bindS a
        obtain ⟨o1,p1⟩:=gtI m0
        refine AWp.rd hT hA {} rfl zu (by kernel_rfl) (lb rfl) ?_
        refine nT ?_
        rcases tf (A.zlt g0 w) with M | M
        ·replace a:=cT M a
         refine zT ?_
         refine zs ?_
         refine zB ?_
         refine nT (zr (rB (rT (rT ?_))))
         refine exL a fun hx => ?_
         subst hx
         refine oxR ?_
         replace p:=(eR (W _ p))
         refine rB (rT ?_)
         cases soI p
         exact zq
        ·replace a:=cF M a
         refine zU ?_
         refine zk (nB (nT ?_))
         refine zB ?_
         exact nT ⟨_,(soI a).symm,rfl,zv⟩
      ·replace a:=cF R a
       refine zU ?_
       refine AWp.exit (xT (xT ?_))
       refine exL a fun hx => ?_
       subst hx
       exact oxI ⟨rfl,p,zv⟩
     ·rintro _ ⟨p,rfl⟩
      have h:=(eL (W _ p))
      refine xB (nT (zs ?_))
      refine zA ?_
      refine nT (zr ?_)
      cases soI h
      exact zq
 ·replace h:=cF Q h
  refine zT ?_
  refine zs ?_
  refine zB ?_
  refine nT (zr (rT ?_))
  cases soI h
  exact zq

theorem E108w {A:Ar} (hA:SA A) {c e:Int} {a:List D} {b:Int} (h:E108 A c e a=some b):ACall Try.prog 108 [zi c,zi e,.ptr 0 0] [.cells [zl 3 a]] (zi b) [.cells [zl 3 a]]:=by
 unfold E108 at h
 refine zI Try.func108 ?_
 refine zs ?_
 refine zA ?_
 refine nT (zs ?_)
 refine AWp.regionDraw rfl (lb rfl) ?_
 obtain ⟨⟨n,o,p⟩,j,h⟩:=bindS h
 obtain ⟨s,u⟩:=gtI j
 obtain ⟨⟨k,l,m⟩,g,h⟩:=bindS h
 obtain ⟨q,r⟩:=gtI g
 obtain ⟨v,i,h⟩:=bindS h
 refine DOps.c0 hT hA { tk:=[16] } rfl zu (E109w hA i) rfl rfl (lb rfl) rfl rfl ?_
 refine DOps.cd hT hA { tk:=[16] } rfl zu (by kernel_rfl) ?_
 refine nT (zr ?_)
 cases soI h
 exact zq

theorem E140w {A:Ar} (hA:SA A) {i j:Int} {e:List D} {g:List (D×D)} {B w:List D} (h:E140 A i j e g B=some w):ACall Try.prog 140 [.gref 2 1,zi i,zi j,(.func 108 [] [.ptr 0 0])] [.cells [zl 3 e],(.map true [.int .i64,.int .i64] g),.gro 1 B,.dead,.dead] (.tuple []) [.cells [zl 3 e],(.map true [.int .i64,.int .i64] g),.gro 1 w,.dead,.dead]:=by
 unfold E140 at h
 refine zI Try.func140 ?_
 refine zs ?_
 refine zA ?_
 refine nT (zb ?_)
 obtain ⟨l1,g0,E,d0,r⟩:=bindK h
 refine AWp.cutXW 0 (fun τ => ∃ v,E v=some w/\τ={ env:=[],heap:=[.cells [zl 3 e],(.map true [.int .i64,.int .i64] g),.gro 1 v,.dead,.dead],n:=53 }) ?_ ?_
 ·skip
  refine AWp.iterW g0 (fun (k,y)=>{ env:=[(0,.gref 2 1),(1,zi i),(2,zi j),(3,(.func 108 [] [.ptr 0 0])),(8,zi k)],heap:=[.cells [zl 3 e],(.map true [.int .i64,.int .i64] g),.gro 1 y,.dead,.dead],n:=53 }) ⟨_,zR [some 0,some 1,some 2,some 3,some 4] [0,1,2,3,8],rfl⟩ ?_
  rintro ⟨k,y⟩ b0 c
  dsimp only [E140L1] at c
  refine zs (zs ?_)
  refine zA ?_
  refine nT ?_
  rcases tf (A.zlt k j) with m | m
  ·replace c:=cT m c
   refine zT ?_
   refine zk (nT (zs (zb (zs ?_))))
   refine zB ?_
   refine nT (zb ?_)
   obtain ⟨k1,e0,C,c0,q⟩:=bindK c
   refine AWp.cutXW 2 (fun τ => ∃ u,C u=some b0/\τ={ env:=[(0,.gref 2 1),(1,zi i),(2,zi j),(3,(.func 108 [] [.ptr 0 0])),(8,zi k)],heap:=[.cells [zl 3 e],(.map true [.int .i64,.int .i64] g),.gro 1 u,.dead,.dead],n:=53 }) ?_ ?_
   ·skip
    refine AWp.iterW e0 (fun (l,s)=>{ env:=[(0,.gref 2 1),(1,zi i),(2,zi j),(3,(.func 108 [] [.ptr 0 0])),(8,zi k),(9,zi l)],heap:=[.cells [zl 3 e],(.map true [.int .i64,.int .i64] g),.gro 1 s,.dead,.dead],n:=53 }) ⟨_,zR [some 0,some 1,some 2,some 3,some 4] [0,1,2,3,8,9],rfl⟩ ?_
    rintro ⟨l,s⟩ n0 a
    dsimp only [E140L0] at a
    refine zs (zs ?_)
    obtain ⟨z,b,a⟩:=bindS a
    refine AWp.cutW (fun τ=>τ={ env:=[(0,.gref 2 1),(1,zi i),(2,zi j),(3,(.func 108 [] [.ptr 0 0])),(8,zi k),(9,zi l),(34,.d (.bool z))],heap:=[.cells [zl 3 e],(.map true [.int .i64,.int .i64] g),.gro 1 s,.dead,.dead],n:=53 }) ?_ ?_
    ·skip
     refine AWp.regionDraw rfl (lb rfl) ?_
     rcases tf (A.zlt i l) with o | o
     ·replace b:=cT o b
      obtain ⟨_,F,b⟩:=bindS b
      have o0:=ckI F
      obtain ⟨_,G,b⟩:=bindS b
      have p0:=ckI G
      obtain ⟨i0,J,b⟩:=bindS b
      have q0:=gcI J
      obtain ⟨_,K,b⟩:=bindS b
      have r0:=ckI K
      obtain ⟨_,L,b⟩:=bindS b
      have s0:=ckI L
      obtain ⟨j0,M,b⟩:=bindS b
      have u0:=gcI M
      obtain ⟨j1,N,b⟩:=bindS b
      refine DOps.cp hT hA {} rfl zu (E108w hA N) rfl rfl rfl rfl (lb rfl) rfl rfl ?_
      refine DOps.cd hT hA {} rfl zu (by kernel_rfl) ?_
      cases soI b
      exact oWi ⟨_,zR [some 0,some 1,some 2,some 3,some 4] [0,1,2,3,8,9,34],rfl⟩
     ·replace b:=cF o b
      refine DOps.cd hT hA {} rfl zu (by kernel_rfl) ?_
      cases soI b
      exact oWi ⟨_,zR [some 0,some 1,some 2,some 3,some 4] [0,1,2,3,8,9,34],rfl⟩
    ·rintro _ rfl
     refine nT ?_
     rcases tf z with p | p
     ·replace a:=cT p a
      refine zT ?_
      refine zk (nT (zs (zb ?_)))
      obtain ⟨_,O,a⟩:=bindS a
      have v0:=ckI O
      obtain ⟨_,P,a⟩:=bindS a
      have w0:=ckI P
      obtain ⟨k0,Q,a⟩:=bindS a
      have y0:=gcI Q
      obtain ⟨_,R,a⟩:=bindS a
      have z0:=ckI R
      obtain ⟨_,S,a⟩:=bindS a
      have a1:=ckI S
      obtain ⟨l0,U,a⟩:=bindS a
      have b1:=gcI U
      obtain ⟨_,V,a⟩:=bindS a
      have c1:=ckI V
      obtain ⟨_,W,a⟩:=bindS a
      have d1:=ckI W
      obtain ⟨_,X,a⟩:=bindS a
      have e1:=ckI X
      obtain ⟨_,Y,a⟩:=bindS a
      have g1:=ckI Y
      obtain ⟨m0,a0,a⟩:=bindS a
      have i1:=gcI a0
      refine AWp.rd hT hA { tk:=[46,50] } rfl zu (by kernel_rfl) (lb rfl) ?_
      refine nB (nT ?_)
      refine zB ?_
      exact nT ⟨_,(soI a).symm,_,zR [some 0,some 1,some 2,some 3,some 4] [0,1,2,3,8,9],rfl⟩
     ·replace a:=cF p a
      refine zU ?_
      refine AWp.exit (xT (xT ?_))
      refine exL a fun hx => ?_
      subst hx
      exact oxWI ⟨_,zR [some 0,some 1,some 2,some 3,some 4] [0,1,2,3,8],_,q,rfl⟩
   ·rintro _ ⟨u,q,rfl⟩
    have c:=(c0 _ q)
    refine xB (nB (nT ?_))
    refine zA ?_
    exact nT ⟨_,(soI c).symm,_,zR [some 0,some 1,some 2,some 3,some 4] [0,1,2,3,8],rfl⟩
  ·replace c:=cF m c
   refine zU ?_
   refine AWp.exit (xT (xT ?_))
   refine exL c fun hx => ?_
   subst hx
   exact oxWI ⟨_,zR [some 0,some 1,some 2,some 3,some 4] [],_,r,rfl⟩
 ·rintro _ ⟨v,r,rfl⟩
  have h:=(d0 _ r)
  refine xB ?_
  cases soI h
  exact zq

theorem E133w {A:Ar} (hA:SA A) {b:Int} {e:List D} {g:List (D×D)} {C l:List D} (h:E133 A b e g C=some l):ACall Try.prog 133 [.gref 2 1,zi b,(.func 108 [] [.ptr 0 0])] [.cells [zl 3 e],(.map true [.int .i64,.int .i64] g),.gro 1 C,.dead,.dead] (.tuple []) [.cells [zl 3 e],(.map true [.int .i64,.int .i64] g),.gro 1 l,.dead,.dead]:=by
 unfold E133 at h
 refine zI Try.func133 ?_
 refine zs ?_
 refine zA ?_
 refine nT (zs ?_)
 refine zA ?_
 refine nT (zs (zb ?_))
 obtain ⟨W,P,E,M,r⟩:=bindK h
 refine AWp.cutXW 0 (fun τ => ∃ v w,E (v,w)=some l/\τ={ env:=[(0,.gref 2 1),(1,zi b),(2,(.func 108 [] [.ptr 0 0])),(6,zi 20),(7,zi v)],heap:=[.cells [zl 3 e],(.map true [.int .i64,.int .i64] g),.gro 1 w,.dead,.dead],n:=63 }) ?_ ?_
 ·skip
  refine AWp.iterW P (fun (B,y,z)=>{ env:=[(0,.gref 2 1),(1,zi b),(2,(.func 108 [] [.ptr 0 0])),(6,zi 20),(7,zi B),(8,zi y)],heap:=[.cells [zl 3 e],(.map true [.int .i64,.int .i64] g),.gro 1 z,.dead,.dead],n:=63 }) ⟨_,zR [some 0,some 1,some 2,some 3,some 4] [0,1,2,6,7,8],rfl⟩ ?_
  rintro ⟨B,y,z⟩ S c
  dsimp only [E133L0] at c
  refine zs (zs ?_)
  refine zA ?_
  refine nT ?_
  rcases tf (A.zle y b) with m | m
  ·replace c:=cT m c
   refine zT ?_
   refine zk (nT (zb (zs (zn ?_))))
   obtain ⟨V,J,c⟩:=bindS c
   refine zD (E140w hA J) ?_
   refine zF ?_
   refine nT (zs ?_)
   refine zB ?_
   refine nT ?_
   refine zB ?_
   refine nB ?_
   exact nT ⟨_,(soI c).symm,_,zR [some 0,some 1,some 2,some 3,some 4] [0,1,2,6,7,8],rfl⟩
  ·replace c:=cF m c
   refine zU ?_
   refine AWp.exit (xT (xT ?_))
   refine exL c fun hx => ?_
   subst hx
   exact oxWI ⟨_,zR [some 0,some 1,some 2,some 3,some 4] [0,1,2,6,7],_,_,r,rfl⟩
 ·rintro _ ⟨v,w,r,rfl⟩
  have h:=(M _ r)
  refine xB (nT (zs (zn ?_)))
  obtain ⟨k,K,h⟩:=bindS h
  refine zC (E140w hA K) ?_
  refine zE ?_
  refine nT (zb ?_)
  obtain ⟨Y,R,G,O,u⟩:=bindK h
  refine AWp.cutXW 2 (fun τ=>G ()=some l/\τ={ env:=[],heap:=[.cells [zl 3 e],(.map true [.int .i64,.int .i64] g),.gro 1 k,.dead,.dead],n:=63 }) ?_ ?_
  ·skip
   refine AWp.iterW R (fun i=>{ env:=[(0,.gref 2 1),(1,zi b),(2,(.func 108 [] [.ptr 0 0])),(6,zi i)],heap:=[.cells [zl 3 e],(.map true [.int .i64,.int .i64] g),.gro 1 k,.dead,.dead],n:=63 }) ⟨_,zR [some 0,some 1,some 2,some 3,some 4] [0,1,2,6],rfl⟩ ?_
   rintro i L a
   dsimp only [E133L2] at a
   refine zs (zs ?_)
   refine zA ?_
   refine nT ?_
   rcases tf (A.zlt i b) with o | o
   ·replace a:=cT o a
    refine zT ?_
    refine zk (nT (zb (zs ?_)))
    refine zB ?_
    refine nT (zs (zb ?_))
    obtain ⟨X,Q,F,N,s⟩:=bindK a
    refine AWp.cutXW 4 (fun τ=>F ()=some L/\τ={ env:=[(0,.gref 2 1),(1,zi b),(2,(.func 108 [] [.ptr 0 0])),(6,zi i),(7,zi 0)],heap:=[.cells [zl 3 e],(.map true [.int .i64,.int .i64] g),.gro 1 k,.dead,.dead],n:=63 }) ?_ ?_
    ·skip
     refine AWp.iterW Q (fun ()=>{ env:=[(0,.gref 2 1),(1,zi b),(2,(.func 108 [] [.ptr 0 0])),(6,zi i),(7,zi 0),(8,(.d (.int .i64 (A.wrp .i64 (A.zmul 2 i)))))],heap:=[.cells [zl 3 e],(.map true [.int .i64,.int .i64] g),.gro 1 k,.dead,.dead],n:=63 }) ⟨_,zR [some 0,some 1,some 2,some 3,some 4] [0,1,2,6,7,8],rfl⟩ ?_
     rintro _ U j
     dsimp only [E133L1] at j
     refine zs (zs ?_)
     refine zA ?_
     refine nT ?_
     rcases tf (A.zle (A.wrp .i64 (A.zmul 2 i)) b) with p | p
     ·replace j:=cT p j
      refine zT ?_
      refine zk (nT (zb (zs (zn ?_))))
      cases j
     ·replace j:=cF p j
      refine zU ?_
      refine AWp.exit (xT (xT ?_))
      refine exL j fun hx => ?_
      subst hx
      exact oxWI ⟨_,zR [some 0,some 1,some 2,some 3,some 4] [0,1,2,6,7],s,rfl⟩
    ·rintro _ ⟨s,rfl⟩
     have a:=(N _ s)
     refine xB (nT (zs (zs ?_)))
     refine zA ?_
     refine nT (zs ?_)
     refine zA ?_
     refine nT ?_
     rcases tf (A.zlt (A.wrp .i64 (A.zadd 0 i)) b) with q | q
     ·replace a:=cT q a
      refine zT ?_
      refine zn ?_
      cases a
     ·replace a:=cF q a
      refine zU ?_
      refine zk (nT ?_)
      refine zB ?_
      refine nB ?_
      exact nT ⟨_,(soI a).symm,_,zR [some 0,some 1,some 2,some 3,some 4] [0,1,2,6],rfl⟩
   ·replace a:=cF o a
    refine zU ?_
    refine AWp.exit (xT (xT ?_))
    refine exL a fun hx => ?_
    subst hx
    exact oxWI ⟨_,zR [some 0,some 1,some 2,some 3,some 4] [],u,rfl⟩
  ·rintro _ ⟨u,rfl⟩
   have h:=(O _ u)
   refine xB ?_
   cases soI h
   exact zq

theorem E107w {A:Ar} (hA:SA A) {a:List D} {b:List (D×D)} {e c:List D} (h:E107 A a b e=some c):ACall Try.prog 107 [.gref 2 1,(.func 108 [] [.ptr 0 0])] [.cells [zl 3 a],(.map true [.int .i64,.int .i64] b),.gro 1 e,.dead,.dead] (.tuple []) [.cells [zl 3 a],(.map true [.int .i64,.int .i64] b),.gro 1 c,.dead,.dead]:=by
 unfold E107 at h
 refine zI Try.func107 ?_
 refine zn ?_
 obtain ⟨i,g,h⟩:=bindS h
 refine zC (E133w hA g) ?_
 refine zE ?_
 cases soI h
 exact zq

theorem E59w {A:Ar} (hA:SA A) {x1 X r:List D} {s:Int} (h:E59 A x1 X=some (r,s)):ACall Try.prog 59 [zl 1 x1,zl 1 X] [] (.tuple [zl 1 r,zi s]) []:=by
 unfold E59 at h
 refine zI Try.func59 ?_
 refine zs ?_
 refine zA ?_
 refine nT (zs (zs (zn ?_)))
 obtain ⟨r4,e3,h⟩:=bindS h
 refine zC (E98w hA e3) ?_
 refine zE ?_
 refine nT (zs ?_)
 refine zA ?_
 refine nT ?_
 rcases tf (A.zeq r4 0) with J | J
 ·replace h:=cT J h
  refine zU ?_
  refine zk (nT (zs (zn ?_)))
  obtain ⟨g,e6,h⟩:=bindS h
  refine zD (E77w hA e6) ?_ { tk:=[27],esc:=[7] }
  refine zF ?_ { tk:=[27],esc:=[7] }
  refine nT (zs ?_)
  refine zB ?_
  refine nT (zs (zs (zn ?_)))
  obtain ⟨P,e8,h⟩:=bindS h
  refine zD (E104w hA e8) ?_
  refine zF ?_
  refine nT (zb ?_)
  obtain ⟨o3,r1,l0,m1,N⟩:=bindK h
  refine AWp.cutX 0 [7,8] [] 2 (lb rfl) (fun τ => ∃ u,l0 u=some (r,s)/\τ={ env:=[(7,.ptr 0 0),(8,(.map 1))],heap:=[.cells [zl 3 g],(.map true [.int .i64,.int .i64] u)],n:=114 }) ?_ ?_
  ·skip
   refine AWp.iter r1 [1,7,8,30,31,32] [] 2 (lb rfl) (fun (U,e0)=>{ env:=[(1,zl 1 X),(7,.ptr 0 0),(8,(.map 1)),(30,(.own 2 P)),(31,(.d (.int .i64 (A.len P)))),(32,zi U)],heap:=[.cells [zl 3 g],(.map true [.int .i64,.int .i64] e0)],n:=114 }) ⟨rfl,zv⟩ ?_
   rintro ⟨U,e0⟩ j2 b
   dsimp only [E59L0] at b
   refine zs ?_
   refine zA ?_
   refine nT (zs ?_)
   rcases tf (A.zlt U (A.len P)) with F | F
   ·replace b:=cT F b
    refine zT ?_
    refine zk (nT (zs (zb (zs ?_))))
    obtain ⟨⟨b2,c2⟩,w0,b⟩:=bindS b
    obtain ⟨v2,w2⟩:=gtI w0
    refine zB ?_ { tk:=[35] }
    refine nT ?_
    obtain ⟨d2,y0,b⟩:=bindS b
    obtain ⟨y2,z2⟩:=gtI y0
    obtain ⟨e2,z0,b⟩:=bindS b
    obtain ⟨a3,b3⟩:=gtI z0
    refine AWp.rd hT hA {} rfl zu (by kernel_rfl) (lb rfl) ?_
    refine nB (nT ?_)
    refine zB ?_
    exact nT ⟨_,(soI b).symm,rfl,zv⟩
   ·replace b:=cF F b
    refine zU ?_
    refine AWp.exit (xT (xT ?_))
    refine exL b fun hx => ?_
    subst hx
    exact oxI ⟨rfl,_,N,zv⟩
  ·rintro _ ⟨u,N,rfl⟩
   have h:=(m1 _ N)
   refine xB (nT (zs ?_))
   refine zA ?_
   refine nT (zs (zs ?_))
   refine zA ?_
   refine nT (zb ?_)
   refine AWp.weak (Wk.settleS 11 rfl (lb rfl)) ?_
   obtain ⟨p3,s1,m0,n1,O⟩:=bindK h
   refine AWp.cutXW 2 (fun τ => ∃ W,m0 W=some (r,s)/\τ={ env:=[(7,.ptr 0 0),(8,(.map 1)),(11,.gref 2 1)],heap:=[.cells [zl 3 g],(.map true [.int .i64,.int .i64] u),.gro 1 W,.dead,.dead],n:=114 }) ?_ ?_
   ·skip
    refine AWp.iterW s1 (fun (V,g0)=>{ env:=[(7,.ptr 0 0),(8,(.map 1)),(11,.gref 2 1),(49,(.d (.int .i64 (A.len g)))),(50,zi V)],heap:=[.cells [zl 3 g],(.map true [.int .i64,.int .i64] u),.gro 1 g0,.dead,.dead],n:=114 }) ⟨_,zR [some 0,some 1,some 2,some 3,some 4] [7,8,11,49,50],rfl⟩ ?_
    rintro ⟨V,g0⟩ k2 j
    dsimp only [E59L1] at j
    refine zs ?_
    refine zA ?_
    refine nT (zs ?_)
    rcases tf (A.zlt V (A.len g)) with G | G
    ·replace j:=cT G j
     refine zT ?_
     refine zk (nT (zs (zb (zs ?_))))
     refine zB ?_
     refine nT ?_
     obtain ⟨k3,a1,j⟩:=bindS j
     obtain ⟨c3,d3⟩:=apI a1
     refine zB ?_ { tk:=[11,56],gr:=[56] }
     refine nB (nT ?_)
     refine zB ?_
     exact nT ⟨_,(soI j).symm,_,zR [some 0,some 1,some 5,some 6,some 7] [7,8,11,49,50],rfl⟩
    ·replace j:=cF G j
     refine zU ?_
     refine AWp.exit (xT (xT ?_))
     refine exL j fun hx => ?_
     subst hx
     exact oxWI ⟨_,zR [some 0,some 1,some 2,some 3,some 4] [7,8,11],_,O,rfl⟩
   ·rintro _ ⟨W,O,rfl⟩
    have h:=(n1 _ O)
    refine xB (nT (zs (zn ?_)))
    obtain ⟨c,b1,h⟩:=bindS h
    refine zC (E107w hA b1) ?_
    refine zE ?_
    refine nT (zs ?_)
    obtain ⟨_,c1,h⟩:=bindS h
    have g3:=ckI c1
    obtain ⟨_,d1,h⟩:=bindS h
    have i3:=ckI d1
    obtain ⟨_,e1,h⟩:=bindS h
    have j3:=ckI e1
    refine zB ?_ { gr:=[63] }
    refine nT (zs (zs ?_))
    refine zA ?_
    refine nT (zb ?_)
    refine AWp.weak (Wk.ren [some 0,some 1,some 5,some 6,some 7,some 2,some 3,some 4] [7,8,13,64,65,66] rfl rfl) ?_
    obtain ⟨n3,q1,k0,l1,M⟩:=bindK h
    refine AWp.cutXW 4 (fun τ => ∃ S,k0 S=some (r,s)/\τ={ env:=[(13,.gref 0 1)],heap:=[.gro 1 S,.dead,.dead],n:=114 }) ?_ ?_
    ·skip
     refine AWp.iterW q1 (fun (k,p,l)=>{ env:=[(7,.ptr 0 0),(8,(.map 1)),(13,.gref 2 1),(64,.gref 5 1),(65,(.d (.int .i64 (A.len c)))),(66,zi k)],heap:=[.cells [zl 3 g],(.map true [.int .i64,.int .i64] p),.gro 1 l,.dead,.dead,.gro 1 c,.dead,.dead],n:=114 }) ⟨_,zR [some 0,some 1,some 2,some 3,some 4,some 5,some 6,some 7] [7,8,13,64,65,66],rfl⟩ ?_
     rintro ⟨k,p,l⟩ b0 a
     dsimp only [E59L4] at a
     refine zs ?_
     refine zA ?_
     refine nT (zs ?_)
     rcases tf (A.zlt k (A.len c)) with B | B
     ·replace a:=cT B a
      refine zT ?_
      refine zk (nT (zs (zb (zs ?_))))
      obtain ⟨_,n0,a⟩:=bindS a
      have l2:=ckI n0
      obtain ⟨_,o0,a⟩:=bindS a
      have m2:=ckI o0
      obtain ⟨o,p0,a⟩:=bindS a
      have n2:=gcI p0
      refine zB ?_
      refine nT (zs ?_)
      obtain ⟨⟨v,w,m⟩,q0,a⟩:=bindS a
      obtain ⟨o2,p2⟩:=gtI q0
      refine zB ?_ { tk:=[73] }
      refine nT (zs ?_)
      refine zB ?_
      refine nT (zs (zs ?_))
      refine zB ?_
      refine nT (zb ?_)
      obtain ⟨l3,o1,i0,j1,K⟩:=bindK a
      refine AWp.cutXW 6 (fun τ => ∃ q,i0 q=some b0/\τ={ env:=[(7,.ptr 0 0),(8,(.map 1)),(13,.gref 2 1),(15,zi o),(16,(.lbox [zi v,zi w,zi m])),(17,zi q),(64,.gref 5 1),(65,(.d (.int .i64 (A.len c)))),(66,zi k)],heap:=[.cells [zl 3 g],(.map true [.int .i64,.int .i64] p),.gro 1 l,.dead,.dead,.gro 1 c,.dead,.dead],n:=114 }) ?_ ?_
      ·skip
       refine AWp.iterW o1 (fun (c0,z)=>{ env:=[(7,.ptr 0 0),(8,(.map 1)),(13,.gref 2 1),(15,zi o),(16,(.lbox [zi v,zi w,zi m])),(17,zi c0),(18,zi z),(64,.gref 5 1),(65,(.d (.int .i64 (A.len c)))),(66,zi k)],heap:=[.cells [zl 3 g],(.map true [.int .i64,.int .i64] p),.gro 1 l,.dead,.dead,.gro 1 c,.dead,.dead],n:=114 }) ⟨_,zR [some 0,some 1,some 2,some 3,some 4,some 5,some 6,some 7] [7,8,13,15,16,17,18,64,65,66],rfl⟩ ?_
       rintro ⟨c0,z⟩ g2 i
       dsimp only [E59L2] at i
       refine zs (zs ?_)
       refine zA ?_
       refine nT ?_
       rcases tf (A.zlt z m) with C | C
       ·replace i:=cT C i
        refine zT ?_
        refine zk (nT (zs (zb ?_)))
        obtain ⟨w1,y,i⟩:=bindS i
        refine AWp.cutW (fun τ=>τ={ env:=[(7,.ptr 0 0),(8,(.map 1)),(13,.gref 2 1),(15,zi o),(16,(.lbox [zi v,zi w,zi m])),(17,zi w1),(18,zi z),(64,.gref 5 1),(65,(.d (.int .i64 (A.len c)))),(66,zi k)],heap:=[.cells [zl 3 g],(.map true [.int .i64,.int .i64] p),.gro 1 l,.dead,.dead,.gro 1 c,.dead,.dead],n:=114 }) ?_ ?_
        ·skip
         obtain ⟨u1,Y,y⟩:=bindS y
         rcases u1 with _ | y1
         ·have g1:=lkN Y
          refine zB ?_ { tk:=[89] }
          cases soI y
          exact oWi ⟨_,zR [some 0,some 1,some 2,some 3,some 4,some 5,some 6,some 7] [7,8,13,15,16,17,18,64,65,66],rfl⟩
         ·have g1:=lkS Y
          refine zB ?_ { tk:=[89] }
          cases soI y
          exact oWi ⟨_,zR [some 0,some 1,some 2,some 3,some 4,some 5,some 6,some 7] [7,8,13,15,16,17,18,64,65,66],rfl⟩
        ·rintro _ rfl
         refine nB (nT ?_)
         refine zA ?_
         exact nT ⟨_,(soI i).symm,_,zR [some 0,some 1,some 2,some 3,some 4,some 5,some 6,some 7] [7,8,13,15,16,17,18,64,65,66],rfl⟩
       ·replace i:=cF C i
        refine zU ?_
        refine AWp.exit (xT (xT ?_))
        refine exL i fun hx => ?_
        subst hx
        exact oxWI ⟨_,zR [some 0,some 1,some 2,some 3,some 4,some 5,some 6,some 7] [7,8,13,15,16,17,64,65,66],_,K,rfl⟩
      ·rintro _ ⟨q,K,rfl⟩
       have a:=(j1 _ K)
       refine xB (nT (zs (zs ?_)))
       refine zA ?_
       refine nT (zb ?_)
       obtain ⟨m3,p1,j0,k1,L⟩:=bindK a
       refine AWp.cutXW 8 (fun τ => ∃ R,j0 R=some b0/\τ={ env:=[(7,.ptr 0 0),(8,(.map 1)),(13,.gref 2 1),(15,zi o),(17,zi q),(64,.gref 5 1),(65,(.d (.int .i64 (A.len c)))),(66,zi k)],heap:=[.cells [zl 3 g],(.map true [.int .i64,.int .i64] R),.gro 1 l,.dead,.dead,.gro 1 c,.dead,.dead],n:=114 }) ?_ ?_
       ·skip
        refine AWp.iterW p1 (fun (Q,d0)=>{ env:=[(7,.ptr 0 0),(8,(.map 1)),(13,.gref 2 1),(15,zi o),(16,(.lbox [zi v,zi w,zi m])),(17,zi q),(19,zi Q),(64,.gref 5 1),(65,(.d (.int .i64 (A.len c)))),(66,zi k)],heap:=[.cells [zl 3 g],(.map true [.int .i64,.int .i64] d0),.gro 1 l,.dead,.dead,.gro 1 c,.dead,.dead],n:=114 }) ⟨_,zR [some 0,some 1,some 2,some 3,some 4,some 5,some 6,some 7] [7,8,13,15,16,17,19,64,65,66],rfl⟩ ?_
        rintro ⟨Q,d0⟩ i2 e
        dsimp only [E59L3] at e
        refine zs (zs ?_)
        refine zA ?_
        refine nT ?_
        rcases tf (A.zlt Q m) with E | E
        ·replace e:=cT E e
         refine zT ?_
         refine zk (nT (zs (zb ?_)))
         obtain ⟨v1,a0,e⟩:=bindS e
         rcases v1 with _ | z1
         ·have i1:=lkN a0
          cases e
         ·have i1:=lkS a0
          obtain ⟨_,r0,e⟩:=bindS e
          have q2:=ckI r0
          refine AWp.rd hT hA {} rfl zu (by kernel_rfl) (lb rfl) ?_
          refine nB (nT ?_)
          refine zB ?_
          exact nT ⟨_,(soI e).symm,_,zR [some 0,some 1,some 2,some 3,some 4,some 5,some 6,some 7] [7,8,13,15,16,17,19,64,65,66],rfl⟩
        ·replace e:=cF E e
         refine zU ?_
         refine AWp.exit (xT (xT ?_))
         refine exL e fun hx => ?_
         subst hx
         exact oxWI ⟨_,zR [some 0,some 1,some 2,some 3,some 4,some 5,some 6,some 7] [7,8,13,15,17,64,65,66],_,L,rfl⟩
       ·rintro _ ⟨R,L,rfl⟩
        have a:=(k1 _ L)
        refine xB (nT ?_)
        obtain ⟨_,s0,a⟩:=bindS a
        have r2:=ckI s0
        obtain ⟨_,u0,a⟩:=bindS a
        have s2:=ckI u0
        obtain ⟨a2,v0,a⟩:=bindS a
        have u2:=gcI v0
        refine zB ?_ { tk:=[17,110] }
        refine nB (nT ?_)
        refine zA ?_
        exact nT ⟨_,(soI a).symm,_,zR [some 0,some 1,some 2,some 3,some 4,some 5,some 6,some 7] [7,8,13,64,65,66],rfl⟩
     ·replace a:=cF B a
      refine zU ?_
      refine AWp.exit (xT (xT ?_))
      refine exL a fun hx => ?_
      subst hx
      exact oxWI ⟨_,zR [some 2,some 3,some 4] [13],_,M,rfl⟩
    ·rintro _ ⟨S,M,rfl⟩
     have h:=(l1 _ M)
     refine xB (nT (zs ?_))
     refine zA ?_
     refine nT ?_
     refine AWp.weak (Wk.freezeS 4 rfl rfl) ?_
     refine zr ?_
     cases soI h
     exact zq
 ·replace h:=cF J h
  refine zT ?_
  refine zs ?_
  refine zB ?_
  refine nT (zr (rT ?_))
  cases soI h
  exact zq

theorem E11w {A:Ar} (hA:SA A) {i j k:List D} {l:Int} {N:Bool} (h:E11 A i j k l=some N):ACall Try.prog 11 [zl 1 i,zl 1 j,zl 1 k,zi l] [] (.d (.bool N)) []:=by
 unfold E11 at h
 refine zI Try.func11 ?_
 refine zs ?_
 refine zA ?_
 refine nT (zs (zs ?_))
 obtain ⟨K,b,h⟩:=bindS h
 refine AWp.cutN [0,1,2,3,30] [] 0 (lb rfl) (fun τ=>τ={ env:=[(0,zl 1 i),(1,zl 1 j),(2,zl 1 k),(3,zi l),(30,.d (.bool K))],heap:=[],n:=134 }) ?_ ?_
 ·skip
  refine zn ?_
  obtain ⟨r6,Y,b⟩:=bindS b
  refine zC (E13w hA Y) ?_
  rcases tf r6 with E | E
  ·replace b:=cT E b
   refine zF ?_
   cases soI b
   exact zO
  ·replace b:=cF E b
   obtain ⟨r9,e8,b⟩:=bindS b
   refine zD (E37w hA e8) ?_
   rcases tf r9 with m | m
   ·replace b:=cT m b
    refine zF ?_
    cases soI b
    exact zO
   ·replace b:=cF m b
    refine zF ?_
    cases soI b
    exact zO
 ·rintro _ rfl
  refine nT ?_
  rcases tf K with o | o
  ·replace h:=cT o h
   refine zT ?_
   refine zs (zn ?_)
   obtain ⟨r0,O,h⟩:=bindS h
   refine zD (E15w hA O) ?_ { tk:=[31] }
   refine zF ?_ { tk:=[31] }
   refine nT (zr (rT ?_))
   cases soI h
   exact zq
  ·replace h:=cF o h
   refine zU ?_
   refine zk (nT (zs (zn ?_)))
   obtain ⟨⟨s0,d0⟩,P,h⟩:=bindS h
   refine zD (E53w hA P) ?_
   refine zF ?_
   refine nT (zs (zn ?_))
   obtain ⟨⟨u0,e0⟩,Q,h⟩:=bindS h
   refine zD (E54w hA Q) ?_
   refine zF ?_
   refine nT (zs (zn ?_))
   obtain ⟨⟨g0,v0⟩,R,h⟩:=bindS h
   refine zD (E52w hA R) ?_
   refine zF ?_
   refine nT (zs (zn ?_))
   obtain ⟨⟨F,G⟩,S,h⟩:=bindS h
   refine zD (E55w hA S) ?_
   refine zF ?_
   refine nT (zs (zs ?_))
   obtain ⟨L,a,h⟩:=bindS h
   refine AWp.cutN [0,1,2,3,15,16,74] [] 0 (lb rfl) (fun τ=>τ={ env:=[(0,zl 1 i),(1,zl 1 j),(2,zl 1 k),(3,zi l),(15,zi F),(16,zi G),(74,.d (.bool L))],heap:=[],n:=134 }) ?_ ?_
   ·skip
    refine zn ?_
    obtain ⟨i0,U,a⟩:=bindS a
    refine zD (E56w hA U) ?_
    rcases tf i0 with p | p
    ·replace a:=cT p a
     rcases tf (A.zeq d0 e0) with q | q
     ·replace a:=cT q a
      rcases tf (A.zeq g0 F) with r | r
      ·replace a:=cT r a
       refine zF ?_
       cases soI a
       exact zO
      ·replace a:=cF r a
       refine zF ?_
       cases soI a
       exact zO
     ·replace a:=cF q a
      refine zF ?_
      cases soI a
      exact zO
    ·replace a:=cF p a
     refine zF ?_
     cases soI a
     exact zO
   ·rintro _ rfl
    refine nT ?_
    rcases tf L with s | s
    ·replace h:=cT s h
     refine zT ?_
     refine zs ?_
     refine zB ?_
     refine nT (zr (rT ?_))
     cases soI h
     exact zq
    ·replace h:=cF s h
     refine zU ?_
     refine zk (nT (zs (zn ?_)))
     obtain ⟨⟨j0,k0⟩,V,h⟩:=bindS h
     refine zD (E57w hA V) ?_
     refine zF ?_
     refine nT (zs (zn ?_))
     obtain ⟨⟨l0,m0⟩,W,h⟩:=bindS h
     refine zD (E58w hA W) ?_
     refine zF ?_
     refine nT (zs (zn ?_))
     obtain ⟨⟨J,w0⟩,X,h⟩:=bindS h
     refine zD (E59w hA X) ?_
     refine zF ?_
     refine nT (zs (zs ?_))
     obtain ⟨M,e,h⟩:=bindS h
     refine AWp.cutN [0,1,15,16,19,109] [] 0 (lb rfl) (fun τ=>τ={ env:=[(0,zl 1 i),(1,zl 1 j),(15,zi F),(16,zi G),(19,zl 1 J),(109,.d (.bool M))],heap:=[],n:=134 }) ?_ ?_
     ·skip
      rcases tf (A.beq j0 l0) with u | u
      ·replace e:=cT u e
       rcases tf (A.zeq k0 m0) with v | v
       ·replace e:=cT v e
        refine zB ?_
        cases soI e
        exact zO
       ·replace e:=cF v e
        refine zB ?_
        cases soI e
        exact zO
      ·replace e:=cF u e
       refine zB ?_
       cases soI e
       exact zO
     ·rintro _ rfl
      refine nT ?_
      rcases tf M with w | w
      ·replace h:=cT w h
       refine zT ?_
       refine zs ?_
       refine zB ?_
       refine nT (zr (rT ?_))
       cases soI h
       exact zq
      ·replace h:=cF w h
       refine zU ?_
       refine zk (nT (zs (zs ?_)))
       refine zB ?_
       refine nT ?_
       rcases tf (A.zeq G 0) with y | y
       ·replace h:=cT y h
        refine zU ?_
        refine zk (nT (zs (zn ?_)))
        obtain ⟨⟨n0,o0⟩,b0,h⟩:=bindS h
        refine zD (E58w hA b0) ?_
        refine zF ?_
        refine nT (zs ?_)
        obtain ⟨q0,c,h⟩:=bindS h
        refine AWp.cutN [8] [] 0 (lb rfl) (fun τ=>τ={ env:=[(8,.d (.bool q0))],heap:=[],n:=134 }) ?_ ?_
        ·skip
         refine zn ?_
         rcases tf (A.zeq o0 0) with B | B
         ·replace c:=cT B c
          rcases tf n0 with C | C
          ·replace c:=cT C c
           obtain ⟨z0,c0,c⟩:=bindS c
           refine zD (E15w hA c0) ?_ { tk:=[133] }
           refine zF ?_ { tk:=[133] }
           cases soI c
           exact zO
          ·replace c:=cF C c
           refine zF ?_ { tk:=[133] }
           cases soI c
           exact zO
         ·replace c:=cF B c
          refine zF ?_ { tk:=[133] }
          cases soI c
          exact zO
        ·rintro _ rfl
         refine nT (zr ?_)
         cases soI h
         exact zq
       ·replace h:=cF y h
        refine zT ?_
        refine zs ?_
        obtain ⟨p0,g,h⟩:=bindS h
        refine AWp.cutN [8] [] 0 (lb rfl) (fun τ=>τ={ env:=[(8,.d (.bool p0))],heap:=[],n:=134 }) ?_ ?_
        ·skip
         refine zn ?_
         rcases tf (A.zeq (A.len J) 0) with z | z
         ·replace g:=cT z g
          obtain ⟨y0,a0,g⟩:=bindS g
          refine zD (E15w hA a0) ?_ { tk:=[117] }
          refine zF ?_ { tk:=[117] }
          cases soI g
          exact zO
         ·replace g:=cF z g
          refine zF ?_ { tk:=[117] }
          cases soI g
          exact zO
        ·rintro _ rfl
         refine nT (zr (rT ?_))
         cases soI h
         exact zq
end Go.Am
