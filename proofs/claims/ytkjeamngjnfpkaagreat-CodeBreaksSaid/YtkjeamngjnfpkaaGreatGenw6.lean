/- Own text: Genw6. -/
import Derived.Test.YtkjeamngjnfpkaaGreatGenw5
set_option maxRecDepth 100000
set_option maxHeartbeats 2000000
set_option linter.unusedVariables false
set_option linter.unusedSimpArgs false
namespace Go.Am
open Go Go.Proofs
theorem Z26w {A:Ar} (hA:SA A) {j k l m g:List D} {i:Int} (h:Z26 A j k l m=some (g,i)):ACall Tryz.prog 26 [zl 1 j,zl 1 k,zl 1 l,zl 1 m] [] (.tuple [zl 1 g,zi i]) []:=by
 unfold Z26 at h
 refine zI Tryz.func26 ?_
 refine zs ?_
 refine zA ?_
 refine nT (zs (zs (zn ?_)))
 obtain ⟨W,p,h⟩:=bindS h
 refine zC (Z40w hA p) ?_
 refine zE ?_
 refine nT (zs ?_)
 refine zA ?_
 refine nT ?_
 rcases tf (A.zeq W 0) with e | e
 ·replace h:=cT e h
  refine zU ?_
  refine zk (nT (zs (zs (zn ?_))))
  obtain ⟨X,q,h⟩:=bindS h
  refine zD (Z53w hA q) ?_
  refine zF ?_
  refine nT ?_
  rcases tf X with a | a
  ·replace h:=cT a h
   refine zU ?_
   refine zk (nT (zs (zn ?_)))
   obtain ⟨⟨r,s,u,v,w,y,z,B,C,E,F,G,J,K,L,M,N,O,P,Q,R,S,U⟩,n,h⟩:=bindS h
   refine zD (Z69w hA n) ?_ { tk:=[30],esc:=[11] }
   refine zF ?_ { tk:=[30],esc:=[11] }
   refine nT (zs (zs ?_))
   refine zB ?_
   refine nT ?_
   rcases tf U with b | b
   ·replace h:=cT b h
    refine zU ?_
    refine zk (nT (zs ?_))
    refine AWp.weak (Wk.freezeObj 0 [11] (ds:=[.list 1 r,.list 1 s,.int .i64 u,.int .i64 v,.int .i64 w,.int .i64 y,.int .i64 z,.int .i64 B,.int .i64 C,.int .i64 E,.int .i64 F,.int .i64 G,.int .i64 J,.int .i64 K,.int .i64 L,.int .i64 M,.int .i64 N,.int .i64 O,.int .i64 P,.int .i64 Q,.list 6 R,.list 1 S]) rfl rfl) ?_
    refine zn ?_
    obtain ⟨⟨Y,V⟩,o,h⟩:=bindS h
    refine zD (Z56w hA o) ?_
    refine zF ?_
    refine nT (zs (zs ?_))
    refine zB ?_
    refine nT ?_
    rcases tf V with c | c
    ·replace h:=cT c h
     refine zU ?_
     refine zk (nT (zs ?_))
     refine zB ?_
     refine nT (zr ?_)
     cases soI h
     exact zq
    ·replace h:=cF c h
     refine zT ?_
     refine zs ?_
     refine zB ?_
     refine nT (zr (rT ?_))
     cases soI h
     exact zq
   ·replace h:=cF b h
    refine zT ?_
    refine zs ?_
    refine zB ?_
    refine nT (zr (rT ?_))
    cases soI h
    exact zq
  ·replace h:=cF a h
   refine zT ?_
   refine zs ?_
   refine zB ?_
   refine nT (zr (rT ?_))
   cases soI h
   exact zq
 ·replace h:=cF e h
  refine zT ?_
  refine zs ?_
  refine zB ?_
  refine nT (zr (rT ?_))
  cases soI h
  exact zq

theorem Z64w {A:Ar} (hA:SA A) {c e:List D} {l:Bool} (h:Z64 A c e=some l):ACall Tryz.prog 64 [zl 1 c,zl 1 e] [] (.d (.bool l)) []:=by
 unfold Z64 at h
 refine zI Tryz.func64 ?_
 refine zs ?_
 refine zA ?_
 refine nT (zs (zs ?_))
 refine zA ?_
 refine nT ?_
 rcases tf (A.zeq (A.len e) (A.len c)) with j | j
 ·replace h:=cT j h
  refine zU ?_
  refine zk (nT (zs (zs ?_)))
  refine zB ?_
  refine nT (zb ?_)
  obtain ⟨F,s,o,m,b⟩:=bindK h
  refine AWp.cutX 0 [] [] 0 (lb rfl) (fun τ=>o (.inl ())=some l∧τ={ env:=[],heap:=[],n:=29 }) ?_ ?_
  ·skip
   refine AWp.iter s [0,1,5] [] 0 (lb rfl) (fun k=>{ env:=[(0,zl 1 c),(1,zl 1 e),(5,zi k)],heap:=[],n:=29 }) ⟨rfl,zv⟩ ?_
   rintro k y a
   dsimp only [Z64L0] at a
   refine zs (zs ?_)
   refine zA ?_
   refine nT ?_
   rcases tf (A.zlt k (A.len c)) with g | g
   ·replace a:=cT g a
    refine zT ?_
    refine zk (nT (zs (zb (zs ?_))))
    refine AWp.regionDraw rfl (lb rfl) ?_
    obtain ⟨v,p,a⟩:=bindS a
    obtain ⟨z,B⟩:=gtI p
    obtain ⟨w,q,a⟩:=bindS a
    obtain ⟨C,E⟩:=gtI q
    obtain ⟨u,r,a⟩:=bindS a
    refine DOps.c0 hT hA {} rfl zu (Z77w hA r) rfl rfl (lb rfl) rfl rfl ?_
    refine DOps.cd hT hA {} rfl zu (by kernel_rfl) ?_
    refine nT ?_
    rcases tf u with i | i
    ·replace a:=cT i a
     refine zU ?_
     refine zk (nB (nT ?_))
     refine zB ?_
     exact nT ⟨_,(soI a).symm,rfl,zv⟩
    ·replace a:=cF i a
     refine zT ?_
     refine zs ?_
     refine zB ?_
     refine nT (zr (rB (rT (rT ?_))))
     refine exL a fun hx => ?_
     subst hx
     refine oxR ?_
     replace b:=(eR (m _ b))
     refine rB (rT ?_)
     cases soI b
     exact zq
   ·replace a:=cF g a
    refine zU ?_
    refine AWp.exit (xT (xT ?_))
    refine exL a fun hx => ?_
    subst hx
    exact oxI ⟨rfl,b,zv⟩
  ·rintro _ ⟨b,rfl⟩
   have h:=(eL (m _ b))
   refine xB (nT (zs ?_))
   refine zA ?_
   refine nT (zr ?_)
   cases soI h
   exact zq
 ·replace h:=cF j h
  refine zT ?_
  refine zs ?_
  refine zB ?_
  refine nT (zr (rT ?_))
  cases soI h
  exact zq

theorem Z65w {A:Ar} (hA:SA A) {e c i:List D} {j k l m:Int} {o p g:List D} {u:Bool} (h:Z65 A e c i j k l m o p g=some u):ACall Tryz.prog 65 [.ptr 0 0] [.cells [zl 1 e,zl 1 c,zl 1 i,.gref 1 8,zi j,zi k,zi l,zi m,.gref 4 6,.gref 7 1],.gro 8 o,.dead,.dead,.gro 6 p,.dead,.dead,.gro 1 g,.dead,.dead] (.d (.bool u)) [.cells [zl 1 e,zl 1 c,zl 1 i,.gref 1 8,zi j,zi k,zi l,zi m,.gref 4 6,.gref 7 1],.gro 8 o,.dead,.dead,.gro 6 p,.dead,.dead,.gro 1 g,.dead,.dead]:=by
 unfold Z65 at h
 refine zI Tryz.func65 ?_
 refine zs ?_
 refine zA ?_
 refine nT (zs (zs ?_))
 refine zA ?_
 refine nT (zb ?_)
 obtain ⟨E,z,w,v,b⟩:=bindK h
 refine AWp.cutXW 0 (fun τ=>w (.inl ())=some u∧τ={ env:=[],heap:=[.cells [zl 1 e,zl 1 c,zl 1 i,.gref 1 8,zi j,zi k,zi l,zi m,.gref 4 6,.gref 7 1],.gro 8 o,.dead,.dead,.gro 6 p,.dead,.dead,.gro 1 g,.dead,.dead],n:=16 }) ?_ ?_
 ·skip
  refine AWp.iterW z (fun s=>{ env:=[(0,.ptr 0 0),(3,zi s)],heap:=[.cells [zl 1 e,zl 1 c,zl 1 i,.gref 1 8,zi j,zi k,zi l,zi m,.gref 4 6,.gref 7 1],.gro 8 o,.dead,.dead,.gro 6 p,.dead,.dead,.gro 1 g,.dead,.dead],n:=16 }) ⟨_,zR [some 0,some 1,some 2,some 3,some 4,some 5,some 6,some 7,some 8,some 9] [0,3],rfl⟩ ?_
  rintro s C a
  dsimp only [Z65L0] at a
  refine zs (zs ?_)
  refine zA ?_
  refine nT ?_
  rcases tf (A.zlt s (A.len c)) with q | q
  ·replace a:=cT q a
   refine zT ?_
   refine zk (nT (zs (zb (zs (zn ?_)))))
   obtain ⟨B,y,a⟩:=bindS a
   refine zD (Z103w hA y) ?_
   refine zF ?_
   refine nT ?_
   rcases tf B with r | r
   ·replace a:=cT r a
    refine zT ?_
    refine zs ?_
    refine zB ?_
    refine nT (zr (rB (rT (rT ?_))))
    refine exL a fun hx => ?_
    subst hx
    refine oxWR ?_
    replace b:=(eR (v _ b))
    refine rB (rT ?_)
    cases soI b
    exact zq
   ·replace a:=cF r a
    refine zU ?_
    refine zk (nB (nT ?_))
    refine zB ?_
    exact nT ⟨_,(soI a).symm,_,zR [some 0,some 1,some 2,some 3,some 4,some 5,some 6,some 7,some 8,some 9] [0,3],rfl⟩
  ·replace a:=cF q a
   refine zU ?_
   refine AWp.exit (xT (xT ?_))
   refine exL a fun hx => ?_
   subst hx
   exact oxWI ⟨_,zR [some 0,some 1,some 2,some 3,some 4,some 5,some 6,some 7,some 8,some 9] [],b,rfl⟩
 ·rintro _ ⟨b,rfl⟩
  have h:=(eL (v _ b))
  refine xB (nT (zs ?_))
  refine zA ?_
  refine nT (zr ?_)
  cases soI h
  exact zq

theorem Z66w {A:Ar} (hA:SA A) {i k l:List D} {c m o p:Int} {q e j F:List D} {G:Bool} (h:Z66 A i k l c m o p q e j=some (F,G)):ACall Tryz.prog 66 [.ptr 0 0] [.cells [zl 1 i,zl 1 k,zl 1 l,.gref 1 8,zi c,zi m,zi o,zi p,.gref 4 6,.gref 7 1],.gro 8 q,.dead,.dead,.gro 6 e,.dead,.dead,.gro 1 j,.dead,.dead] (.tuple [zl 1 F,.d (.bool G)]) [.cells [zl 1 i,zl 1 k,zl 1 l,.gref 1 8,zi c,zi m,zi o,zi p,.gref 4 6,.gref 7 1],.gro 8 q,.dead,.dead,.gro 6 e,.dead,.dead,.gro 1 j,.dead,.dead]:=by
 unfold Z66 at h
 refine zI Tryz.func66 ?_
 refine zs ?_
 refine zA ?_
 refine nT (zs (zs (zn ?_)))
 obtain ⟨a0,O,h⟩:=bindS h
 refine zC (Z65w hA O) ?_
 refine zE ?_
 refine nT ?_
 rcases tf a0 with u | u
 ·replace h:=cT u h
  refine zU ?_
  refine zk (nT (zs ?_))
  refine zB ?_
  refine nT (zs (zs ?_))
  refine zB ?_
  refine nT (zb ?_)
  obtain ⟨m0,Y,M,W,B⟩:=bindK h
  refine AWp.cutXW 0 (fun τ => ∃ E,M E=some (F,G)∧τ={ env:=[(0,.ptr 0 0),(4,(.own 1 E))],heap:=[.cells [zl 1 i,zl 1 k,zl 1 l,.gref 1 8,zi c,zi m,zi o,zi p,.gref 4 6,.gref 7 1],.gro 8 q,.dead,.dead,.gro 6 e,.dead,.dead,.gro 1 j,.dead,.dead],n:=49 }) ?_ ?_
  ·skip
   refine AWp.iterW Y (fun (J,r)=>{ env:=[(0,.ptr 0 0),(4,(.own 1 J)),(5,zi r)],heap:=[.cells [zl 1 i,zl 1 k,zl 1 l,.gref 1 8,zi c,zi m,zi o,zi p,.gref 4 6,.gref 7 1],.gro 8 q,.dead,.dead,.gro 6 e,.dead,.dead,.gro 1 j,.dead,.dead],n:=49 }) ⟨_,zR [some 0,some 1,some 2,some 3,some 4,some 5,some 6,some 7,some 8,some 9] [0,4,5],rfl⟩ ?_
   rintro ⟨J,r⟩ U b
   dsimp only [Z66L1] at b
   refine zs (zs ?_)
   refine zA ?_
   refine nT ?_
   rcases tf (A.zlt r c) with v | v
   ·replace b:=cT v b
    refine zT ?_
    refine zk (nT (zs (zb (zs ?_))))
    refine zB ?_
    refine nT (zb ?_)
    obtain ⟨l0,X,L,V,z⟩:=bindK b
    refine AWp.cutXW 2 (fun τ => ∃ C,L C=some U∧τ={ env:=[(0,.ptr 0 0),(4,(.own 1 C)),(5,zi r)],heap:=[.cells [zl 1 i,zl 1 k,zl 1 l,.gref 1 8,zi c,zi m,zi o,zi p,.gref 4 6,.gref 7 1],.gro 8 q,.dead,.dead,.gro 6 e,.dead,.dead,.gro 1 j,.dead,.dead],n:=49 }) ?_ ?_
    ·skip
     refine AWp.iterW X (fun (K,s)=>{ env:=[(0,.ptr 0 0),(4,(.own 1 K)),(5,zi r),(6,zi s)],heap:=[.cells [zl 1 i,zl 1 k,zl 1 l,.gref 1 8,zi c,zi m,zi o,zi p,.gref 4 6,.gref 7 1],.gro 8 q,.dead,.dead,.gro 6 e,.dead,.dead,.gro 1 j,.dead,.dead],n:=49 }) ⟨_,zR [some 0,some 1,some 2,some 3,some 4,some 5,some 6,some 7,some 8,some 9] [0,4,5,6],rfl⟩ ?_
     rintro ⟨K,s⟩ c0 a
     dsimp only [Z66L0] at a
     refine zs (zs ?_)
     refine zA ?_
     refine nT ?_
     rcases tf (A.zlt s (A.len e)) with w | w
     ·replace a:=cT w a
      refine zT ?_
      refine zk (nT (zs (zb (zs ?_))))
      obtain ⟨_,P,a⟩:=bindS a
      have d0:=ckI P
      obtain ⟨_,Q,a⟩:=bindS a
      have e0:=ckI Q
      obtain ⟨N,R,a⟩:=bindS a
      have g0:=gcI R
      refine zB ?_
      refine nT ?_
      obtain ⟨b0,g,a⟩:=bindS a
      refine AWp.cutW (fun τ=>τ={ env:=[(0,.ptr 0 0),(4,(.own 1 b0)),(5,zi r),(6,zi s)],heap:=[.cells [zl 1 i,zl 1 k,zl 1 l,.gref 1 8,zi c,zi m,zi o,zi p,.gref 4 6,.gref 7 1],.gro 8 q,.dead,.dead,.gro 6 e,.dead,.dead,.gro 1 j,.dead,.dead],n:=49 }) ?_ ?_
      ·skip
       rcases tf (A.zeq N r) with y | y
       ·replace g:=cT y g
        refine zT ?_
        obtain ⟨k0,S,g⟩:=bindS g
        obtain ⟨i0,j0⟩:=apI S
        refine zB ?_ { tk:=[4,39] }
        cases soI g
        exact oWi ⟨_,zR [some 0,some 1,some 2,some 3,some 4,some 5,some 6,some 7,some 8,some 9] [0,4,5,6],rfl⟩
       ·replace g:=cF y g
        refine zU ?_
        refine zk ?_
        cases soI g
        exact oWi ⟨_,zR [some 0,some 1,some 2,some 3,some 4,some 5,some 6,some 7,some 8,some 9] [0,4,5,6],rfl⟩
      ·rintro _ rfl
       refine nB (nT ?_)
       refine zA ?_
       exact nT ⟨_,(soI a).symm,_,zR [some 0,some 1,some 2,some 3,some 4,some 5,some 6,some 7,some 8,some 9] [0,4,5,6],rfl⟩
     ·replace a:=cF w a
      refine zU ?_
      refine AWp.exit (xT (xT ?_))
      refine exL a fun hx => ?_
      subst hx
      exact oxWI ⟨_,zR [some 0,some 1,some 2,some 3,some 4,some 5,some 6,some 7,some 8,some 9] [0,4,5],_,z,rfl⟩
    ·rintro _ ⟨C,z,rfl⟩
     have b:=(V _ z)
     refine xB (nB (nT ?_))
     refine zA ?_
     exact nT ⟨_,(soI b).symm,_,zR [some 0,some 1,some 2,some 3,some 4,some 5,some 6,some 7,some 8,some 9] [0,4,5],rfl⟩
   ·replace b:=cF v b
    refine zU ?_
    refine AWp.exit (xT (xT ?_))
    refine exL b fun hx => ?_
    subst hx
    exact oxWI ⟨_,zR [some 0,some 1,some 2,some 3,some 4,some 5,some 6,some 7,some 8,some 9] [0,4],_,B,rfl⟩
  ·rintro _ ⟨E,B,rfl⟩
   have h:=(W _ B)
   refine xB (nT (zs ?_))
   refine AWp.rd hT hA {} rfl zc (by kernel_rfl) (lb rfl) ?_
   refine nT (zr ?_)
   cases soI h
   exact zq
 ·replace h:=cF u h
  refine zT ?_
  refine zs ?_
  refine zB ?_
  refine nT (zr (rT ?_))
  cases soI h
  exact zq

theorem Z27w {A:Ar} (hA:SA A) {j k l m g:List D} {i:Int} (h:Z27 A j k l m=some (g,i)):ACall Tryz.prog 27 [zl 1 j,zl 1 k,zl 1 l,zl 1 m] [] (.tuple [zl 1 g,zi i]) []:=by
 unfold Z27 at h
 refine zI Tryz.func27 ?_
 refine zs ?_
 refine zA ?_
 refine nT (zs (zn ?_))
 obtain ⟨s,o,h⟩:=bindS h
 refine zC (Z67w hA o) ?_
 refine zE ?_
 refine nT (zs (zs ?_))
 refine zA ?_
 refine nT ?_
 rcases tf (A.zeq s 0) with c | c
 ·replace h:=cT c h
  refine zU ?_
  refine zk (nT (zs (zs (zn ?_))))
  obtain ⟨u,p,h⟩:=bindS h
  refine zD (Z64w hA p) ?_
  refine zF ?_
  refine nT ?_
  rcases tf u with a | a
  ·replace h:=cT a h
   refine zU ?_
   refine zk (nT (zs (zn ?_)))
   obtain ⟨q,e,h⟩:=bindS h
   rcases q with _ | ⟨v,w,y,z,B,C,E,F,G,J⟩
   ·replace h:=(eL h)
    refine zD (Z70wa hA e) ?_
    refine zF ?_
    refine nT (zs (zs ?_))
    refine zB ?_
    refine nT ?_
    refine zT ?_
    refine zs ?_
    refine zB ?_
    refine nT (zr (rT ?_))
    cases soI h
    exact zq
   ·replace h:=(eR h)
    refine zD (Z70wb hA e) ?_
    refine zF ?_
    refine nT (zs (zs ?_))
    refine zB ?_
    refine nT ?_
    refine zU ?_
    refine zk (nT (zs (zn ?_)))
    obtain ⟨⟨K,r⟩,n,h⟩:=bindS h
    refine zD (Z66w hA n) ?_
    refine zF ?_
    refine nT (zs (zs ?_))
    refine zB ?_
    refine nT ?_
    rcases tf r with b | b
    ·replace h:=cT b h
     refine zU ?_
     refine zk (nT (zs ?_))
     refine zB ?_
     refine nT ?_
     refine AWp.weak (Wk.ren [] [8,9] rfl rfl) ?_
     refine zr ?_
     cases soI h
     exact zq
    ·replace h:=cF b h
     refine zT ?_
     refine zs ?_
     refine zB ?_
     refine nT ?_
     refine AWp.weak (Wk.ren [] [8,9] rfl rfl) ?_
     refine zr (rT ?_)
     cases soI h
     exact zq
  ·replace h:=cF a h
   refine zT ?_
   refine zs ?_
   refine zB ?_
   refine nT (zr (rT ?_))
   cases soI h
   exact zq
 ·replace h:=cF c h
  refine zT ?_
  refine zs ?_
  refine zB ?_
  refine nT (zr (rT ?_))
  cases soI h
  exact zq

theorem Z21w {A:Ar} (hA:SA A) {c e:List D} {l:Bool} (h:Z21 A c e=some l):ACall Tryz.prog 21 [zl 1 c,zl 1 e] [] (.d (.bool l)) []:=by
 unfold Z21 at h
 refine zI Tryz.func21 ?_
 refine zs ?_
 refine zA ?_
 refine nT (zs (zs ?_))
 refine zA ?_
 refine nT ?_
 rcases tf (A.zeq (A.len c) (A.len e)) with j | j
 ·replace h:=cT j h
  refine zU ?_
  refine zk (nT (zs (zs ?_)))
  refine zB ?_
  refine nT (zb ?_)
  obtain ⟨C,u,o,m,b⟩:=bindK h
  refine AWp.cutX 0 [] [] 0 (lb rfl) (fun τ=>o (.inl ())=some l∧τ={ env:=[],heap:=[],n:=26 }) ?_ ?_
  ·skip
   refine AWp.iter u [0,1,5] [] 0 (lb rfl) (fun k=>{ env:=[(0,zl 1 c),(1,zl 1 e),(5,zi k)],heap:=[],n:=26 }) ⟨rfl,zv⟩ ?_
   rintro k v a
   dsimp only [Z21L0] at a
   refine zs (zs ?_)
   refine zA ?_
   refine nT ?_
   rcases tf (A.zlt k (A.len c)) with g | g
   ·replace a:=cT g a
    refine zT ?_
    refine zk (nT (zs (zb (zs ?_))))
    obtain ⟨p,r,a⟩:=bindS a
    obtain ⟨w,y⟩:=gtI r
    obtain ⟨q,s,a⟩:=bindS a
    obtain ⟨z,B⟩:=gtI s
    refine AWp.rd hT hA {} rfl zu (by kernel_rfl) (lb rfl) ?_
    refine nT ?_
    rcases tf (A.zeq p q) with i | i
    ·replace a:=cT i a
     refine zU ?_
     refine zk (nB (nT ?_))
     refine zB ?_
     exact nT ⟨_,(soI a).symm,rfl,zv⟩
    ·replace a:=cF i a
     refine zT ?_
     refine zs ?_
     refine zB ?_
     refine nT (zr (rB (rT (rT ?_))))
     refine exL a fun hx => ?_
     subst hx
     refine oxR ?_
     replace b:=(eR (m _ b))
     refine rB (rT ?_)
     cases soI b
     exact zq
   ·replace a:=cF g a
    refine zU ?_
    refine AWp.exit (xT (xT ?_))
    refine exL a fun hx => ?_
    subst hx
    exact oxI ⟨rfl,b,zv⟩
  ·rintro _ ⟨b,rfl⟩
   have h:=(eL (m _ b))
   refine xB (nT (zs ?_))
   refine zA ?_
   refine nT (zr ?_)
   cases soI h
   exact zq
 ·replace h:=cF j h
  refine zT ?_
  refine zs ?_
  refine zB ?_
  refine nT (zr (rT ?_))
  cases soI h
  exact zq

theorem Z6w {A:Ar} (hA:SA A) {o p:Int} {q r s u c v:List D} {y:Bool} (h:Z6 A o p q r s u c v=some y):ACall Tryz.prog 6 [.d (.agg [.int .i64 o,.int .i64 p,.list 1 q,.list 1 r,.list 1 s,.list 1 u]),zl 1 c,zl 1 v] [] (.d (.bool y)) []:=by
 unfold Z6 at h
 refine zI Tryz.func6 ?_
 refine zs ?_
 refine zA ?_
 refine nT (zs (zs ?_))
 obtain ⟨w,b,h⟩:=bindS h
 refine AWp.cutN [1,2,3,26] [] 0 (lb rfl) (fun τ=>τ={ env:=[(1,zl 1 c),(2,zl 1 v),(3,(.lbox [zi o,zi p,zl 1 q,zl 1 r,zl 1 s,zl 1 u])),(26,.d (.bool w))],heap:=[],n:=91 }) ?_ ?_
 ·skip
  refine zn ?_
  obtain ⟨L,K,b⟩:=bindS b
  refine zC (Z18w hA K) ?_
  rcases tf L with e | e
  ·replace b:=cT e b
   refine zF ?_
   cases soI b
   exact zO
  ·replace b:=cF e b
   rcases tf (A.zlt 60 (A.len c)) with g | g
   ·replace b:=cT g b
    refine zF ?_
    cases soI b
    exact zO
   ·replace b:=cF g b
    refine zF ?_
    cases soI b
    exact zO
 ·rintro _ rfl
  refine nT ?_
  rcases tf w with i | i
  ·replace h:=cT i h
   refine zT ?_
   refine zs (zn ?_)
   obtain ⟨V,z,h⟩:=bindS h
   refine zD (Z9w hA z) ?_ { tk:=[27] }
   refine zF ?_ { tk:=[27] }
   refine nT (zr (rT ?_))
   cases soI h
   exact zq
  ·replace h:=cF i h
   refine zU ?_
   refine zk (nT (zs (zn ?_)))
   obtain ⟨⟨M,N⟩,B,h⟩:=bindS h
   refine zD (Z24w hA B) ?_
   refine zF ?_
   refine nT (zs (zn ?_))
   obtain ⟨⟨O,P⟩,C,h⟩:=bindS h
   refine zD (Z25w hA C) ?_
   refine zF ?_
   refine nT (zs (zn ?_))
   obtain ⟨⟨W,Q⟩,E,h⟩:=bindS h
   refine zD (Z26w hA E) ?_
   refine zF ?_
   refine nT (zs (zn ?_))
   obtain ⟨⟨X,R⟩,F,h⟩:=bindS h
   refine zD (Z27w hA F) ?_
   refine zF ?_
   refine nT (zs ?_)
   obtain ⟨U,a,h⟩:=bindS h
   refine AWp.cutN [6] [] 0 (lb rfl) (fun τ=>τ={ env:=[(6,.d (.bool U))],heap:=[],n:=91 }) ?_ ?_
   ·skip
    refine zn ?_
    rcases tf (A.beq M O) with j | j
    ·replace a:=cT j a
     rcases tf (A.zeq N P) with k | k
     ·replace a:=cT k a
      obtain ⟨S,G,a⟩:=bindS a
      refine zD (Z21w hA G) ?_ { tk:=[90] }
      rcases tf S with l | l
      ·replace a:=cT l a
       rcases tf (A.zeq Q R) with m | m
       ·replace a:=cT m a
        obtain ⟨Y,J,a⟩:=bindS a
        refine zD (Z9w hA J) ?_ { tk:=[90] }
        refine zF ?_ { tk:=[90] }
        cases soI a
        exact zO
       ·replace a:=cF m a
        refine zF ?_ { tk:=[90] }
        cases soI a
        exact zO
      ·replace a:=cF l a
       refine zF ?_ { tk:=[90] }
       cases soI a
       exact zO
     ·replace a:=cF k a
      refine zF ?_ { tk:=[90] }
      cases soI a
      exact zO
    ·replace a:=cF j a
     refine zF ?_ { tk:=[90] }
     cases soI a
     exact zO
   ·rintro _ rfl
    refine nT (zr ?_)
    cases soI h
    exact zq
end Go.Am
