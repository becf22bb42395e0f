/- Own text: Genw3. -/
import Derived.Test.YtkjeamngjnfpkaaGenw2
set_option maxRecDepth 100000
set_option maxHeartbeats 2000000
set_option linter.unusedVariables false
set_option linter.unusedSimpArgs false
namespace Go.Am
open Go Go.Proofs
theorem K43w {A:Ar} (hA:SA A) {j g:List D} {s:Bool} (h:K43 A j g=some s):ACall Try.prog 43 [zl 1 j,zl 1 g] [] (.d (.bool s)) []:=by
 unfold K43 at h
 refine zI Try.func43 ?_
 refine zs ?_
 refine zA ?_
 refine nT (zs (zs (zn ?_)))
 obtain ⟨J,y,h⟩:=bindS h
 refine zC (K51w hA y) ?_
 refine zE ?_
 refine nT ?_
 rcases tf J with o | o
 ·replace h:=cT o h
  refine zU ?_
  refine zk (nT (zs (zs ?_)))
  refine zB ?_
  refine nT (zb ?_)
  obtain ⟨S,G,w,q,c⟩:=bindK h
  refine AWp.cutX 0 [] [] 0 (lb rfl) (fun τ=>w (.inl ())=some s/\τ={ env:=[],heap:=[],n:=44 }) ?_ ?_
  ·skip
   refine AWp.iter G [0,1,5] [] 0 (lb rfl) (fun i=>{ env:=[(0,zl 1 j),(1,zl 1 g),(5,zi i)],heap:=[],n:=44 }) ⟨rfl,zv⟩ ?_
   rintro i E b
   dsimp only [K43L1] at b
   refine zs (zs ?_)
   refine zA ?_
   refine nT ?_
   rcases tf (A.zlt i (A.len g)) with k | k
   ·replace b:=cT k b
    refine zT ?_
    refine zk (nT (zs (zb (zs (zs ?_)))))
    obtain ⟨u,z,b⟩:=bindS b
    obtain ⟨N,O⟩:=gtI z
    refine zB ?_
    refine nT ?_
    rcases tf (A.zlt 3 (A.len u)) with l | l
    ·replace b:=cT l b
     refine zT ?_
     refine zs ?_
     refine zB ?_
     refine nT (zr (rT (rB (rT (rT ?_)))))
     refine exL b fun hx => ?_
     subst hx
     refine oxR ?_
     replace c:=(eR (q _ c))
     refine rB (rT ?_)
     cases soI c
     exact zq
    ·replace b:=cF l b
     refine zU ?_
     refine zk (nT (zs ?_))
     refine zB ?_
     refine nT (zb ?_)
     obtain ⟨R,F,K54,v,e⟩:=bindK b
     refine AWp.cutX 2 [0,1,5] [] 0 (lb rfl) (fun τ=>K54 (.inl ())=some E/\τ={ env:=[(0,zl 1 j),(1,zl 1 g),(5,zi i)],heap:=[],n:=44 }) ?_ ?_
     ·skip
      refine AWp.iter F [0,1,5,6] [] 0 (lb rfl) (fun r=>{ env:=[(0,zl 1 j),(1,zl 1 g),(5,zi i),(6,zi r)],heap:=[],n:=44 }) ⟨rfl,zv⟩ ?_
      rintro r M a
      dsimp only [K43L0] at a
      refine zs (zs ?_)
      refine zB ?_
      refine nT ?_
      rcases tf (A.zlt r (A.len u)) with m | m
      ·replace a:=cT m a
       refine zT ?_
       refine zk (nT (zs (zb (zs (zn ?_)))))
       obtain ⟨L,B,a⟩:=bindS a
       obtain ⟨P,Q⟩:=gtI B
       obtain ⟨K,C,a⟩:=bindS a
       refine zD (K51w hA C) ?_
       refine zF ?_
       refine nT ?_
       rcases tf K with p | p
       ·replace a:=cT p a
        refine zU ?_
        refine zk (nB (nT ?_))
        refine zB ?_
        exact nT ⟨_,(soI a).symm,rfl,zv⟩
       ·replace a:=cF p a
        refine zT ?_
        refine zs ?_
        refine zB ?_
        refine nT (zr (rB (rT (rT ?_))))
        refine exL a fun hx => ?_
        subst hx
        refine oxR ?_
        replace e:=(eR (v _ e))
        refine rB (rB (rT (rT ?_)))
        refine exL e fun hx => ?_
        subst hx
        refine oxR ?_
        replace c:=(eR (q _ c))
        refine rB (rT ?_)
        cases soI c
        exact zq
      ·replace a:=cF m a
       refine zU ?_
       refine AWp.exit (xT (xT ?_))
       refine exL a fun hx => ?_
       subst hx
       exact oxI ⟨rfl,e,zv⟩
     ·rintro _ ⟨e,rfl⟩
      have b:=(eL (v _ e))
      refine xB (nB (nT ?_))
      refine zA ?_
      exact nT ⟨_,(soI b).symm,rfl,zc⟩
   ·replace b:=cF k b
    refine zU ?_
    refine AWp.exit (xT (xT ?_))
    refine exL b fun hx => ?_
    subst hx
    exact oxI ⟨rfl,c,zv⟩
  ·rintro _ ⟨c,rfl⟩
   have h:=(eL (q _ c))
   refine xB (nT (zs ?_))
   refine zA ?_
   refine nT (zr ?_)
   cases soI h
   exact zq
 ·replace h:=cF o h
  refine zT ?_
  refine zs ?_
  refine zB ?_
  refine nT (zr (rT ?_))
  cases soI h
  exact zq

theorem K105w {A:Ar} (hA:SA A) {e g:List D} {c:Int} (h:K105 A e g=some c):ACall Try.prog 105 [zl 1 e,zl 1 g] [] (zi c) []:=by
 unfold K105 at h
 refine zI Try.func105 ?_
 refine zs ?_
 refine zA ?_
 refine nT (zs (zs (zn ?_)))
 obtain ⟨k,i,h⟩:=bindS h
 refine zC (K16w hA i) ?_
 refine zE ?_
 refine nT ?_
 rcases tf k with a | a
 ·replace h:=cT a h
  refine zU ?_
  refine zk (nT (zs (zs (zn ?_))))
  obtain ⟨l,j,h⟩:=bindS h
  refine zD (K43w hA j) ?_
  refine zF ?_
  refine nT ?_
  rcases tf l with b | b
  ·replace h:=cT b h
   refine zU ?_
   refine zk (nT (zs ?_))
   refine zB ?_
   refine nT (zr ?_)
   cases soI h
   exact zq
  ·replace h:=cF b h
   refine zT ?_
   refine zs ?_
   refine zB ?_
   refine nT (zr (rT ?_))
   cases soI h
   exact zq
 ·replace h:=cF a h
  refine zT ?_
  refine zs ?_
  refine zB ?_
  refine nT (zr (rT ?_))
  cases soI h
  exact zq

theorem K91w {A:Ar} (hA:SA A) {k l:List D} {m i:Int} (h:K91 A k l m=some i):ACall Try.prog 91 [zl 1 k,zl 1 l,zi m] [] (zi i) []:=by
 unfold K91 at h
 refine zI Try.func91 ?_
 refine zs ?_
 refine zA ?_
 refine nT (zs (zn ?_))
 obtain ⟨g,o,h⟩:=bindS h
 refine zC (K105w hA o) ?_ { tk:=[10] }
 refine zE ?_ { tk:=[10] }
 refine nT (zs (zs ?_))
 obtain ⟨j,a,h⟩:=bindS h
 refine AWp.cutN [7,17] [] 0 (lb rfl) (fun τ=>τ={ env:=[(7,zi g),(17,.d (.bool j))],heap:=[],n:=19 }) ?_ ?_
 ·skip
  refine zn ?_
  rcases tf (A.zeq g 0) with e | e
  ·replace a:=cT e a
   obtain ⟨r,p,a⟩:=bindS a
   refine zD (K51w hA p) ?_
   refine zF ?_
   cases soI a
   exact zO
  ·replace a:=cF e a
   refine zF ?_
   cases soI a
   exact zO
 ·rintro _ rfl
  refine nT ?_
  obtain ⟨q,b,h⟩:=bindS h
  refine AWp.cutN [7] [] 0 (lb rfl) (fun τ=>τ={ env:=[(7,zi q)],heap:=[],n:=19 }) ?_ ?_
  ·skip
   rcases tf j with c | c
   ·replace b:=cT c b
    refine zT ?_
    refine zB ?_
    cases soI b
    exact zO
   ·replace b:=cF c b
    refine zU ?_
    refine zk ?_
    cases soI b
    exact zO
  ·rintro _ rfl
   refine nT (zs ?_)
   refine zA ?_ { tk:=[7,18] }
   refine nT (zr ?_)
   cases soI h
   exact zq

theorem K76w {A:Ar} (hA:SA A) {g i j a b c e:List D} (h:K76 A g i j=some (a,b,c,e)):ACall Try.prog 76 [zl 1 g,zl 1 i,zl 1 j] [] (.ptr 0 0) [.cells [zl 1 a,zl 1 b,zl 1 c,.gref 1 8,zi 0,zi 0,zi 0,zi 0,.gref 4 6,.gref 7 1],.gro 8 e,.dead,.dead,.gro 6 [],.dead,.dead,.gro 1 [],.dead,.dead]:=by
 unfold K76 at h
 refine zI Try.func76 ?_
 refine zs ?_
 refine zA ?_
 refine nT (zs ?_)
 obtain ⟨_,k,h⟩:=bindS h
 have n:=ckI k
 obtain ⟨_,l,h⟩:=bindS h
 have o:=ckI l
 obtain ⟨_,m,h⟩:=bindS h
 have p:=ckI m
 refine zB ?_ { tk:=[14],esc:=[14],gr:=[12],nl:=[13] }
 refine nT ?_
 refine AWp.weak (Wk.settle 3 8 rfl rfl rfl) ?_
 refine AWp.weak (Wk.settle 3 9 rfl rfl rfl) ?_
 refine AWp.weak (Wk.ren [some 3,some 0,some 1,some 2,some 4,some 5,some 6,some 7,some 8,some 9] [6] rfl rfl) ?_
 refine zr ?_
 cases soI h
 exact zq

theorem K57w {A:Ar} (hA:SA A) {e j k l:List D} {m o p q:Int} {r g:List D} {i:Int} {c:Bool} (h:K57 A e j k l m o p q r g i=some c):ACall Try.prog 57 [.d (.ref [.list 1 e,.list 1 j,.list 1 k,.list 8 l,.int .i64 m,.int .i64 o,.int .i64 p,.int .i64 q,.list 6 r,.list 1 g]),zi i] [] (.d (.bool c)) []:=by
 unfold K57 at h
 refine zI Try.func57 ?_
 refine zs ?_
 refine zA ?_
 refine nT (zs ?_)
 obtain ⟨w,a,h⟩:=bindS h
 refine AWp.cutN [4] [] 0 (lb rfl) (fun τ=>τ={ env:=[(4,.d (.bool w))],heap:=[],n:=32 }) ?_ ?_
 ·skip
  obtain ⟨⟨y,z,s,B,C,E,F,G⟩,u,a⟩:=bindS a
  obtain ⟨K,L⟩:=gtI u
  rcases tf s with b | b
  ·replace a:=cT b a
   refine AWp.rd hT hA { tk:=[31] } rfl zu (by kernel_rfl) (lb rfl) ?_
   cases soI a
   exact zO
  ·replace a:=cF b a
   obtain ⟨J,v,a⟩:=bindS a
   obtain ⟨M,N⟩:=gtI v
   refine AWp.rd hT hA { tk:=[31] } rfl zu (by kernel_rfl) (lb rfl) ?_
   cases soI a
   exact zO
 ·rintro _ rfl
  refine nT (zr ?_)
  cases soI h
  exact zq

theorem K77w {A:Ar} (hA:SA A) {k c m o:List D} {p q r s:Int} {u l:List D} {j:Bool} (h:K77 A k c m o p q r s u l=some j):ACall Try.prog 77 [.d (.ref [.list 1 k,.list 1 c,.list 1 m,.list 8 o,.int .i64 p,.int .i64 q,.int .i64 r,.int .i64 s,.list 6 u,.list 1 l])] [] (.d (.bool j)) []:=by
 unfold K77 at h
 refine zI Try.func77 ?_
 refine zs ?_
 refine zA ?_
 refine nT (zs (zs ?_))
 refine zA ?_
 refine nT (zb ?_)
 obtain ⟨E,z,w,v,b⟩:=bindK h
 refine AWp.cutX 0 [] [] 0 (lb rfl) (fun τ=>w (.inl ())=some j/\τ={ env:=[],heap:=[],n:=16 }) ?_ ?_
 ·skip
  refine AWp.iter z [0,3] [] 0 (lb rfl) (fun i=>{ env:=[(0,.d (.ref [.list 1 k,.list 1 c,.list 1 m,.list 8 o,.int .i64 p,.int .i64 q,.int .i64 r,.int .i64 s,.list 6 u,.list 1 l])),(3,zi i)],heap:=[],n:=16 }) ⟨rfl,zc⟩ ?_
  rintro i C a
  dsimp only [K77L0] at a
  refine zs (zs ?_)
  refine zA ?_
  refine nT ?_
  rcases tf (A.zlt i (A.len c)) with e | e
  ·replace a:=cT e a
   refine zT ?_
   refine zk (nT (zs (zb (zs (zn ?_)))))
   obtain ⟨B,y,a⟩:=bindS a
   refine zD (K57w hA y) ?_
   refine zF ?_
   refine nT ?_
   rcases tf B with g | g
   ·replace a:=cT g a
    refine zT ?_
    refine zs ?_
    refine zB ?_
    refine nT (zr (rB (rT (rT ?_))))
    refine exL a fun hx => ?_
    subst hx
    refine oxR ?_
    replace b:=(eR (v _ b))
    refine rB (rT ?_)
    cases soI b
    exact zq
   ·replace a:=cF g a
    refine zU ?_
    refine zk (nB (nT ?_))
    refine zB ?_
    exact nT ⟨_,(soI a).symm,rfl,zv⟩
  ·replace a:=cF e a
   refine zU ?_
   refine AWp.exit (xT (xT ?_))
   refine exL a fun hx => ?_
   subst hx
   exact oxI ⟨rfl,b,zv⟩
 ·rintro _ ⟨b,rfl⟩
  have h:=(eL (v _ b))
  refine xB (nT (zs ?_))
  refine zA ?_
  refine nT (zr ?_)
  cases soI h
  exact zq

theorem K150w {A:Ar} (hA:SA A) {n p q r:List D} {s u v w:Int} {y o a b c:List D} {e g i j:Int} {k l m:List D} (h:K150 A n p q r s u v w y o=some (a,b,c,e,g,i,j,k,l,m)):ACall Try.prog 150 [.d (.ref [.list 1 n,.list 1 p,.list 1 q,.list 8 r,.int .i64 s,.int .i64 u,.int .i64 v,.int .i64 w,.list 6 y,.list 1 o])] [] (.ptr 0 0) [.cells [zl 1 a,zl 1 b,zl 1 c,.gref 1 8,zi e,zi g,zi i,zi j,.gref 4 6,.gref 7 1],.gro 8 k,.dead,.dead,.gro 6 l,.dead,.dead,.gro 1 m,.dead,.dead]:=by
 unfold K150 at h
 refine zI Try.func150 ?_
 refine zs ?_
 refine zA ?_
 refine nT (zs ?_)
 refine zA ?_ { tk:=[6],esc:=[3] }
 refine nT (zs ?_)
 obtain ⟨M,z,h⟩:=bindS h
 obtain ⟨E,F⟩:=apI z
 refine zB ?_ { gr:=[12] }
 refine nT ?_
 refine AWp.weak (Wk.settle 0 3 rfl rfl rfl) ?_
 refine zs ?_
 obtain ⟨N,B,h⟩:=bindS h
 obtain ⟨G,J⟩:=apI B
 refine zB ?_ { tk:=[19],gr:=[19] }
 refine nT ?_
 refine AWp.weak (Wk.settle 0 8 rfl rfl rfl) ?_
 refine zs ?_
 obtain ⟨O,C,h⟩:=bindS h
 obtain ⟨K,L⟩:=apI C
 refine zB ?_ { tk:=[26],gr:=[26] }
 refine nT ?_
 refine AWp.weak (Wk.settle 0 9 rfl rfl rfl) ?_
 refine zs ?_
 refine zA ?_ { tk:=[3] }
 refine nT (zr ?_)
 cases soI h
 exact zq

theorem K78w {A:Ar} (hA:SA A) {m:Int} {r s o:List D} {c z B C:Int} {x9 q0 r0 d0 e0 g0:List D} {i0 j0 k0 l0:Int} {m0 n0 o0:List D} (h:K78 A m r s o c z B C x9 q0 r0=some (d0,e0,g0,i0,j0,k0,l0,m0,n0,o0)):ACall Try.prog 78 [.ptr 1 0,zi m] [.dead,.cells [zl 1 r,zl 1 s,zl 1 o,.gref 2 8,zi c,zi z,zi B,zi C,.gref 5 6,.gref 8 1],.gro 8 x9,.dead,.dead,.gro 6 q0,.dead,.dead,.gro 1 r0,.dead,.dead] (.tuple []) [.dead,.cells [zl 1 d0,zl 1 e0,zl 1 g0,.gref 11 8,zi i0,zi j0,zi k0,zi l0,.gref 14 6,.gref 17 1],.dead,.dead,.dead,.dead,.dead,.dead,.dead,.dead,.dead,.gro 8 m0,.dead,.dead,.gro 6 n0,.dead,.dead,.gro 1 o0,.dead,.dead]:=by
 unfold K78 at h
 refine zI Try.func78 ?_
 refine zs ?_
 obtain ⟨_,l1,h⟩:=bindS h
 have f14:=ckI l1
 obtain ⟨_,n1,h⟩:=bindS h
 have f15:=ckI n1
 refine zB ?_
 refine nT (zs ?_)
 refine zA ?_ { tk:=[20] }
 refine nT (zs ?_)
 refine zA ?_
 refine nT (zs (zs ?_))
 obtain ⟨⟨q6,s6,v0,d7,i7,q7,s7,u7⟩,z2,h⟩:=bindS h
 have f25:=gcI z2
 refine zB ?_
 refine nT ?_
 obtain ⟨⟨p0,b0,u⟩,l,h⟩:=bindS h
 refine AWp.cutW (fun τ=>τ={ env:=[(0,.ptr 1 0),(4,(.eptr 11 8 m 0)),(5,zi c)],heap:=[.dead,(.cells [zl 1 r,zl 1 s,zl 1 o,.gref 11 8,(.d (.int .i64 (A.wrp .i64 (A.zadd c 1)))),zi z,zi B,zi C,.gref 14 6,.gref 17 1]),.dead,.dead,.dead,.dead,.dead,.dead,.dead,.dead,.dead,.gro 8 p0,.dead,.dead,.gro 6 b0,.dead,.dead,.gro 1 u,.dead,.dead],n:=285 }) ?_ ?_
 ·skip
  rcases tf v0 with Q | Q
  ·replace l:=cT Q l
   refine zU ?_
   refine zk ?_
   cases soI l
   exact oWi ⟨_,zR [some 0,some 1,none,none,none,none,none,none,none,none,none,some 2,some 3,some 4,some 5,some 6,some 7,some 8,some 9,some 10] [0,4,5],rfl⟩
  ·replace l:=cF Q l
   refine zT ?_
   refine zs ?_
   refine AWp.rd hT hA { tk:=[45] } rfl zu (by kernel_rfl) (lb rfl) ?_
   refine nT (zs ?_)
   obtain ⟨v8,l3,l⟩:=bindS l
   obtain ⟨f29,f30⟩:=gtI l3
   obtain ⟨⟨e9,i9,q9,u9,v9,w9,y9,z9⟩,s3,l⟩:=bindS l
   have f40:=gcI s3
   obtain ⟨a41,u3,l⟩:=bindS l
   obtain ⟨f43,f44⟩:=gtI u3
   obtain ⟨l45,v3,l⟩:=bindS l
   obtain ⟨f47,f48⟩:=apI v3
   refine AWp.rd hT hA { tk:=[51,72] } rfl zu (by kernel_rfl) (lb rfl) ?_
   refine nT ?_
   refine AWp.weak (Wk.settle 1 8 rfl rfl rfl) ?_
   obtain ⟨l49,w3,l⟩:=bindS l
   obtain ⟨f51,f52⟩:=apI w3
   refine zB ?_ { tk:=[79,81] }
   cases soI l
   exact oWi ⟨_,(Wk.trans (Wk.settle 1 9 rfl rfl rfl) (zR [some 0,some 1,none,none,none,some 5,some 6,some 7,some 8,some 9,some 10,some 2,some 3,some 4,some 11,some 12,some 13,some 14,some 15,some 16] [0,4,5])),rfl⟩
 ·rintro _ rfl
  refine nT (zs ?_)
  obtain ⟨⟨y0,v,z0,a1,b1,c1,d1,e1⟩,y3,h⟩:=bindS h
  have f66:=gcI y3
  obtain ⟨_,z3,h⟩:=bindS h
  have f69:=ckI z3
  obtain ⟨_,a4,h⟩:=bindS h
  have f70:=ckI a4
  obtain ⟨⟨a71,a72,w,a74,a75,a76⟩,b4,h⟩:=bindS h
  have f78:=gcI b4
  refine AWp.rd hT hA {} rfl zu (by kernel_rfl) (lb rfl) ?_
  refine nT (zs ?_)
  refine zB ?_
  refine nT (zs ?_)
  obtain ⟨a79,c4,h⟩:=bindS h
  obtain ⟨f81,f82⟩:=gtI c4
  obtain ⟨⟨E,a84,a85,a86⟩,d4,h⟩:=bindS h
  obtain ⟨f88,f89⟩:=gtI d4
  refine zB ?_ { tk:=[108] }
  refine nT (zs ?_)
  refine zB ?_
  refine nT (zs ?_)
  refine zA ?_
  refine nT (zs (zs ?_))
  refine zA ?_
  refine nT (zb (zs ?_))
  refine zA ?_
  refine nT ?_
  obtain ⟨⟨V,W,X,Y,a0⟩,i,h⟩:=bindS h
  refine AWp.cutW (fun τ=>τ={ env:=[(0,.ptr 1 0),(4,(.eptr 11 8 m 0)),(5,zi c),(6,zi w),(7,zi v)],heap:=[.dead,(.cells [zl 1 r,zl 1 s,zl 1 o,.gref 11 8,(.d (.int .i64 (A.wrp .i64 (A.zadd c 1)))),zi V,zi W,zi X,.gref 14 6,.gref 17 1]),.dead,.dead,.dead,.dead,.dead,.dead,.dead,.dead,.dead,.gro 8 Y,.dead,.dead,.gro 6 a0,.dead,.dead,.gro 1 u,.dead,.dead],n:=285 }) ?_ ?_
  ·skip
   rcases tf (A.zeq E 1) with U | U
   ·replace i:=cT U i
    refine zT ?_
    obtain ⟨_,e4,i⟩:=bindS i
    have f93:=ckI e4
    obtain ⟨_,g4,i⟩:=bindS i
    have f94:=ckI g4
    obtain ⟨a95,i4,i⟩:=bindS i
    have f97:=gcI i4
    obtain ⟨_,j4,i⟩:=bindS i
    have f100:=ckI j4
    obtain ⟨_,k4,i⟩:=bindS i
    have f101:=ckI k4
    obtain ⟨⟨n5,o5,p5,q5,r5,s5,u5,v5⟩,g1,i⟩:=bindS i
    have f111:=gcI g1
    refine AWp.rd hT hA { tk:=[130],vx:=[129,132] } rfl zu (by kernel_rfl) (lb rfl) ?_
    cases soI i
    exact oWi ⟨_,zR [some 0,some 1,some 2,some 3,some 4,some 5,some 6,some 7,some 8,some 9,some 10,some 11,some 12,some 13,some 14,some 15,some 16,some 17,some 18,some 19] [0,4,5,6,7],rfl⟩
   ·replace i:=cF U i
    refine zU ?_
    refine zs ?_
    refine zB ?_
    refine nT ?_
    obtain ⟨⟨g5,i5,j5,k5,l5⟩,g,i⟩:=bindS i
    refine AWp.cutW (fun τ=>τ={ env:=[(0,.ptr 1 0),(4,(.eptr 11 8 m 0)),(5,zi c),(6,zi w),(7,zi v)],heap:=[.dead,(.cells [zl 1 r,zl 1 s,zl 1 o,.gref 11 8,(.d (.int .i64 (A.wrp .i64 (A.zadd c 1)))),zi g5,zi i5,zi j5,.gref 14 6,.gref 17 1]),.dead,.dead,.dead,.dead,.dead,.dead,.dead,.dead,.dead,.gro 8 k5,.dead,.dead,.gro 6 l5,.dead,.dead,.gro 1 u,.dead,.dead],n:=285 }) ?_ ?_
    ·skip
     rcases tf (A.zeq E 2) with G | G
     ·replace g:=cT G g
      refine zT ?_
      obtain ⟨_,i1,g⟩:=bindS g
      have f115:=ckI i1
      obtain ⟨_,j1,g⟩:=bindS g
      have f116:=ckI j1
      obtain ⟨⟨y5,z5,a6,b6,c6,d6,e6,g6⟩,m1,g⟩:=bindS g
      have f129:=gcI m1
      obtain ⟨w5,k1,g⟩:=bindS g
      have f119:=gcI k1
      obtain ⟨_,o1,g⟩:=bindS g
      have f132:=ckI o1
      obtain ⟨_,p1,g⟩:=bindS g
      have f133:=ckI p1
      refine AWp.rd hT hA { tk:=[143],vx:=[142,146] } rfl zu (by kernel_rfl) (lb rfl) ?_
      cases soI g
      exact oWi ⟨_,zR [some 0,some 1,some 2,some 3,some 4,some 5,some 6,some 7,some 8,some 9,some 10,some 11,some 12,some 13,some 14,some 15,some 16,some 17,some 18,some 19] [0,4,5,6,7],rfl⟩
     ·replace g:=cF G g
      refine zU ?_
      refine zs ?_
      refine zB ?_
      refine nT ?_
      obtain ⟨⟨a5,b5,c5,d5,e5⟩,e,g⟩:=bindS g
      refine AWp.cutW (fun τ=>τ={ env:=[(0,.ptr 1 0),(4,(.eptr 11 8 m 0)),(5,zi c),(6,zi w),(7,zi v)],heap:=[.dead,(.cells [zl 1 r,zl 1 s,zl 1 o,.gref 11 8,(.d (.int .i64 (A.wrp .i64 (A.zadd c 1)))),zi a5,zi b5,zi c5,.gref 14 6,.gref 17 1]),.dead,.dead,.dead,.dead,.dead,.dead,.dead,.dead,.dead,.gro 8 d5,.dead,.dead,.gro 6 e5,.dead,.dead,.gro 1 u,.dead,.dead],n:=285 }) ?_ ?_
      ·skip
       rcases tf (A.zeq E 3) with J | J
       ·replace e:=cT J e
        refine zT ?_
        refine zs ?_
        refine zB ?_
        refine nT (zs (zs ?_))
        obtain ⟨_,q1,e⟩:=bindS e
        have f137:=ckI q1
        obtain ⟨_,r1,e⟩:=bindS e
        have f138:=ckI r1
        obtain ⟨s0,s1,e⟩:=bindS e
        have f141:=gcI s1
        obtain ⟨_,u1,e⟩:=bindS e
        have f144:=ckI u1
        obtain ⟨_,v1,e⟩:=bindS e
        have f145:=ckI v1
        obtain ⟨⟨i6,j6,k6,l6,m6,n6,o6,p6⟩,y1,e⟩:=bindS e
        have f158:=gcI y1
        obtain ⟨u0,w1,e⟩:=bindS e
        have f148:=gcI w1
        refine AWp.rd hT hA { vx:=[154,160] } rfl zu (by kernel_rfl) (lb rfl) ?_
        refine nT ?_
        obtain ⟨⟨l4,m4,n4,o4⟩,k,e⟩:=bindS e
        refine AWp.cutW (fun τ=>τ={ env:=[(0,.ptr 1 0),(4,(.eptr 11 8 m 0)),(5,zi c),(6,zi w),(7,zi v),(9,(.eptr 11 8 m 4)),(10,zi l4)],heap:=[.dead,(.cells [zl 1 r,zl 1 s,zl 1 o,.gref 11 8,(.d (.int .i64 (A.wrp .i64 (A.zadd c 1)))),zi m4,zi n4,zi o4,.gref 14 6,.gref 17 1]),.dead,.dead,.dead,.dead,.dead,.dead,.dead,.dead,.dead,(.gro 8 (A.lset p0 (A.nat m) (.agg [.int .i64 y0,(.int .i64 (A.wrp .i64 (A.zadd v 1))),.bool z0,.int .i64 a1,.int .i64 b1,.int .i64 c1,.int .i64 d1,.int .i64 e1]))),.dead,.dead,.gro 6 b0,.dead,.dead,.gro 1 u,.dead,.dead],n:=285 }) ?_ ?_
        ·skip
         rcases tf (A.zeq s0 u0) with K | K
         ·replace k:=cT K k
          refine zT ?_
          refine zs ?_
          obtain ⟨_,z1,k⟩:=bindS k
          have f162:=ckI z1
          obtain ⟨_,a2,k⟩:=bindS k
          have f163:=ckI a2
          obtain ⟨r6,b2,k⟩:=bindS k
          have f166:=gcI b2
          obtain ⟨_,c2,k⟩:=bindS k
          have f169:=ckI c2
          obtain ⟨_,d2,k⟩:=bindS k
          have f170:=ckI d2
          refine AWp.rd hT hA { tk:=[171],vx:=[170,174] } rfl zu (by kernel_rfl) (lb rfl) ?_
          refine nT ?_
          refine zB ?_
          cases soI k
          exact oWi ⟨_,zR [some 0,some 1,some 2,some 3,some 4,some 5,some 6,some 7,some 8,some 9,some 10,some 11,some 12,some 13,some 14,some 15,some 16,some 17,some 18,some 19] [0,4,5,6,7,9,10],rfl⟩
         ·replace k:=cF K k
          refine zU ?_
          refine zk ?_
          cases soI k
          exact oWi ⟨_,zR [some 0,some 1,some 2,some 3,some 4,some 5,some 6,some 7,some 8,some 9,some 10,some 11,some 12,some 13,some 14,some 15,some 16,some 17,some 18,some 19] [0,4,5,6,7,9,10],rfl⟩
        ·rintro _ rfl
         refine nT ?_
         refine zB ?_ { tk:=[10,176] }
         cases soI e
         exact oWi ⟨_,zR [some 0,some 1,some 2,some 3,some 4,some 5,some 6,some 7,some 8,some 9,some 10,some 11,some 12,some 13,some 14,some 15,some 16,some 17,some 18,some 19] [0,4,5,6,7],rfl⟩
       ·replace e:=cF J e
        refine zU ?_
        refine zs ?_
        refine zB ?_
        refine nT ?_
        obtain ⟨⟨y4,z4⟩,p,e⟩:=bindS e
        refine AWp.cutW (fun τ=>τ={ env:=[(0,.ptr 1 0),(4,(.eptr 11 8 m 0)),(5,zi c),(6,zi w),(7,zi v)],heap:=[.dead,(.cells [zl 1 r,zl 1 s,zl 1 o,.gref 11 8,(.d (.int .i64 (A.wrp .i64 (A.zadd c 1)))),zi z,zi B,zi C,.gref 14 6,.gref 17 1]),.dead,.dead,.dead,.dead,.dead,.dead,.dead,.dead,.dead,.gro 8 y4,.dead,.dead,.gro 6 z4,.dead,.dead,.gro 1 u,.dead,.dead],n:=285 }) ?_ ?_
        ·skip
         rcases tf (A.zeq E 4) with L | L
         ·replace p:=cT L p
          refine zT ?_
          obtain ⟨_,e2,p⟩:=bindS p
          have f179:=ckI e2
          obtain ⟨_,g2,p⟩:=bindS p
          have f180:=ckI g2
          obtain ⟨⟨u6,v6,w6,y6,z6,a7,b7,c7⟩,i2,p⟩:=bindS p
          have f190:=gcI i2
          refine AWp.rd hT hA { tk:=[185],vx:=[187] } rfl zu (by kernel_rfl) (lb rfl) ?_
          cases soI p
          exact oWi ⟨_,zR [some 0,some 1,some 2,some 3,some 4,some 5,some 6,some 7,some 8,some 9,some 10,some 11,some 12,some 13,some 14,some 15,some 16,some 17,some 18,some 19] [0,4,5,6,7],rfl⟩
         ·replace p:=cF L p
          refine zU ?_
          refine zs ?_
          refine zB ?_
          refine nT ?_
          obtain ⟨⟨v4,w4⟩,a,p⟩:=bindS p
          refine AWp.cutW (fun τ=>τ={ env:=[(0,.ptr 1 0),(4,(.eptr 11 8 m 0)),(5,zi c),(6,zi w),(7,zi v)],heap:=[.dead,(.cells [zl 1 r,zl 1 s,zl 1 o,.gref 11 8,(.d (.int .i64 (A.wrp .i64 (A.zadd c 1)))),zi z,zi B,zi C,.gref 14 6,.gref 17 1]),.dead,.dead,.dead,.dead,.dead,.dead,.dead,.dead,.dead,.gro 8 v4,.dead,.dead,.gro 6 w4,.dead,.dead,.gro 1 u,.dead,.dead],n:=285 }) ?_ ?_
          ·skip
           rcases tf (A.zeq E 5) with M | M
           ·replace a:=cT M a
            refine zT ?_
            obtain ⟨_,j2,a⟩:=bindS a
            have f194:=ckI j2
            obtain ⟨_,k2,a⟩:=bindS a
            have f195:=ckI k2
            obtain ⟨⟨g7,j7,k7,l7,m7,n7,o7,p7⟩,m2,a⟩:=bindS a
            have f208:=gcI m2
            obtain ⟨e7,l2,a⟩:=bindS a
            have f198:=gcI l2
            obtain ⟨_,n2,a⟩:=bindS a
            have f211:=ckI n2
            obtain ⟨_,o2,a⟩:=bindS a
            have f212:=ckI o2
            obtain ⟨r7,p2,a⟩:=bindS a
            have f215:=gcI p2
            obtain ⟨_,q2,a⟩:=bindS a
            have f217:=nkI q2
            obtain ⟨_,r2,a⟩:=bindS a
            have f220:=ckI r2
            obtain ⟨_,s2,a⟩:=bindS a
            have f221:=ckI s2
            refine AWp.rd hT hA { tk:=[206],vx:=[197,203,208] } rfl zu (by kernel_rfl) (lb rfl) ?_
            cases soI a
            exact oWi ⟨_,zR [some 0,some 1,some 2,some 3,some 4,some 5,some 6,some 7,some 8,some 9,some 10,some 11,some 12,some 13,some 14,some 15,some 16,some 17,some 18,some 19] [0,4,5,6,7],rfl⟩
           ·replace a:=cF M a
            refine zU ?_
            refine zs ?_
            refine zB ?_
            refine nT ?_
            obtain ⟨⟨s4,u4⟩,j,a⟩:=bindS a
            refine AWp.cutW (fun τ=>τ={ env:=[(0,.ptr 1 0),(4,(.eptr 11 8 m 0)),(5,zi c),(6,zi w),(7,zi v)],heap:=[.dead,(.cells [zl 1 r,zl 1 s,zl 1 o,.gref 11 8,(.d (.int .i64 (A.wrp .i64 (A.zadd c 1)))),zi z,zi B,zi C,.gref 14 6,.gref 17 1]),.dead,.dead,.dead,.dead,.dead,.dead,.dead,.dead,.dead,.gro 8 s4,.dead,.dead,.gro 6 u4,.dead,.dead,.gro 1 u,.dead,.dead],n:=285 }) ?_ ?_
            ·skip
             rcases tf (A.zeq E 6) with N | N
             ·replace j:=cT N j
              refine zT ?_
              refine zs ?_
              obtain ⟨_,u2,j⟩:=bindS j
              have f225:=ckI u2
              obtain ⟨_,v2,j⟩:=bindS j
              have f226:=ckI v2
              obtain ⟨⟨v7,w7,y7,z7,a8,b8,c8,d8⟩,y2,j⟩:=bindS j
              have f239:=gcI y2
              obtain ⟨w0,w2,j⟩:=bindS j
              have f229:=gcI w2
              refine AWp.rd hT hA { vx:=[215] } rfl zu (by kernel_rfl) (lb rfl) ?_
              refine nT ?_
              obtain ⟨p4,F,j⟩:=bindS j
              refine AWp.cutW (fun τ=>τ={ env:=[(0,.ptr 1 0),(4,(.eptr 11 8 m 0)),(5,zi c),(6,zi w),(7,zi v)],heap:=[.dead,(.cells [zl 1 r,zl 1 s,zl 1 o,.gref 11 8,(.d (.int .i64 (A.wrp .i64 (A.zadd c 1)))),zi z,zi B,zi C,.gref 14 6,.gref 17 1]),.dead,.dead,.dead,.dead,.dead,.dead,.dead,.dead,.dead,.gro 8 p4,.dead,.dead,.gro 6 b0,.dead,.dead,.gro 1 u,.dead,.dead],n:=285 }) ?_ ?_
              ·skip
               rcases tf (A.zeq w0 0) with O | O
               ·replace F:=cT O F
                refine zT ?_
                refine zB ?_
                cases soI F
                exact oWi ⟨_,zR [some 0,some 1,some 2,some 3,some 4,some 5,some 6,some 7,some 8,some 9,some 10,some 11,some 12,some 13,some 14,some 15,some 16,some 17,some 18,some 19] [0,4,5,6,7],rfl⟩
               ·replace F:=cF O F
                refine zU ?_
                refine zk ?_
                cases soI F
                exact oWi ⟨_,zR [some 0,some 1,some 2,some 3,some 4,some 5,some 6,some 7,some 8,some 9,some 10,some 11,some 12,some 13,some 14,some 15,some 16,some 17,some 18,some 19] [0,4,5,6,7],rfl⟩
              ·rintro _ rfl
               cases soI j
               exact oWi ⟨_,zR [some 0,some 1,some 2,some 3,some 4,some 5,some 6,some 7,some 8,some 9,some 10,some 11,some 12,some 13,some 14,some 15,some 16,some 17,some 18,some 19] [0,4,5,6,7],rfl⟩
             ·replace j:=cF N j
              refine zU ?_
              refine zs ?_
              refine zB ?_
              refine nT ?_
              obtain ⟨⟨q4,r4⟩,b,j⟩:=bindS j
              refine AWp.cutW (fun τ=>τ={ env:=[(0,.ptr 1 0),(4,(.eptr 11 8 m 0)),(5,zi c),(6,zi w),(7,zi v)],heap:=[.dead,(.cells [zl 1 r,zl 1 s,zl 1 o,.gref 11 8,(.d (.int .i64 (A.wrp .i64 (A.zadd c 1)))),zi z,zi B,zi C,.gref 14 6,.gref 17 1]),.dead,.dead,.dead,.dead,.dead,.dead,.dead,.dead,.dead,.gro 8 q4,.dead,.dead,.gro 6 r4,.dead,.dead,.gro 1 u,.dead,.dead],n:=285 }) ?_ ?_
              ·skip
               rcases tf (A.zeq E 7) with P | P
               ·replace b:=cT P b
                refine zT ?_
                refine zs ?_
                obtain ⟨⟨e8,g8,i8,j8,k8,l8,m8,n8⟩,a3,b⟩:=bindS b
                have f253:=gcI a3
                obtain ⟨_,b3,b⟩:=bindS b
                have f256:=ckI b3
                obtain ⟨_,c3,b⟩:=bindS b
                have f257:=ckI c3
                obtain ⟨⟨o8,p8,q8,r8,s8,u8⟩,d3,b⟩:=bindS b
                have f265:=gcI d3
                refine AWp.rd hT hA {} rfl zu (by kernel_rfl) (lb rfl) ?_
                refine nT (zs ?_)
                obtain ⟨_,e3,b⟩:=bindS b
                have f268:=ckI e3
                obtain ⟨_,g3,b⟩:=bindS b
                have f269:=ckI g3
                obtain ⟨w8,i3,b⟩:=bindS b
                have f272:=gcI i3
                obtain ⟨_,j3,b⟩:=bindS b
                have f275:=ckI j3
                obtain ⟨_,k3,b⟩:=bindS b
                have f276:=ckI k3
                obtain ⟨⟨y8,z8,a9,b9,c9,d9⟩,m3,b⟩:=bindS b
                have f284:=gcI m3
                refine AWp.rd hT hA { vx:=[250] } rfl zu (by kernel_rfl) (lb rfl) ?_
                refine nT ?_
                refine zB ?_
                cases soI b
                exact oWi ⟨_,zR [some 0,some 1,some 2,some 3,some 4,some 5,some 6,some 7,some 8,some 9,some 10,some 11,some 12,some 13,some 14,some 15,some 16,some 17,some 18,some 19] [0,4,5,6,7],rfl⟩
               ·replace b:=cF P b
                refine zU ?_
                refine zk ?_
                cases soI b
                exact oWi ⟨_,zR [some 0,some 1,some 2,some 3,some 4,some 5,some 6,some 7,some 8,some 9,some 10,some 11,some 12,some 13,some 14,some 15,some 16,some 17,some 18,some 19] [0,4,5,6,7],rfl⟩
              ·rintro _ rfl
               cases soI j
               exact oWi ⟨_,zR [some 0,some 1,some 2,some 3,some 4,some 5,some 6,some 7,some 8,some 9,some 10,some 11,some 12,some 13,some 14,some 15,some 16,some 17,some 18,some 19] [0,4,5,6,7],rfl⟩
            ·rintro _ rfl
             cases soI a
             exact oWi ⟨_,zR [some 0,some 1,some 2,some 3,some 4,some 5,some 6,some 7,some 8,some 9,some 10,some 11,some 12,some 13,some 14,some 15,some 16,some 17,some 18,some 19] [0,4,5,6,7],rfl⟩
          ·rintro _ rfl
           cases soI p
           exact oWi ⟨_,zR [some 0,some 1,some 2,some 3,some 4,some 5,some 6,some 7,some 8,some 9,some 10,some 11,some 12,some 13,some 14,some 15,some 16,some 17,some 18,some 19] [0,4,5,6,7],rfl⟩
        ·rintro _ rfl
         cases soI e
         exact oWi ⟨_,zR [some 0,some 1,some 2,some 3,some 4,some 5,some 6,some 7,some 8,some 9,some 10,some 11,some 12,some 13,some 14,some 15,some 16,some 17,some 18,some 19] [0,4,5,6,7],rfl⟩
      ·rintro _ rfl
       cases soI g
       exact oWi ⟨_,zR [some 0,some 1,some 2,some 3,some 4,some 5,some 6,some 7,some 8,some 9,some 10,some 11,some 12,some 13,some 14,some 15,some 16,some 17,some 18,some 19] [0,4,5,6,7],rfl⟩
    ·rintro _ rfl
     cases soI i
     exact oWi ⟨_,zR [some 0,some 1,some 2,some 3,some 4,some 5,some 6,some 7,some 8,some 9,some 10,some 11,some 12,some 13,some 14,some 15,some 16,some 17,some 18,some 19] [0,4,5,6,7],rfl⟩
  ·rintro _ rfl
   refine nB (nT (zs ?_))
   obtain ⟨c0,y,h⟩:=bindS h
   refine AWp.cutW (fun τ=>τ={ env:=[(0,.ptr 1 0),(4,(.eptr 11 8 m 0)),(5,zi c),(274,.d (.bool c0))],heap:=[.dead,(.cells [zl 1 r,zl 1 s,zl 1 o,.gref 11 8,(.d (.int .i64 (A.wrp .i64 (A.zadd c 1)))),zi V,zi W,zi X,.gref 14 6,.gref 17 1]),.dead,.dead,.dead,.dead,.dead,.dead,.dead,.dead,.dead,.gro 8 Y,.dead,.dead,.gro 6 a0,.dead,.dead,.gro 1 u,.dead,.dead],n:=285 }) ?_ ?_
   ·skip
    rcases tf (A.zlt w (A.len o)) with R | R
    ·replace y:=cT R y
     obtain ⟨g9,n3,y⟩:=bindS y
     obtain ⟨f318,f319⟩:=gtI n3
     refine zB ?_
     cases soI y
     exact oWi ⟨_,zR [some 0,some 1,some 2,some 3,some 4,some 5,some 6,some 7,some 8,some 9,some 10,some 11,some 12,some 13,some 14,some 15,some 16,some 17,some 18,some 19] [0,4,5,274],rfl⟩
    ·replace y:=cF R y
     refine zB ?_
     cases soI y
     exact oWi ⟨_,zR [some 0,some 1,some 2,some 3,some 4,some 5,some 6,some 7,some 8,some 9,some 10,some 11,some 12,some 13,some 14,some 15,some 16,some 17,some 18,some 19] [0,4,5,274],rfl⟩
   ·rintro _ rfl
    refine nT ?_
    obtain ⟨m5,q,h⟩:=bindS h
    refine AWp.cutW (fun τ=>τ={ env:=[],heap:=[.dead,(.cells [zl 1 r,zl 1 s,zl 1 o,.gref 11 8,(.d (.int .i64 (A.wrp .i64 (A.zadd c 1)))),zi V,zi W,zi X,.gref 14 6,.gref 17 1]),.dead,.dead,.dead,.dead,.dead,.dead,.dead,.dead,.dead,.gro 8 Y,.dead,.dead,.gro 6 a0,.dead,.dead,.gro 1 m5,.dead,.dead],n:=285 }) ?_ ?_
    ·skip
     rcases tf c0 with S | S
     ·replace q:=cT S q
      refine zT ?_
      obtain ⟨⟨j9,k9,l9,m9,n9,o9,p9,r9⟩,o3,q⟩:=bindS q
      have f332:=gcI o3
      obtain ⟨_,p3,q⟩:=bindS q
      have f335:=ckI p3
      obtain ⟨_,q3,q⟩:=bindS q
      have f336:=ckI q3
      obtain ⟨s9,r3,q⟩:=bindS q
      have f339:=gcI r3
      refine AWp.rd hT hA { tk:=[5,283] } rfl zu (by kernel_rfl) (lb rfl) ?_
      cases soI q
      exact oWi ⟨_,zR [some 0,some 1,some 2,some 3,some 4,some 5,some 6,some 7,some 8,some 9,some 10,some 11,some 12,some 13,some 14,some 15,some 16,some 17,some 18,some 19] [],rfl⟩
     ·replace q:=cF S q
      refine zU ?_
      refine zk ?_
      cases soI q
      exact oWi ⟨_,zR [some 0,some 1,some 2,some 3,some 4,some 5,some 6,some 7,some 8,some 9,some 10,some 11,some 12,some 13,some 14,some 15,some 16,some 17,some 18,some 19] [],rfl⟩
    ·rintro _ rfl
     cases soI h
     exact zq

theorem K129Bw {A:Ar} (hA:SA A) {self65:List D->List D->List D->List D->Int->Int->Int->Int->List D->List D->List D->Int->List D->Option (List D)} (W : ∀ {i e l m:List D} {o p q r:Int} {s j k:List D} {c:Int} {u K:List D},self65 i e l m o p q r s j k c u=some K->ACallO Try.prog 129 [.d (.ref [.list 1 i,.list 1 e,.list 1 l,.list 8 m,.int .i64 o,.int .i64 p,.int .i64 q,.int .i64 r,.list 6 s,.list 1 j]),zl 1 k,zi c,(.own 2 u)] [.dead] (.own 2 K) [.dead]) {i e l m:List D} {o p q r:Int} {s j k:List D} {c:Int} {u F:List D} (h:K129B A self65 i e l m o p q r s j k c u=some F):ACallO Try.prog 129 [.d (.ref [.list 1 i,.list 1 e,.list 1 l,.list 8 m,.int .i64 o,.int .i64 p,.int .i64 q,.int .i64 r,.list 6 s,.list 1 j]),zl 1 k,zi c,(.own 2 u)] [.dead] (.own 2 F) [.dead]:=by
 unfold K129B at h
 refine ACallO.enter hT (fn:=Try.f129) (H0:=[]) 3 rfl Try.func129 rfl (by decide) (by simp [Try.f129]) rfl rfl rfl rfl (lb rfl) ?_
 refine AWpT.of ?_
 refine zs ?_
 refine zA ?_
 refine nT (zs (zs ?_))
 obtain ⟨G,g,h⟩:=bindS h
 refine AWp.cutN [0,1,2,3,16] [] 1 (lb rfl) (fun τ=>τ={ env:=[(0,.d (.ref [.list 1 i,.list 1 e,.list 1 l,.list 8 m,.int .i64 o,.int .i64 p,.int .i64 q,.int .i64 r,.list 6 s,.list 1 j])),(1,zl 1 k),(2,zi c),(3,(.own 2 u)),(16,.d (.bool G))],heap:=[.dead],n:=52 }) ?_ ?_
 ·skip
  refine zn ?_
  rcases tf (A.zeq c 0) with w | w
  ·replace g:=cT w g
   refine zF ?_
   cases soI g
   exact zO
  ·replace g:=cF w g
   obtain ⟨y0,L,g⟩:=bindS g
   refine zD (K77w hA L) ?_
   refine zF ?_
   cases soI g
   exact zO
 ·rintro _ rfl
  refine nT ?_
  rcases tf G with y | y
  ·replace h:=cT y h
   refine zT ?_
   refine zs ?_
   obtain ⟨u0,M,h⟩:=bindS h
   obtain ⟨n0,o0⟩:=apI M
   refine zB ?_ { tk:=[3,22] }
   refine nT (zr (rT ?_))
   cases soI h
   exact zq
  ·replace h:=cF y h
   refine zU ?_
   refine zk (nT (zs (zs ?_)))
   refine zB ?_
   refine nT (zb ?_)
   obtain ⟨m1,V,K103,U,C⟩:=bindK h
   refine AWp.cutX 0 [3] [] 1 (lb rfl) (fun τ => ∃ E,K103 E=some F/\τ={ env:=[(3,(.own 2 E))],heap:=[.dead],n:=52 }) ?_ ?_
   ·skip
    refine AWp.iter V [0,1,2,3,9] [] 1 (lb rfl) (fun (J,v)=>{ env:=[(0,.d (.ref [.list 1 i,.list 1 e,.list 1 l,.list 8 m,.int .i64 o,.int .i64 p,.int .i64 q,.int .i64 r,.list 6 s,.list 1 j])),(1,zl 1 k),(2,zi c),(3,(.own 2 J)),(9,zi v)],heap:=[.dead],n:=52 }) ⟨rfl,zv⟩ ?_
    rintro ⟨J,v⟩ m0 b
    dsimp only [K129L0] at b
    refine zs (zs ?_)
    refine zA ?_
    refine nT ?_
    rcases tf (A.zlt v (A.len e)) with z | z
    ·replace b:=cT z b
     refine zT ?_
     refine zk (nT (zs (zb (zs (zn ?_)))))
     obtain ⟨X,N,b⟩:=bindS b
     refine zD (K57w hA N) ?_
     refine zF ?_
     refine nT ?_
     obtain ⟨l0,a,b⟩:=bindS b
     refine AWp.cutN [0,1,2,3,9] [] 1 (lb rfl) (fun τ=>τ={ env:=[(0,.d (.ref [.list 1 i,.list 1 e,.list 1 l,.list 8 m,.int .i64 o,.int .i64 p,.int .i64 q,.int .i64 r,.list 6 s,.list 1 j])),(1,zl 1 k),(2,zi c),(3,(.own 2 l0)),(9,zi v)],heap:=[.dead],n:=52 }) ?_ ?_
     ·skip
      rcases tf X with B | B
      ·replace a:=cT B a
       refine zT ?_
       refine zs (zn ?_)
       obtain ⟨⟨z0,a1,b1,c1,d1,e1,g1,i1,j1,k1⟩,O,a⟩:=bindS a
       refine zD (ACall.shift (K150w hA O) rfl rfl [.dead] rfl rfl rfl rfl) ?_
       refine zF ?_
       refine nT (zs (zn ?_))
       obtain ⟨⟨Y,a0,b0,c0,d0,e0,g0,i0,j0,k0⟩,P,a⟩:=bindS a
       refine zD (K78w hA P) ?_
       refine zF ?_
       refine nT ?_
       refine AWp.weak (Wk.freezeG 1 3 rfl rfl rfl) ?_
       refine AWp.weak (Wk.freezeG 1 8 rfl rfl rfl) ?_
       refine AWp.weak (Wk.freezeG 1 9 rfl rfl rfl) ?_
       refine AWp.weak (Wk.freezeObj 1 [10,36,37] (ds:=[.list 1 Y,.list 1 a0,.list 1 b0,.list 8 i0,.int .i64 c0,.int .i64 d0,.int .i64 e0,.int .i64 g0,.list 6 j0,.list 1 k0]) rfl rfl) ?_
       refine zn ?_
       obtain ⟨v0,Q,a⟩:=bindS a
       obtain ⟨p0,q0⟩:=apI Q
       obtain ⟨w0,R,a⟩:=bindS a
       obtain ⟨r0,s0⟩:=apI R
       obtain ⟨l1,S,a⟩:=bindS a
       refine AOps.cO hT hA { tk:=[3,50] } 3 zu (lb rfl) (ACallO.emb (W S) [some 20] [.dead,.dead,.dead,.dead,.dead,.dead,.dead,.dead,.dead,.dead,.dead,.dead,.dead,.dead,.dead,.dead,.dead,.dead,.dead,.dead,.dead] rfl rfl rfl rfl rfl rfl rfl rfl) rfl rfl rfl rfl rfl rfl rfl rfl (lb rfl) rfl rfl ?_
       refine zF ?_ { tk:=[3,50] }
       cases soI a
       exact zO
      ·replace a:=cF B a
       refine zU ?_
       refine zk ?_
       cases soI a
       exact zO
     ·rintro _ rfl
      refine nB (nT ?_)
      refine zA ?_
      exact nT ⟨_,(soI b).symm,rfl,zc⟩
    ·replace b:=cF z b
     refine zU ?_
     refine AWp.exit (xT (xT ?_))
     refine exL b fun hx => ?_
     subst hx
     exact oxI ⟨rfl,_,C,zv⟩
   ·rintro _ ⟨E,C,rfl⟩
    have h:=(U _ C)
    refine xB (nT (zs ?_))
    refine zA ?_ { tk:=[3,51] }
    refine nT (zr ?_)
    cases soI h
    exact zq

theorem K129Rw {A:Ar} (hA:SA A) : ∀ (n:Nat) {b j k l:List D} {m o p q:Int} {r c e:List D} {g:Int} {i a:List D},K129R A n b j k l m o p q r c e g i=some a->ACallO Try.prog 129 [.d (.ref [.list 1 b,.list 1 j,.list 1 k,.list 8 l,.int .i64 m,.int .i64 o,.int .i64 p,.int .i64 q,.list 6 r,.list 1 c]),zl 1 e,zi g,(.own 2 i)] [.dead] (.own 2 a) [.dead]
 | 0,_,_,_,_,_,_,_,_,_,_,_,_,_,_,h=>by cases h
 | n+1,_,_,_,_,_,_,_,_,_,_,_,_,_,_,h=>K129Bw hA (fun h=>K129Rw hA n h) h

theorem K129w {A:Ar} (hA:SA A) {b j k l:List D} {m n o p:Int} {q c e:List D} {g:Int} {i a:List D} (h:K129 A b j k l m n o p q c e g i=some a):ACallO Try.prog 129 [.d (.ref [.list 1 b,.list 1 j,.list 1 k,.list 8 l,.int .i64 m,.int .i64 n,.int .i64 o,.int .i64 p,.list 6 q,.list 1 c]),zl 1 e,zi g,(.own 2 i)] [.dead] (.own 2 a) [.dead]:=K129Rw hA fuel h

theorem K92w {A:Ar} (hA:SA A) {b c e:List D} {g:Int} {a:List D} (h:K92 A b c e g=some a):ACall Try.prog 92 [zl 1 b,zl 1 c,zl 1 e,zi g] [] (.own 2 a) []:=by
 unfold K92 at h
 refine zI Try.func92 ?_
 refine zs ?_
 refine zA ?_
 refine nT (zs (zn ?_))
 obtain ⟨⟨k,l,m,n⟩,j,h⟩:=bindS h
 refine zC (K76w hA j) ?_ { tk:=[14] }
 refine AOps.weak (Wk.freezeG 0 3 rfl rfl rfl) ?_
 refine AOps.weak (Wk.freezeG 0 8 rfl rfl rfl) ?_
 refine AOps.weak (Wk.freezeG 0 9 rfl rfl rfl) ?_
 refine AOps.weak (Wk.freezeObj 0 [12] (ds:=[.list 1 k,.list 1 l,.list 1 m,.list 8 n,.int .i64 0,.int .i64 0,.int .i64 0,.int .i64 0,.list 6 [],.list 1 []]) rfl rfl) ?_
 obtain ⟨o,i,h⟩:=bindS h
 refine AOps.cN hT hA { tk:=[14] } 3 2 zc (lb rfl) (ACallO.emb (K129w hA i) [some 10] [.dead,.dead,.dead,.dead,.dead,.dead,.dead,.dead,.dead,.dead,.dead] rfl rfl rfl rfl rfl rfl rfl rfl) rfl rfl (fun _=>rfl) rfl rfl rfl rfl rfl (lb rfl) rfl rfl ?_
 refine zE ?_ { tk:=[14] }
 refine nT (zr ?_)
 cases soI h
 exact zq

theorem K37w {A:Ar} (hA:SA A) {e g:List D} {i c b:Int} (h:K37 A e g i=some (c,b)):ACall Try.prog 37 [zl 1 e,zl 1 g,zi i] [] (.tuple [zi c,zi b]) []:=by
 unfold K37 at h
 refine zI Try.func37 ?_
 refine zs ?_
 refine zA ?_
 refine nT (zs (zn ?_))
 obtain ⟨l,j,h⟩:=bindS h
 refine zC (K91w hA j) ?_
 refine zE ?_
 refine nT (zs (zs ?_))
 refine zA ?_
 refine nT ?_
 rcases tf (A.zeq l 0) with a | a
 ·replace h:=cT a h
  refine zU ?_
  refine zk (nT (zs (zn ?_)))
  obtain ⟨m,k,h⟩:=bindS h
  refine zD (K92w hA k) ?_
  refine zF ?_
  refine nT (zr ?_)
  cases soI h
  exact zq
 ·replace h:=cF a h
  refine zT ?_
  refine zs ?_
  refine zB ?_
  refine nT (zr (rT ?_))
  cases soI h
  exact zq

theorem K93w {A:Ar} (hA:SA A) {b p:List D} {w y z B C E F c e g i j k l m n o q:Int} {r s u v a:List D} (h:K93 A b p w y z B C E F c e g i j k l m n o q r s u v=some a):ACall Try.prog 93 [.d (.ref [.list 1 b,.list 1 p,.int .i64 w,.int .i64 y,.int .i64 z,.int .i64 B,.int .i64 C,.int .i64 E,.int .i64 F,.int .i64 c,.int .i64 e,.int .i64 g,.int .i64 i,.int .i64 j,.int .i64 k,.int .i64 l,.int .i64 m,.int .i64 n,.int .i64 o,.int .i64 q,.list 6 r,.list 1 s]),zl 1 u,.ptr 0 0] [(.cells [(.own 1 v)])] (.d (.bool true)) [(.cells [(.own 1 a)])]:=by
 unfold K93 at h
 refine zI Try.func93 ?_
 refine zs ?_
 refine zA ?_
 refine nT (zs ?_)
 obtain ⟨L,G,h⟩:=bindS h
 obtain ⟨J,K⟩:=apI G
 refine AWp.rd hT hA { tk:=[6,12] } rfl zu (by kernel_rfl) (lb rfl) ?_
 refine nT (zs ?_)
 refine zA ?_
 refine nT (zr ?_)
 cases soI h
 exact zq

theorem K85cBw {A:Ar} (hA:SA A) {self73:List D->List D->Int->Int->Int->Int->Int->Int->Int->Int->Int->Int->Int->Int->Int->Int->Int->Int->Int->Int->List D->List D->Int->List D->List D->List D->(Option (Bool×List D))} (o0 : ∀ {b q:List D} {v w y z B C E c e g i j k l m o p r:Int} {s u:List D} {F:Int} {G J K:List D} {y1:Bool} {y2:List D},self73 b q v w y z B C E c e g i j k l m o p r s u F G J K=some (y1,y2)->ACall Try.prog 85 [.d (.agg [.list 1 b,.list 1 q,.int .i64 v,.int .i64 w,.int .i64 y,.int .i64 z,.int .i64 B,.int .i64 C,.int .i64 E,.int .i64 c,.int .i64 e,.int .i64 g,.int .i64 i,.int .i64 j,.int .i64 k,.int .i64 l,.int .i64 m,.int .i64 o,.int .i64 p,.int .i64 r,.list 6 s,.list 1 u]),zi F,zl 1 G,zl 1 J,(.func 93 [] [.ptr 0 0])] [(.cells [(.own 1 K)])] (.d (.bool y1)) [(.cells [(.own 1 y2)])]) {b q:List D} {v w y z B C E c e g i j k l m o p r:Int} {s u:List D} {F:Int} {G J K:List D} {W:Bool} {X:List D} (h:K85cB A self73 b q v w y z B C E c e g i j k l m o p r s u F G J K=some (W,X)):ACall Try.prog 85 [.d (.agg [.list 1 b,.list 1 q,.int .i64 v,.int .i64 w,.int .i64 y,.int .i64 z,.int .i64 B,.int .i64 C,.int .i64 E,.int .i64 c,.int .i64 e,.int .i64 g,.int .i64 i,.int .i64 j,.int .i64 k,.int .i64 l,.int .i64 m,.int .i64 o,.int .i64 p,.int .i64 r,.list 6 s,.list 1 u]),zi F,zl 1 G,zl 1 J,(.func 93 [] [.ptr 0 0])] [(.cells [(.own 1 K)])] (.d (.bool W)) [(.cells [(.own 1 X)])]:=by
 unfold K85cB at h
 refine zI Try.func85 ?_
 refine zs ?_
 refine zA ?_ { esc:=[5] }
 refine nT (zs (zn ?_))
 obtain ⟨N,l0,h⟩:=bindS h
 refine zC (ACall.emb (K56w hA l0) [some 1] [(.cells [(.own 1 K)]),.cells [zl 1 b,zl 1 q,zi v,zi w,zi y,zi z,zi B,zi C,zi E,zi c,zi e,zi g,zi i,zi j,zi k,zi l,zi m,zi o,zi p,zi r,zl 6 s,zl 1 u]] rfl rfl rfl rfl rfl rfl rfl) ?_
 refine zE ?_
 refine nT (zs (zs ?_))
 obtain ⟨a0,M,h⟩:=bindS h
 refine AWp.cutW (fun τ=>τ={ env:=[(1,zi F),(2,zl 1 G),(3,zl 1 J),(4,(.func 93 [] [.ptr 0 0])),(5,.ptr 1 0),(11,zl 1 N),(24,.d (.bool a0))],heap:=[(.cells [(.own 1 K)]),.cells [zl 1 b,zl 1 q,zi v,zi w,zi y,zi z,zi B,zi C,zi E,zi c,zi e,zi g,zi i,zi j,zi k,zi l,zi m,zi o,zi p,zi r,zl 6 s,zl 1 u]],n:=55 }) ?_ ?_
 ·skip
  rcases tf (A.zeq (A.len N) 0) with R | R
  ·replace M:=cT R M
   refine zB ?_
   cases soI M
   exact oWi ⟨_,zR [some 0,some 1] [1,2,3,4,5,11,24],rfl⟩
  ·replace M:=cF R M
   refine zB ?_
   cases soI M
   exact oWi ⟨_,zR [some 0,some 1] [1,2,3,4,5,11,24],rfl⟩
 ·rintro _ rfl
  refine nT ?_
  rcases tf a0 with S | S
  ·replace h:=cT S h
   refine zT ?_
   refine zs ?_
   refine AWp.weak (Wk.freezeObj 1 [5] (ds:=[.list 1 b,.list 1 q,.int .i64 v,.int .i64 w,.int .i64 y,.int .i64 z,.int .i64 B,.int .i64 C,.int .i64 E,.int .i64 c,.int .i64 e,.int .i64 g,.int .i64 i,.int .i64 j,.int .i64 k,.int .i64 l,.int .i64 m,.int .i64 o,.int .i64 p,.int .i64 r,.list 6 s,.list 1 u]) rfl rfl) ?_
   refine zn ?_
   obtain ⟨k3,m0,h⟩:=bindS h
   refine zD (K93w hA m0) ?_ { tk:=[27] }
   refine zF ?_ { tk:=[27] }
   refine nT (zr (rT ?_))
   cases soI h
   exact zq
  ·replace h:=cF S h
   refine zU ?_
   refine zk (nT (zs (zs ?_)))
   refine zB ?_
   refine nT (zb ?_)
   obtain ⟨l3,n0,b0,Y,L⟩:=bindK h
   refine AWp.cutX 0 [] [] 2 (lb rfl) (fun τ => ∃ V,b0 (.inl V)=some (W,X)/\τ={ env:=[],heap:=[(.cells [(.own 1 V)]),.cells [zl 1 b,zl 1 q,zi v,zi w,zi y,zi z,zi B,zi C,zi E,zi c,zi e,zi g,zi i,zi j,zi k,zi l,zi m,zi o,zi p,zi r,zl 6 s,zl 1 u]],n:=55 }) ?_ ?_
   ·skip
    refine AWp.iter n0 [1,2,3,4,5,28,29,30] [] 2 (lb rfl) (fun (U,O)=>{ env:=[(1,zi F),(2,zl 1 G),(3,zl 1 J),(4,(.func 93 [] [.ptr 0 0])),(5,.ptr 1 0),(28,zl 1 N),(29,(.d (.int .i64 (A.len N)))),(30,zi U)],heap:=[(.cells [(.own 1 O)]),.cells [zl 1 b,zl 1 q,zi v,zi w,zi y,zi z,zi B,zi C,zi E,zi c,zi e,zi g,zi i,zi j,zi k,zi l,zi m,zi o,zi p,zi r,zl 6 s,zl 1 u]],n:=55 }) ⟨rfl,zv⟩ ?_
    rintro ⟨U,O⟩ r1 a
    dsimp only [K85cL0] at a
    refine zs ?_
    refine zA ?_
    refine nT (zs ?_)
    rcases tf (A.zlt U (A.len N)) with P | P
    ·replace a:=cT P a
     refine zT ?_
     refine zk (nT (zs (zb (zs ?_))))
     obtain ⟨q1,c0,a⟩:=bindS a
     obtain ⟨s1,u1⟩:=gtI c0
     refine zB ?_
     refine nT (zs (zn ?_))
     obtain ⟨⟨p0,q0,r0,s0,u0,v0,w0,y0,z0,a1,b1,c1,d1,e1,g1,i1,j1,k1,l1,m1,n1,o1⟩,d0,a⟩:=bindS a
     refine zD (ACall.shift (K124w hA d0) rfl rfl [(.cells [(.own 1 O)]),.cells [zl 1 b,zl 1 q,zi v,zi w,zi y,zi z,zi B,zi C,zi E,zi c,zi e,zi g,zi i,zi j,zi k,zi l,zi m,zi o,zi p,zi r,zl 6 s,zl 1 u]] rfl rfl rfl rfl) ?_ { tk:=[35],esc:=[14] }
     refine zF ?_ { tk:=[35],esc:=[14] }
     refine nT (zs (zn ?_))
     obtain ⟨⟨i2,j2,k2,l2,m2,n2,o2,p2,q2,r2,s2,u2,v2,w2,z2,a3,b3,c3,d3,e3,g3,i3⟩,e0,a⟩:=bindS a
     refine zD (ACall.emb (K71w hA e0) [some 8,some 2,some 3,some 4,some 5,some 6,some 7] [(.cells [(.own 1 O)]),.cells [zl 1 b,zl 1 q,zi v,zi w,zi y,zi z,zi B,zi C,zi E,zi c,zi e,zi g,zi i,zi j,zi k,zi l,zi m,zi o,zi p,zi r,zl 6 s,zl 1 u],.gro 6 n1,.dead,.dead,.gro 1 o1,.dead,.dead,.cells [zl 1 p0,zl 1 q0,zi r0,zi s0,zi u0,zi v0,zi w0,zi y0,zi z0,zi a1,zi b1,zi c1,zi d1,zi e1,zi g1,zi i1,zi j1,zi k1,zi l1,zi m1,.gref 2 6,.gref 5 1]] rfl rfl rfl rfl rfl rfl rfl) ?_
     refine zF ?_
     refine nT (zs ?_)
     refine AWp.weak (Wk.freezeG 8 20 rfl rfl rfl) ?_
     refine AWp.weak (Wk.freezeG 8 21 rfl rfl rfl) ?_
     refine AWp.regionDraw rfl (lb rfl) ?_
     obtain ⟨e2,g0,a⟩:=bindS a
     obtain ⟨v1,w1,z1,a2⟩:=slI g0
     obtain ⟨_,i0,a⟩:=bindS a
     have b2:=ckI i0
     obtain ⟨g2,j0,a⟩:=bindS a
     obtain ⟨c2,d2⟩:=apI j0
     obtain ⟨⟨p1,j3⟩,k0,a⟩:=bindS a
     refine DOps.cl hT hA {} rfl zu (o0 k0) rfl rfl rfl rfl rfl (lb rfl) rfl rfl ?_
     refine DOps.cd hT hA {} rfl zu (by kernel_rfl) ?_
     refine nT ?_
     rcases tf p1 with Q | Q
     ·replace a:=cT Q a
      refine zU ?_
      refine zk (nB (nT ?_))
      refine zB ?_
      exact nT ⟨_,(soI a).symm,rfl,zv⟩
     ·replace a:=cF Q a
      refine zT ?_
      refine zs ?_
      refine zB ?_
      refine nT (zr (rB (rT (rT ?_))))
      refine exL a fun hx => ?_
      subst hx
      refine oxR ?_
      replace L:=(eR (Y _ L))
      refine rB (rT ?_)
      cases soI L
      exact zq
    ·replace a:=cF P a
     refine zU ?_
     refine AWp.exit (xT (xT ?_))
     refine exL a fun hx => ?_
     subst hx
     exact oxI ⟨rfl,_,L,zv⟩
   ·rintro _ ⟨V,L,rfl⟩
    have h:=(eL (Y _ L))
    refine xB (nT (zs ?_))
    refine zA ?_
    refine nT (zr ?_)
    cases soI h
    exact zq
end Go.Am
