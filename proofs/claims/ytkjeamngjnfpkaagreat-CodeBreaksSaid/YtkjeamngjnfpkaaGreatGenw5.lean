/- Own text: Genw5. -/
import Derived.Test.YtkjeamngjnfpkaaGreatGenw4
set_option maxRecDepth 100000
set_option maxHeartbeats 2000000
set_option linter.unusedVariables false
set_option linter.unusedSimpArgs false
namespace Go.Am
open Go Go.Proofs
theorem Z49w {A:Ar} (hA:SA A) {g i:List D} {q:Bool} (h:Z49 A g i=some q):ACall Tryz.prog 49 [zl 4 g,zl 6 i] [] (.d (.bool q)) []:=by
 unfold Z49 at h
 refine zI Tryz.func49 ?_
 refine zs ?_
 refine zA ?_
 refine nT (zs (zs ?_))
 obtain ⟨u,c,h⟩:=bindS h
 refine AWp.cutN [0,1,13] [] 0 (lb rfl) (fun τ=>τ={ env:=[(0,zl 4 g),(1,zl 6 i),(13,.d (.bool u))],heap:=[],n:=45 }) ?_ ?_
 ·skip
  refine zn ?_
  obtain ⟨F,y,c⟩:=bindS c
  refine zC (Z48w hA y) ?_
  rcases tf F with o | o
  ·replace c:=cT o c
   obtain ⟨X,C,c⟩:=bindS c
   refine zD (Z91w hA C) ?_
   refine zF ?_
   cases soI c
   exact zO
  ·replace c:=cF o c
   refine zF ?_
   cases soI c
   exact zO
 ·rintro _ rfl
  refine nT ?_
  rcases tf u with k | k
  ·replace h:=cT k h
   refine zT ?_
   refine zs ?_
   refine zB ?_
   refine nT (zr (rT ?_))
   cases soI h
   exact zq
  ·replace h:=cF k h
   refine zU ?_
   refine zk (nT (zs (zs ?_)))
   refine zB ?_
   refine nT (zb ?_)
   obtain ⟨Y,E,v,r,e⟩:=bindK h
   refine AWp.cutX 0 [] [] 0 (lb rfl) (fun τ=>v (.inl ())=some q∧τ={ env:=[],heap:=[],n:=45 }) ?_ ?_
   ·skip
    refine AWp.iter E [0,1,5] [] 0 (lb rfl) (fun j=>{ env:=[(0,zl 4 g),(1,zl 6 i),(5,zi j)],heap:=[],n:=45 }) ⟨rfl,zv⟩ ?_
    rintro j R a
    dsimp only [Z49L0] at a
    refine zs (zs ?_)
    refine zA ?_
    refine nT ?_
    rcases tf (A.zlt j (A.len i)) with l | l
    ·replace a:=cT l a
     refine zT ?_
     refine zk (nT (zs (zb (zs ?_))))
     obtain ⟨s,b,a⟩:=bindS a
     refine AWp.cutN [0,1,5,44] [] 0 (lb rfl) (fun τ=>τ={ env:=[(0,zl 4 g),(1,zl 6 i),(5,zi j),(44,.d (.bool s))],heap:=[],n:=45 }) ?_ ?_
     ·skip
      obtain ⟨⟨G,w,J,K,L,M⟩,z,b⟩:=bindS b
      obtain ⟨S,U⟩:=gtI z
      rcases tf (A.zle (A.len g) w) with m | m
      ·replace b:=cT m b
       refine AWp.rd hT hA {} rfl zu (by kernel_rfl) (lb rfl) ?_
       cases soI b
       exact zO
      ·replace b:=cF m b
       obtain ⟨⟨N,O,P,Q⟩,B,b⟩:=bindS b
       obtain ⟨V,W⟩:=gtI B
       refine AWp.rd hT hA {} rfl zu (by kernel_rfl) (lb rfl) ?_
       cases soI b
       exact zO
     ·rintro _ rfl
      refine nT ?_
      rcases tf s with p | p
      ·replace a:=cT p a
       refine zT ?_
       refine zs ?_
       refine zB ?_
       refine nT (zr (rB (rT (rT ?_))))
       refine exL a fun hx => ?_
       subst hx
       refine oxR ?_
       replace e:=(eR (r _ e))
       refine rB (rT ?_)
       cases soI e
       exact zq
      ·replace a:=cF p a
       refine zU ?_
       refine zk (nB (nT ?_))
       refine zB ?_
       exact nT ⟨_,(soI a).symm,rfl,zv⟩
    ·replace a:=cF l a
     refine zU ?_
     refine AWp.exit (xT (xT ?_))
     refine exL a fun hx => ?_
     subst hx
     exact oxI ⟨rfl,e,zv⟩
   ·rintro _ ⟨e,rfl⟩
    have h:=(eL (r _ e))
    refine xB (nT (zs ?_))
    refine zA ?_
    refine nT (zr ?_)
    cases soI h
    exact zq

theorem Z92w {A:Ar} (hA:SA A) {e g:List D} {c:Int} (h:Z92 A e g=some c):ACall Tryz.prog 92 [zl 4 e,zl 6 g] [] (zi c) []:=by
 unfold Z92 at h
 refine zI Tryz.func92 ?_
 refine zs ?_
 refine zA ?_
 refine nT (zs (zs (zn ?_)))
 obtain ⟨k,i,h⟩:=bindS h
 refine zC (Z48w hA i) ?_
 refine zE ?_
 refine nT ?_
 rcases tf k with a | a
 ·replace h:=cT a h
  refine zU ?_
  refine zk (nT (zs (zs (zn ?_))))
  obtain ⟨l,j,h⟩:=bindS h
  refine zD (Z49w hA j) ?_
  refine zF ?_
  refine nT ?_
  rcases tf l with b | b
  ·replace h:=cT b h
   refine zU ?_
   refine zk (nT (zs ?_))
   refine zB ?_
   refine nT (zr ?_)
   cases soI h
   exact zq
  ·replace h:=cF b h
   refine zT ?_
   refine zs ?_
   refine zB ?_
   refine nT (zr (rT ?_))
   cases soI h
   exact zq
 ·replace h:=cF a h
  refine zT ?_
  refine zs ?_
  refine zB ?_
  refine nT (zr (rT ?_))
  cases soI h
  exact zq

theorem Z136aw {A:Ar} (hA:SA A) {g l:List D} {m:Bool} (h:Z136a A g l=some m):ACall Tryz.prog 136 [zl 6 g,zl 1 l] [] (.d (.bool m)) []:=by
 unfold Z136a at h
 refine zI Tryz.func136 ?_
 refine zs ?_
 refine zA ?_
 refine nT (zs (zs ?_))
 refine zA ?_
 refine nT ?_
 rcases tf (A.zlt (A.len g) (A.len l)) with s | s
 ·replace h:=cT s h
  refine zT ?_
  refine zs ?_
  refine zB ?_
  refine nT (zr (rT ?_))
  cases soI h
  exact zq
 ·replace h:=cF s h
  refine zU ?_
  refine zk (nT (zs ?_))
  obtain ⟨_,Y,h⟩:=bindS h
  have f4:=ckI Y
  obtain ⟨_,e8,h⟩:=bindS h
  have f5:=ckI e8
  obtain ⟨_,e9,h⟩:=bindS h
  have f6:=ckI e9
  refine zB ?_
  refine nT (zs (zs ?_))
  refine zB ?_
  refine nT (zb ?_)
  obtain ⟨l1,b0,J,C,j⟩:=bindK h
  refine AWp.cutX 0 [0,5] [] 1 (lb rfl) (fun τ => ∃ k,J (.inl k)=some m∧τ={ env:=[(0,zl 6 g),(5,.mref 0 1 0 (A.len g))],heap:=[(.arr 1 k)],n:=65 }) ?_ ?_
  ·skip
   refine AWp.iter b0 [0,1,5,6] [] 1 (lb rfl) (fun (o,z)=>{ env:=[(0,zl 6 g),(1,zl 1 l),(5,.mref 0 1 0 (A.len g)),(6,zi o)],heap:=[(.arr 1 z)],n:=65 }) ⟨rfl,zv⟩ ?_
   rintro ⟨o,z⟩ r0 a
   dsimp only [Z136aL0] at a
   refine zs (zs ?_)
   refine zA ?_
   refine nT ?_
   rcases tf (A.zlt o (A.len l)) with u | u
   ·replace a:=cT u a
    refine zT ?_
    refine zk (nT (zs (zb (zs (zs ?_)))))
    obtain ⟨F,b,a⟩:=bindS a
    refine AWp.cutN [0,1,5,6,39] [] 1 (lb rfl) (fun τ=>τ={ env:=[(0,zl 6 g),(1,zl 1 l),(5,.mref 0 1 0 (A.len g)),(6,zi o),(39,.d (.bool F))],heap:=[(.arr 1 z)],n:=65 }) ?_ ?_
    ·skip
     refine zn ?_
     obtain ⟨e0,P,b⟩:=bindS b
     obtain ⟨z0,a1⟩:=gtI P
     obtain ⟨c0,Q,b⟩:=bindS b
     refine zD (Z90w hA Q) ?_
     rcases tf c0 with v | v
     ·replace b:=cT v b
      obtain ⟨_,R,b⟩:=bindS b
      have b1:=ckI R
      obtain ⟨_,S,b⟩:=bindS b
      have c1:=ckI S
      obtain ⟨g0,U,b⟩:=bindS b
      have d1:=gcI U
      refine zF ?_
      cases soI b
      exact zO
     ·replace b:=cF v b
      refine zF ?_
      cases soI b
      exact zO
    ·rintro _ rfl
     refine nT ?_
     rcases tf F with w | w
     ·replace a:=cT w a
      refine zT ?_
      refine zs ?_
      refine zB ?_
      refine nT (zr (rT (rB (rT (rT ?_)))))
      refine exL a fun hx => ?_
      subst hx
      refine oxR ?_
      replace j:=(eR (C _ j))
      refine rB (rT ?_)
      cases soI j
      exact zq
     ·replace a:=cF w a
      refine zU ?_
      refine zk (nT ?_)
      obtain ⟨i0,V,a⟩:=bindS a
      obtain ⟨e1,g1⟩:=gtI V
      obtain ⟨_,W,a⟩:=bindS a
      have i1:=ckI W
      obtain ⟨_,X,a⟩:=bindS a
      have j1:=ckI X
      obtain ⟨o0,p0,a⟩:=bindS a
      refine zB ?_
      refine nB (nT ?_)
      refine zB ?_
      exact nT ⟨_,(soI a).symm,rfl,zv⟩
   ·replace a:=cF u a
    refine zU ?_
    refine AWp.exit (xT (xT ?_))
    refine exL a fun hx => ?_
    subst hx
    exact oxI ⟨rfl,_,j,zv⟩
  ·rintro _ ⟨k,j,rfl⟩
   have h:=(eL (C _ j))
   refine xB (nT (zs (zs ?_)))
   refine zA ?_
   refine nT (zb ?_)
   obtain ⟨k1,a0,G,B,i⟩:=bindK h
   refine AWp.cutX 2 [] [] 1 (lb rfl) (fun τ=>G (.inl ())=some m∧τ={ env:=[],heap:=[(.arr 1 k)],n:=65 }) ?_ ?_
   ·skip
    refine AWp.iter a0 [0,5,7] [] 1 (lb rfl) (fun p=>{ env:=[(0,zl 6 g),(5,.mref 0 1 0 (A.len g)),(7,zi p)],heap:=[(.arr 1 k)],n:=65 }) ⟨rfl,zc⟩ ?_
    rintro p q0 c
    dsimp only [Z136aL1] at c
    refine zs (zs ?_)
    refine zA ?_
    refine nT ?_
    rcases tf (A.zlt p (A.len g)) with y | y
    ·replace c:=cT y c
     refine zT ?_
     refine zk (nT (zs (zb (zs ?_))))
     obtain ⟨E,e,c⟩:=bindS c
     refine AWp.cutN [0,5,7,64] [] 1 (lb rfl) (fun τ=>τ={ env:=[(0,zl 6 g),(5,.mref 0 1 0 (A.len g)),(7,zi p),(64,.d (.bool E))],heap:=[(.arr 1 k)],n:=65 }) ?_ ?_
     ·skip
      obtain ⟨⟨j0,k0,l0,m0,n0,K⟩,L,e⟩:=bindS e
      obtain ⟨s0,u0⟩:=gtI L
      rcases tf (A.zeq K 0) with q | q
      ·replace e:=cT q e
       refine zB ?_
       cases soI e
       exact zO
      ·replace e:=cF q e
       obtain ⟨_,M,e⟩:=bindS e
       have v0:=ckI M
       obtain ⟨_,N,e⟩:=bindS e
       have w0:=ckI N
       obtain ⟨d0,O,e⟩:=bindS e
       have y0:=gcI O
       refine zB ?_
       cases soI e
       exact zO
     ·rintro _ rfl
      refine nT ?_
      rcases tf E with r | r
      ·replace c:=cT r c
       refine zT ?_
       refine zs ?_
       refine zB ?_
       refine nT (zr (rB (rT (rT ?_))))
       refine exL c fun hx => ?_
       subst hx
       refine oxR ?_
       replace i:=(eR (B _ i))
       refine rB (rT ?_)
       cases soI i
       exact zq
      ·replace c:=cF r c
       refine zU ?_
       refine zk (nB (nT ?_))
       refine zB ?_
       exact nT ⟨_,(soI c).symm,rfl,zv⟩
    ·replace c:=cF y c
     refine zU ?_
     refine AWp.exit (xT (xT ?_))
     refine exL c fun hx => ?_
     subst hx
     exact oxI ⟨rfl,i,zv⟩
   ·rintro _ ⟨i,rfl⟩
    have h:=(eL (B _ i))
    refine xB (nT (zs ?_))
    refine zA ?_
    refine nT (zr ?_)
    cases soI h
    exact zq

theorem Z137aw {A:Ar} (hA:SA A) {c:List D} {e:Int} {j:Bool} (h:Z137a A c e=some j):ACall Tryz.prog 137 [zl 1 c,zi e] [] (.d (.bool j)) []:=by
 unfold Z137a at h
 refine zI Tryz.func137 ?_
 refine zs ?_
 refine zA ?_
 refine nT (zs (zs ?_))
 refine zA ?_
 refine nT (zb ?_)
 obtain ⟨v,q,m,l,b⟩:=bindK h
 refine AWp.cutX 0 [] [] 0 (lb rfl) (fun τ=>m (.inl ())=some j∧τ={ env:=[],heap:=[],n:=18 }) ?_ ?_
 ·skip
  refine AWp.iter q [0,1,5] [] 0 (lb rfl) (fun k=>{ env:=[(0,zl 1 c),(1,zi e),(5,zi k)],heap:=[],n:=18 }) ⟨rfl,zc⟩ ?_
  rintro k r a
  dsimp only [Z137aL0] at a
  refine zs (zs ?_)
  refine zA ?_
  refine nT ?_
  rcases tf (A.zlt k (A.len c)) with g | g
  ·replace a:=cT g a
   refine zT ?_
   refine zk (nT (zs (zb (zs ?_))))
   obtain ⟨o,p,a⟩:=bindS a
   obtain ⟨s,u⟩:=gtI p
   refine zB ?_
   refine nT ?_
   rcases tf (A.zeq o e) with i | i
   ·replace a:=cT i a
    refine zT ?_
    refine zs ?_
    refine zB ?_
    refine nT (zr (rB (rT (rT ?_))))
    refine exL a fun hx => ?_
    subst hx
    refine oxR ?_
    replace b:=(eR (l _ b))
    refine rB (rT ?_)
    cases soI b
    exact zq
   ·replace a:=cF i a
    refine zU ?_
    refine zk (nB (nT ?_))
    refine zB ?_
    exact nT ⟨_,(soI a).symm,rfl,zv⟩
  ·replace a:=cF g a
   refine zU ?_
   refine AWp.exit (xT (xT ?_))
   refine exL a fun hx => ?_
   subst hx
   exact oxI ⟨rfl,b,zv⟩
 ·rintro _ ⟨b,rfl⟩
  have h:=(eL (l _ b))
  refine xB (nT (zs ?_))
  refine zA ?_
  refine nT (zr ?_)
  cases soI h
  exact zq

theorem Z138aw {A:Ar} (hA:SA A) {e j g:List D} {p:Bool} (h:Z138a A e j g=some p):ACall Tryz.prog 138 [zl 4 e,zl 6 j,zl 1 g] [] (.d (.bool p)) []:=by
 unfold Z138a at h
 refine zI Tryz.func138 ?_
 refine zs ?_
 refine zA ?_
 refine nT (zs ?_)
 obtain ⟨_,V,h⟩:=bindS h
 have f4:=ckI V
 obtain ⟨_,X,h⟩:=bindS h
 have f5:=ckI X
 obtain ⟨_,e9,h⟩:=bindS h
 have f6:=ckI e9
 refine zB ?_
 refine nT (zs (zs ?_))
 refine zA ?_
 refine nT (zb ?_)
 obtain ⟨q1,d0,v,s,c⟩:=bindK h
 refine AWp.cutX 0 [] [] 1 (lb rfl) (fun τ => ∃ o,v (.inl o)=some p∧τ={ env:=[],heap:=[(.arr 1 o)],n:=70 }) ?_ ?_
 ·skip
  refine AWp.iter d0 [0,1,2,7,8] [] 1 (lb rfl) (fun (i,q)=>{ env:=[(0,zl 4 e),(1,zl 6 j),(2,zl 1 g),(7,.mref 0 1 0 (A.len e)),(8,zi i)],heap:=[(.arr 1 q)],n:=70 }) ⟨rfl,zc⟩ ?_
  rintro ⟨i,q⟩ p0 a
  dsimp only [Z138aL0] at a
  refine zs (zs ?_)
  refine zA ?_
  refine nT ?_
  rcases tf (A.zlt i (A.len g)) with l | l
  ·replace a:=cT l a
   refine zT ?_
   refine zk (nT (zs (zb (zs ?_))))
   obtain ⟨l0,W,a⟩:=bindS a
   obtain ⟨i1,j1⟩:=gtI W
   obtain ⟨⟨w,y,z,B,C,r⟩,Y,a⟩:=bindS a
   obtain ⟨k1,l1⟩:=gtI Y
   refine zB ?_ { tk:=[26] }
   refine nT (zs ?_)
   obtain ⟨⟨E,F,G,J⟩,a0,a⟩:=bindS a
   obtain ⟨m1,n1⟩:=gtI a0
   refine zB ?_ { tk:=[31] }
   refine nT (zs (zs ?_))
   obtain ⟨u,b,a⟩:=bindS a
   refine AWp.cutN [0,1,2,7,8,9,10,52] [] 1 (lb rfl) (fun τ=>τ={ env:=[(0,zl 4 e),(1,zl 6 j),(2,zl 1 g),(7,.mref 0 1 0 (A.len e)),(8,zi i),(9,(.lbox [zi w,zi y,zi z,zi B,zi C,zi r])),(10,(.lbox [zi E,zi F,zl 1 G,zl 1 J])),(52,.d (.bool u))],heap:=[(.arr 1 q)],n:=70 }) ?_ ?_
   ·skip
    rcases tf (A.zeq r 0) with m | m
    ·replace b:=cT m b
     refine AWp.rd hT hA {} rfl zu (by kernel_rfl) (lb rfl) ?_
     cases soI b
     exact zO
    ·replace b:=cF m b
     obtain ⟨_,b0,b⟩:=bindS b
     have o1:=ckI b0
     obtain ⟨_,c0,b⟩:=bindS b
     have p1:=ckI c0
     obtain ⟨m0,K,b⟩:=bindS b
     have q0:=gcI K
     obtain ⟨e0,L,b⟩:=bindS b
     obtain ⟨r0,s0⟩:=gtI L
     obtain ⟨g0,M,b⟩:=bindS b
     obtain ⟨u0,v0⟩:=gtI M
     refine AWp.rd hT hA {} rfl zu (by kernel_rfl) (lb rfl) ?_
     cases soI b
     exact zO
   ·rintro _ rfl
    refine nT ?_
    rcases tf u with k | k
    ·replace a:=cT k a
     refine zT ?_
     refine zs ?_
     refine zB ?_
     refine nT (zr (rT (rB (rT (rT ?_)))))
     refine exL a fun hx => ?_
     subst hx
     refine oxR ?_
     replace c:=(eR (s _ c))
     refine rB (rT ?_)
     cases soI c
     exact zq
    ·replace a:=cF k a
     refine zU ?_
     refine zk (nT ?_)
     obtain ⟨_,N,a⟩:=bindS a
     have w0:=ckI N
     obtain ⟨_,O,a⟩:=bindS a
     have y0:=ckI O
     obtain ⟨i0,P,a⟩:=bindS a
     have z0:=gcI P
     obtain ⟨j0,Q,a⟩:=bindS a
     obtain ⟨a1,b1⟩:=gtI Q
     obtain ⟨k0,R,a⟩:=bindS a
     obtain ⟨c1,d1⟩:=gtI R
     obtain ⟨_,S,a⟩:=bindS a
     have e1:=ckI S
     obtain ⟨_,U,a⟩:=bindS a
     have g1:=ckI U
     obtain ⟨n0,o0,a⟩:=bindS a
     refine AWp.rd hT hA { tk:=[68] } rfl zu (by kernel_rfl) (lb rfl) ?_
     refine nB (nT ?_)
     refine zB ?_
     exact nT ⟨_,(soI a).symm,rfl,zv⟩
  ·replace a:=cF l a
   refine zU ?_
   refine AWp.exit (xT (xT ?_))
   refine exL a fun hx => ?_
   subst hx
   exact oxI ⟨rfl,_,c,zv⟩
 ·rintro _ ⟨o,c,rfl⟩
  have h:=(eL (s _ c))
  refine xB (nT (zs ?_))
  refine zA ?_
  refine nT (zr ?_)
  cases soI h
  exact zq

theorem Z139aw {A:Ar} (hA:SA A) {k g:List D} {r:Bool} (h:Z139a A k g=some r):ACall Tryz.prog 139 [zl 6 k,zl 1 g] [] (.d (.bool r)) []:=by
 unfold Z139a at h
 refine zI Tryz.func139 ?_
 refine zs ?_
 refine zA ?_
 refine nT (zs (zs ?_))
 refine zA ?_
 refine nT (zb ?_)
 obtain ⟨m0,L,y,u,j⟩:=bindK h
 refine AWp.cutX 0 [] [] 0 (lb rfl) (fun τ=>y (.inl ())=some r∧τ={ env:=[],heap:=[],n:=54 }) ?_ ?_
 ·skip
  refine AWp.iter L [0,1,5] [] 0 (lb rfl) (fun e=>{ env:=[(0,zl 6 k),(1,zl 1 g),(5,zi e)],heap:=[],n:=54 }) ⟨rfl,zc⟩ ?_
  rintro e J c
  dsimp only [Z139aL1] at c
  refine zs (zs ?_)
  refine zA ?_
  refine nT ?_
  rcases tf (A.zlt e (A.len g)) with p | p
  ·replace c:=cT p c
   refine zT ?_
   refine zk (nT (zs (zb (zs ?_))))
   refine zB ?_
   refine nT (zb ?_)
   obtain ⟨l0,K,w,s,i⟩:=bindK c
   refine AWp.cutX 2 [0,1,5] [] 0 (lb rfl) (fun τ=>w (.inl ())=some J∧τ={ env:=[(0,zl 6 k),(1,zl 1 g),(5,zi e)],heap:=[],n:=54 }) ?_ ?_
   ·skip
    refine AWp.iter K [0,1,5,6] [] 0 (lb rfl) (fun l=>{ env:=[(0,zl 6 k),(1,zl 1 g),(5,zi e),(6,zi l)],heap:=[],n:=54 }) ⟨rfl,zv⟩ ?_
    rintro l a0 a
    dsimp only [Z139aL0] at a
    refine zs (zs ?_)
    refine zA ?_
    refine nT ?_
    rcases tf (A.zlt l e) with m | m
    ·replace a:=cT m a
     refine zT ?_
     refine zk (nT (zs (zb (zs ?_))))
     obtain ⟨v,b,a⟩:=bindS a
     refine AWp.cutN [0,1,5,6,53] [] 0 (lb rfl) (fun τ=>τ={ env:=[(0,zl 6 k),(1,zl 1 g),(5,zi e),(6,zi l),(53,.d (.bool v))],heap:=[],n:=54 }) ?_ ?_
     ·skip
      obtain ⟨M,C,b⟩:=bindS b
      obtain ⟨b0,c0⟩:=gtI C
      obtain ⟨⟨z,N,O,P,Q,R⟩,E,b⟩:=bindS b
      obtain ⟨d0,e0⟩:=gtI E
      obtain ⟨S,F,b⟩:=bindS b
      obtain ⟨g0,i0⟩:=gtI F
      obtain ⟨⟨B,U,V,W,X,Y⟩,G,b⟩:=bindS b
      obtain ⟨j0,k0⟩:=gtI G
      rcases tf (A.zeq z B) with o | o
      ·replace b:=cT o b
       refine AWp.rd hT hA {} rfl zu (by kernel_rfl) (lb rfl) ?_
       cases soI b
       exact zO
      ·replace b:=cF o b
       refine AWp.rd hT hA {} rfl zu (by kernel_rfl) (lb rfl) ?_
       cases soI b
       exact zO
     ·rintro _ rfl
      refine nT ?_
      rcases tf v with q | q
      ·replace a:=cT q a
       refine zT ?_
       refine zs ?_
       refine zB ?_
       refine nT (zr (rB (rT (rT ?_))))
       refine exL a fun hx => ?_
       subst hx
       refine oxR ?_
       replace i:=(eR (s _ i))
       refine rB (rB (rT (rT ?_)))
       refine exL i fun hx => ?_
       subst hx
       refine oxR ?_
       replace j:=(eR (u _ j))
       refine rB (rT ?_)
       cases soI j
       exact zq
      ·replace a:=cF q a
       refine zU ?_
       refine zk (nB (nT ?_))
       refine zB ?_
       exact nT ⟨_,(soI a).symm,rfl,zv⟩
    ·replace a:=cF m a
     refine zU ?_
     refine AWp.exit (xT (xT ?_))
     refine exL a fun hx => ?_
     subst hx
     exact oxI ⟨rfl,i,zv⟩
   ·rintro _ ⟨i,rfl⟩
    have c:=(eL (s _ i))
    refine xB (nB (nT ?_))
    refine zA ?_
    exact nT ⟨_,(soI c).symm,rfl,zc⟩
  ·replace c:=cF p c
   refine zU ?_
   refine AWp.exit (xT (xT ?_))
   refine exL c fun hx => ?_
   subst hx
   exact oxI ⟨rfl,j,zv⟩
 ·rintro _ ⟨j,rfl⟩
  have h:=(eL (u _ j))
  refine xB (nT (zs ?_))
  refine zA ?_
  refine nT (zr ?_)
  cases soI h
  exact zq

theorem Z140aw {A:Ar} (hA:SA A) {j i:List D} {p:Bool} (h:Z140a A j i=some p):ACall Tryz.prog 140 [zl 6 j,zl 1 i] [] (.d (.bool p)) []:=by
 unfold Z140a at h
 refine zI Tryz.func140 ?_
 refine zs ?_
 refine zA ?_
 refine nT (zs (zs ?_))
 refine zA ?_
 refine nT (zb ?_)
 obtain ⟨m0,F,u,r,e⟩:=bindK h
 refine AWp.cutX 0 [] [] 0 (lb rfl) (fun τ=>u (.inl ())=some p∧τ={ env:=[],heap:=[],n:=33 }) ?_ ?_
 ·skip
  refine AWp.iter F [0,1,5] [] 0 (lb rfl) (fun g=>{ env:=[(0,zl 6 j),(1,zl 1 i),(5,zi g)],heap:=[],n:=33 }) ⟨rfl,zc⟩ ?_
  rintro g C b
  dsimp only [Z140aL1] at b
  refine zs (zs ?_)
  refine zA ?_
  refine nT ?_
  rcases tf (A.zlt g (A.len i)) with m | m
  ·replace b:=cT m b
   refine zT ?_
   refine zk (nT (zs (zb (zs ?_))))
   refine zB ?_
   refine nT (zb ?_)
   obtain ⟨l0,E,s,q,c⟩:=bindK b
   refine AWp.cutX 2 [0,1,5] [] 0 (lb rfl) (fun τ=>s (.inl ())=some C∧τ={ env:=[(0,zl 6 j),(1,zl 1 i),(5,zi g)],heap:=[],n:=33 }) ?_ ?_
   ·skip
    refine AWp.iter E [0,1,5,6] [] 0 (lb rfl) (fun o=>{ env:=[(0,zl 6 j),(1,zl 1 i),(5,zi g),(6,zi o)],heap:=[],n:=33 }) ⟨rfl,zv⟩ ?_
    rintro o Y a
    dsimp only [Z140aL0] at a
    refine zs (zs ?_)
    refine zA ?_
    refine nT ?_
    rcases tf (A.zlt o g) with k | k
    ·replace a:=cT k a
     refine zT ?_
     refine zk (nT (zs (zb (zs ?_))))
     refine AWp.regionDraw rfl (lb rfl) ?_
     obtain ⟨J,v,a⟩:=bindS a
     obtain ⟨a0,b0⟩:=gtI v
     obtain ⟨⟨K,L,M,N,O,P⟩,w,a⟩:=bindS a
     obtain ⟨d0,e0⟩:=gtI w
     obtain ⟨Q,y,a⟩:=bindS a
     obtain ⟨g0,i0⟩:=gtI y
     obtain ⟨⟨R,S,U,V,W,X⟩,z,a⟩:=bindS a
     obtain ⟨j0,k0⟩:=gtI z
     obtain ⟨G,B,a⟩:=bindS a
     refine DOps.c0 hT hA {} rfl zu (Z171w hA B) rfl rfl (lb rfl) rfl rfl ?_
     refine DOps.cd hT hA {} rfl zu (by kernel_rfl) ?_
     refine nT ?_
     rcases tf G with l | l
     ·replace a:=cT l a
      refine zT ?_
      refine zs ?_
      refine zB ?_
      refine nT (zr (rB (rT (rT ?_))))
      refine exL a fun hx => ?_
      subst hx
      refine oxR ?_
      replace c:=(eR (q _ c))
      refine rB (rB (rT (rT ?_)))
      refine exL c fun hx => ?_
      subst hx
      refine oxR ?_
      replace e:=(eR (r _ e))
      refine rB (rT ?_)
      cases soI e
      exact zq
     ·replace a:=cF l a
      refine zU ?_
      refine zk (nB (nT ?_))
      refine zB ?_
      exact nT ⟨_,(soI a).symm,rfl,zv⟩
    ·replace a:=cF k a
     refine zU ?_
     refine AWp.exit (xT (xT ?_))
     refine exL a fun hx => ?_
     subst hx
     exact oxI ⟨rfl,c,zv⟩
   ·rintro _ ⟨c,rfl⟩
    have b:=(eL (q _ c))
    refine xB (nB (nT ?_))
    refine zA ?_
    exact nT ⟨_,(soI b).symm,rfl,zc⟩
  ·replace b:=cF m b
   refine zU ?_
   refine AWp.exit (xT (xT ?_))
   refine exL b fun hx => ?_
   subst hx
   exact oxI ⟨rfl,e,zv⟩
 ·rintro _ ⟨e,rfl⟩
  have h:=(eL (r _ e))
  refine xB (nT (zs ?_))
  refine zA ?_
  refine nT (zr ?_)
  cases soI h
  exact zq

theorem Z93Bw {A:Ar} (hA:SA A) {self113:List D→Bool→List D→List D→Bool→Int→List D→(Option (Bool×Int×List D))} (o0 : ∀ {i:List D} {m:Bool} {e c:List D} {o:Bool} {p:Int} {r:List D} {X:Bool} {Y:Int} {y3:List D},self113 i m e c o p r=some (X,Y,y3)→ACall Tryz.prog 93 [.ptr 0 0,zl 1 i,.d (.bool m)] [(.cells [zl 4 e,zl 6 c,.d (.bool o),zi p,zl 1 r])] (.tuple []) [(.cells [zl 4 e,zl 6 c,.d (.bool X),zi Y,zl 1 y3])]) {i:List D} {m:Bool} {e c:List D} {o:Bool} {p:Int} {r:List D} {P:Bool} {Q:Int} {R:List D} (h:Z93B A self113 i m e c o p r=some (P,Q,R)):ACall Tryz.prog 93 [.ptr 0 0,zl 1 i,.d (.bool m)] [(.cells [zl 4 e,zl 6 c,.d (.bool o),zi p,zl 1 r])] (.tuple []) [(.cells [zl 4 e,zl 6 c,.d (.bool P),zi Q,zl 1 R])]:=by
 unfold Z93B at h
 refine zI Tryz.func93 ?_
 refine zs (zs (zn ?_))
 obtain ⟨r9,e8,h⟩:=bindS h
 refine zC (Z136aw hA e8) ?_
 refine zE ?_
 refine nT ?_
 obtain ⟨⟨w0,y0⟩,l,h⟩:=bindS h
 refine AWp.cutN [0,1,2] [] 1 (lb rfl) (fun τ=>τ={ env:=[(0,.ptr 0 0),(1,zl 1 i),(2,.d (.bool m))],heap:=[(.cells [zl 4 e,zl 6 c,.d (.bool o),zi w0,zl 1 y0])],n:=107 }) ?_ ?_
 ·skip
  rcases tf r9 with w | w
  ·replace l:=cT w l
   refine zT ?_
   refine zs (zs ?_)
   refine zB ?_
   refine nT ?_
   obtain ⟨v0,k,l⟩:=bindS l
   refine AWp.cutN [0,1,2] [] 1 (lb rfl) (fun τ=>τ={ env:=[(0,.ptr 0 0),(1,zl 1 i),(2,.d (.bool m))],heap:=[(.cells [zl 4 e,zl 6 c,.d (.bool o),zi p,zl 1 v0])],n:=107 }) ?_ ?_
   ·skip
    rcases tf (A.zeq p 0) with y | y
    ·replace k:=cT y k
     refine zT ?_
     obtain ⟨l1,b0,k⟩:=bindS k
     obtain ⟨d1,e1⟩:=apI b0
     refine zB ?_
     cases soI k
     exact zO
    ·replace k:=cF y k
     refine zU ?_
     refine zk ?_
     cases soI k
     exact zO
   ·rintro _ rfl
    refine nT ?_
    refine zA ?_
    cases soI l
    exact zO
  ·replace l:=cF w l
   refine zU ?_
   refine zk ?_
   cases soI l
   exact zO
 ·rintro _ rfl
  refine nT (zs ?_)
  refine zA ?_
  refine nT (zb ?_)
  obtain ⟨r1,n0,a0,m0,L⟩:=bindK h
  refine AWp.cutX 0 [] [] 1 (lb rfl) (fun τ => ∃ M N O,a0 (M,N,O)=some (P,Q,R)∧τ={ env:=[],heap:=[(.cells [zl 4 e,zl 6 c,.d (.bool M),zi N,zl 1 O])],n:=107 }) ?_ ?_
  ·skip
   refine AWp.iter n0 [0,1,2,6] [] 1 (lb rfl) (fun (S,q,s,u,v)=>{ env:=[(0,.ptr 0 0),(1,zl 1 i),(2,.d (.bool S)),(6,zi q)],heap:=[(.cells [zl 4 e,zl 6 c,.d (.bool s),zi u,zl 1 v])],n:=107 }) ⟨rfl,zc⟩ ?_
   rintro ⟨S,q,s,u,v⟩ c1 b
   dsimp only [Z93L0] at b
   refine zs (zs ?_)
   obtain ⟨⟨U,V⟩,g,b⟩:=bindS b
   refine AWp.cutN [0,1,2,6,49] [] 1 (lb rfl) (fun τ=>τ={ env:=[(0,.ptr 0 0),(1,zl 1 i),(2,.d (.bool U)),(6,zi q),(49,.d (.bool V))],heap:=[(.cells [zl 4 e,zl 6 c,.d (.bool s),zi u,zl 1 v])],n:=107 }) ?_ ?_
   ·skip
    rcases tf (A.zlt q (A.len c)) with z | z
    ·replace g:=cT z g
     rcases tf S with B | B
     ·replace g:=cT B g
      refine zB ?_
      cases soI g
      exact zO
     ·replace g:=cF B g
      refine zB ?_
      cases soI g
      exact zO
    ·replace g:=cF z g
     refine zB ?_
     cases soI g
     exact zO
   ·rintro _ rfl
    refine nT ?_
    rcases tf V with C | C
    ·replace b:=cT C b
     refine zT ?_
     refine zk (nT (zs (zb (zs ?_))))
     obtain ⟨m1,d0,b⟩:=bindS b
     obtain ⟨g1,i1⟩:=apI d0
     obtain ⟨p0,e0,b⟩:=bindS b
     obtain ⟨j1,k1⟩:=apI e0
     refine zB ?_
     refine nT (zs ?_)
     obtain ⟨⟨W,z0⟩,a,b⟩:=bindS b
     refine AWp.cutN [0,1,2,6,7,102] [] 1 (lb rfl) (fun τ=>τ={ env:=[(0,.ptr 0 0),(1,zl 1 i),(2,.d (.bool U)),(6,zi q),(7,zl 1 p0),(102,.d (.bool W))],heap:=[(.cells [zl 4 e,zl 6 c,.d (.bool z0),zi u,zl 1 v])],n:=107 }) ?_ ?_
     ·skip
      refine AWp.regionDraw rfl (lb rfl) ?_
      obtain ⟨q0,g0,a⟩:=bindS a
      refine DOps.c0 hT hA {} rfl zu (Z137aw hA g0) rfl rfl (lb rfl) rfl rfl ?_
      rcases tf q0 with E | E
      ·replace a:=cT E a
       refine DOps.cd hT hA {} rfl zu (by kernel_rfl) ?_
       cases soI a
       exact zO
      ·replace a:=cF E a
       obtain ⟨r0,i0,a⟩:=bindS a
       refine DOps.c0 hT hA {} rfl zu (Z138aw hA i0) rfl rfl (lb rfl) rfl rfl ?_
       rcases tf r0 with F | F
       ·replace a:=cT F a
        rcases tf s with G | G
        ·replace a:=cT G a
         obtain ⟨s0,j0,a⟩:=bindS a
         refine DOps.c0 hT hA {} rfl zu (Z139aw hA j0) rfl rfl (lb rfl) rfl rfl ?_
         rcases tf s0 with J | J
         ·replace a:=cT J a
          refine DOps.cd hT hA {} rfl zu (by kernel_rfl) ?_
          cases soI a
          exact zO
         ·replace a:=cF J a
          refine DOps.cd hT hA {} rfl zu (by kernel_rfl) ?_
          cases soI a
          exact zO
        ·replace a:=cF G a
         obtain ⟨n1,k0,a⟩:=bindS a
         refine DOps.c0 hT hA {} rfl zu (Z140aw hA k0) rfl rfl (lb rfl) rfl rfl ?_
         refine DOps.cd hT hA {} rfl zu (by kernel_rfl) ?_
         cases soI a
         exact zO
       ·replace a:=cF F a
        refine DOps.cd hT hA {} rfl zu (by kernel_rfl) ?_
        cases soI a
        exact zO
     ·rintro _ rfl
      refine nT ?_
      obtain ⟨⟨a1,b1,u0⟩,j,b⟩:=bindS b
      refine AWp.cutN [0,1,2,6] [] 1 (lb rfl) (fun τ=>τ={ env:=[(0,.ptr 0 0),(1,zl 1 i),(2,.d (.bool U)),(6,zi q)],heap:=[(.cells [zl 4 e,zl 6 c,.d (.bool a1),zi b1,zl 1 u0])],n:=107 }) ?_ ?_
      ·skip
       rcases tf W with K | K
       ·replace j:=cT K j
        refine zT ?_
        refine zn ?_
        obtain ⟨⟨o1,p1,q1⟩,l0,j⟩:=bindS j
        refine zD (o0 l0) ?_
        refine zF ?_
        cases soI j
        exact zO
       ·replace j:=cF K j
        refine zU ?_
        refine zk ?_
        cases soI j
        exact zO
      ·rintro _ rfl
       refine nB (nT ?_)
       refine zA ?_
       exact nT ⟨_,(soI b).symm,rfl,zc⟩
    ·replace b:=cF C b
     refine zU ?_
     refine AWp.exit (xT (xT ?_))
     refine exL b fun hx => ?_
     subst hx
     exact oxI ⟨rfl,_,_,_,L,zv⟩
  ·rintro _ ⟨M,N,O,L,rfl⟩
   have h:=(m0 _ L)
   refine xB ?_
   cases soI h
   exact zq

theorem Z93Rw {A:Ar} (hA:SA A) : ∀ (n:Nat) {i:List D} {j:Bool} {a b:List D} {k:Bool} {l:Int} {m:List D} {c:Bool} {e:Int} {g:List D},Z93R A n i j a b k l m=some (c,e,g)→ACall Tryz.prog 93 [.ptr 0 0,zl 1 i,.d (.bool j)] [(.cells [zl 4 a,zl 6 b,.d (.bool k),zi l,zl 1 m])] (.tuple []) [(.cells [zl 4 a,zl 6 b,.d (.bool c),zi e,zl 1 g])]
 | 0,_,_,_,_,_,_,_,_,_,_,h=>by cases h
 | n+1,_,_,_,_,_,_,_,_,_,_,h=>Z93Bw hA (fun h=>Z93Rw hA n h) h

theorem Z93w {A:Ar} (hA:SA A) {i:List D} {j:Bool} {a b:List D} {k:Bool} {l:Int} {m:List D} {c:Bool} {e:Int} {g:List D} (h:Z93 A i j a b k l m=some (c,e,g)):ACall Tryz.prog 93 [.ptr 0 0,zl 1 i,.d (.bool j)] [(.cells [zl 4 a,zl 6 b,.d (.bool k),zi l,zl 1 m])] (.tuple []) [(.cells [zl 4 a,zl 6 b,.d (.bool c),zi e,zl 1 g])]:=Z93Rw hA fuel h

theorem Z50w {A:Ar} (hA:SA A) {g i c:List D} {e:Int} (h:Z50 A g i=some (c,e)):ACall Tryz.prog 50 [zl 4 g,zl 6 i] [] (.tuple [zl 1 c,zi e]) []:=by
 unfold Z50 at h
 refine zI Tryz.func50 ?_
 refine zs ?_
 refine zA ?_
 refine nT (zs (zn ?_))
 obtain ⟨l,j,h⟩:=bindS h
 refine zC (Z92w hA j) ?_
 refine zE ?_
 refine nT (zs (zs ?_))
 refine zA ?_
 refine nT ?_
 rcases tf (A.zeq l 0) with b | b
 ·replace h:=cT b h
  refine zU ?_
  refine zk (nT (zs ?_))
  refine zB ?_ { esc:=[17] }
  refine nT (zs (zn ?_))
  obtain ⟨⟨n,m,o⟩,k,h⟩:=bindS h
  refine zD (Z93w hA k) ?_
  refine zF ?_
  refine nT (zs (zs ?_))
  refine zB ?_
  refine nT ?_
  rcases tf (A.zeq m 0) with a | a
  ·replace h:=cT a h
   refine zT ?_
   refine zs ?_
   refine zB ?_
   refine nT (zr (rT ?_))
   cases soI h
   exact zq
  ·replace h:=cF a h
   refine zU ?_
   refine zk (nT (zs ?_))
   refine zB ?_
   refine nT (zr ?_)
   cases soI h
   exact zq
 ·replace h:=cF b h
  refine zT ?_
  refine zs ?_
  refine zB ?_
  refine nT (zr (rT ?_))
  cases soI h
  exact zq

theorem Z14w {A:Ar} (hA:SA A) {e g:List D} {b:Bool} {c:Int} (h:Z14 A e g=some (b,c)):ACall Tryz.prog 14 [zl 4 e,zl 6 g] [] (.tuple [.d (.bool b),zi c]) []:=by
 unfold Z14 at h
 refine zI Tryz.func14 ?_
 refine zs ?_
 refine zA ?_
 refine nT (zs (zn ?_))
 obtain ⟨⟨k,j⟩,i,h⟩:=bindS h
 refine zC (Z50w hA i) ?_
 refine zE ?_
 refine nT (zs (zs ?_))
 refine zA ?_
 refine nT ?_
 rcases tf (A.zeq j 5) with a | a
 ·replace h:=cT a h
  refine zT ?_
  refine zs ?_
  refine zB ?_
  refine nT (zr (rT ?_))
  cases soI h
  exact zq
 ·replace h:=cF a h
  refine zU ?_
  refine zk (nT (zs ?_))
  refine zB ?_
  refine nT (zr ?_)
  cases soI h
  exact zq

theorem Z63w {A:Ar} (hA:SA A) {b c:Int} {e g i:List D} {a:Bool} (h:Z63 A b c e g i=some a):ACall Tryz.prog 63 [.d (.agg [.int .i64 b,.int .i64 c,.list 1 e,.list 1 g]),zl 6 i] [] (.d (.bool a)) []:=by
 unfold Z63 at h
 refine zI Tryz.func63 ?_
 refine zs ?_
 refine zA ?_
 refine nT (zs (zn ?_))
 obtain ⟨⟨k,l⟩,j,h⟩:=bindS h
 refine zC (Z14w hA j) ?_ { tk:=[12] }
 refine zE ?_ { tk:=[12] }
 refine nT (zs ?_)
 refine zA ?_ { tk:=[5,14] }
 refine nT (zr ?_)
 cases soI h
 exact zq

theorem Z25w {A:Ar} (hA:SA A) {l m:Int} {n o p q r:List D} {j:Bool} {k:Int} (h:Z25 A l m n o p q r=some (j,k)):ACall Tryz.prog 25 [.d (.agg [.int .i64 l,.int .i64 m,.list 1 n,.list 1 o]),zl 1 p,zl 1 q,zl 1 r] [] (.tuple [.d (.bool j),zi k]) []:=by
 unfold Z25 at h
 refine zI Tryz.func25 ?_
 refine zs ?_
 refine zA ?_
 refine nT (zs (zn ?_))
 obtain ⟨y,u,h⟩:=bindS h
 refine zC (Z60w hA u) ?_
 refine zE ?_
 refine nT (zs (zs ?_))
 refine zA ?_
 refine nT ?_
 rcases tf (A.zeq y 0) with e | e
 ·replace h:=cT e h
  refine zU ?_
  refine zk (nT (zs (zn ?_)))
  obtain ⟨v,i,h⟩:=bindS h
  rcases v with w | ⟨B,C,E,F,G,J,K,L,M,N⟩
  ·replace h:=(eL h)
   refine zD (Z68wa hA i) ?_
   refine zF ?_
   refine nT (zs (zs ?_))
   refine zB ?_
   refine nT ?_
   rcases tf (A.zeq w 0) with g | g
   ·replace h:=cT g h
    refine zU ?_
    refine zk (nT (zs ?_))
    refine AWp.regionDraw rfl (lb rfl) ?_
    cases h
   ·replace h:=cF g h
    refine zT ?_
    refine zs ?_
    refine zB ?_
    refine nT (zr (rT ?_))
    cases soI h
    exact zq
  ·replace h:=(eR h)
   refine zD (Z68wb hA i) ?_
   refine zF ?_
   refine nT (zs (zs ?_))
   have z:=zeqF hA (a:=0) (b:=0) (c:=true) rfl
   refine zB ?_
   refine nT ?_
   refine zU ?_
   refine zk (nT (zs ?_))
   refine AWp.weak (Wk.freezeG 0 3 rfl rfl rfl) ?_
   refine AWp.weak (Wk.freezeG 0 8 rfl rfl rfl) ?_
   refine AWp.weak (Wk.freezeG 0 9 rfl rfl rfl) ?_
   refine AWp.regionDraw rfl (lb rfl) ?_
   obtain ⟨O,s,h⟩:=bindS h
   refine DOps.c0 hT hA {} rfl zu (Z63w hA s) rfl rfl (lb rfl) rfl rfl ?_
   refine DOps.cd hT hA {} rfl zu (by kernel_rfl) ?_
   refine nT (zr ?_)
   cases soI h
   exact zq
 ·replace h:=cF e h
  refine zT ?_
  refine zs ?_
  refine zB ?_
  refine nT (zr (rT ?_))
  cases soI h
  exact zq

theorem Z53w {A:Ar} (hA:SA A) {g c:List D} {m:Bool} (h:Z53 A g c=some m):ACall Tryz.prog 53 [zl 1 g,zl 1 c] [] (.d (.bool m)) []:=by
 unfold Z53 at h
 refine zI Tryz.func53 ?_
 refine zs ?_
 refine zA ?_
 refine nT (zs (zs ?_))
 refine zA ?_
 refine nT (zb ?_)
 obtain ⟨J,v,q,o,e⟩:=bindK h
 refine AWp.cutX 0 [0,1] [] 0 (lb rfl) (fun τ=>q (.inl ())=some m∧τ={ env:=[(0,zl 1 g),(1,zl 1 c)],heap:=[],n:=35 }) ?_ ?_
 ·skip
  refine AWp.iter v [0,1,7,8,9] [] 0 (lb rfl) (fun i=>{ env:=[(0,zl 1 g),(1,zl 1 c),(7,zl 1 c),(8,(.d (.int .i64 (A.len c)))),(9,zi i)],heap:=[],n:=35 }) ⟨rfl,zc⟩ ?_
  rintro i z a
  dsimp only [Z53L0] at a
  refine zs ?_
  refine zA ?_
  refine nT (zs ?_)
  rcases tf (A.zlt i (A.len c)) with j | j
  ·replace a:=cT j a
   refine zT ?_
   refine zk (nT (zs (zb (zs ?_))))
   obtain ⟨w,r,a⟩:=bindS a
   obtain ⟨B,C⟩:=gtI r
   refine zB ?_
   refine nT (zs ?_)
   obtain ⟨p,b,a⟩:=bindS a
   refine AWp.cutN [0,1,7,8,9,28] [] 0 (lb rfl) (fun τ=>τ={ env:=[(0,zl 1 g),(1,zl 1 c),(7,zl 1 c),(8,(.d (.int .i64 (A.len c)))),(9,zi i),(28,.d (.bool p))],heap:=[],n:=35 }) ?_ ?_
   ·skip
    refine zn ?_
    rcases tf (A.zle (A.len g) i) with k | k
    ·replace b:=cT k b
     refine zF ?_
     cases soI b
     exact zO
    ·replace b:=cF k b
     obtain ⟨y,s,b⟩:=bindS b
     obtain ⟨E,F⟩:=gtI s
     obtain ⟨G,u,b⟩:=bindS b
     refine zD (Z82w hA u) ?_
     refine zF ?_
     cases soI b
     exact zO
   ·rintro _ rfl
    refine nT ?_
    rcases tf p with l | l
    ·replace a:=cT l a
     refine zT ?_
     refine zs ?_
     refine zB ?_
     refine nT (zr (rB (rT (rT ?_))))
     refine exL a fun hx => ?_
     subst hx
     refine oxR ?_
     replace e:=(eR (o _ e))
     refine rB (rT ?_)
     cases soI e
     exact zq
    ·replace a:=cF l a
     refine zU ?_
     refine zk (nB (nT ?_))
     refine zB ?_
     exact nT ⟨_,(soI a).symm,rfl,zv⟩
  ·replace a:=cF j a
   refine zU ?_
   refine AWp.exit (xT (xT ?_))
   refine exL a fun hx => ?_
   subst hx
   exact oxI ⟨rfl,e,zv⟩
 ·rintro _ ⟨e,rfl⟩
  have h:=(eL (o _ e))
  refine xB (nT (zs ?_))
  refine zA ?_ { tk:=[34] }
  refine nT (zr ?_)
  cases soI h
  exact zq

theorem Z94aw {A:Ar} (hA:SA A) {r G:List D} {M N O P Q R S s u v w y z B C E F J:Int} {K L:List D} {i:Int} {q:Bool} (h:Z94a A r G M N O P Q R S s u v w y z B C E F J K L i=some q):ACall Tryz.prog 94 [.d (.ref [.list 1 r,.list 1 G,.int .i64 M,.int .i64 N,.int .i64 O,.int .i64 P,.int .i64 Q,.int .i64 R,.int .i64 S,.int .i64 s,.int .i64 u,.int .i64 v,.int .i64 w,.int .i64 y,.int .i64 z,.int .i64 B,.int .i64 C,.int .i64 E,.int .i64 F,.int .i64 J,.list 6 K,.list 1 L]),zi i] [] (.d (.bool q)) []:=by
 unfold Z94a at h
 refine zI Tryz.func94 ?_
 refine zs ?_
 refine zA ?_
 refine nT (zs ?_)
 obtain ⟨i0,a,h⟩:=bindS h
 refine AWp.cutN [4] [] 0 (lb rfl) (fun τ=>τ={ env:=[(4,.d (.bool i0))],heap:=[],n:=31 }) ?_ ?_
 ·skip
  refine AWp.regionDraw rfl (lb rfl) ?_
  obtain ⟨g0,U,a⟩:=bindS a
  refine DOps.c0 hT hA { tk:=[30] } rfl zc (Z82w hA U) rfl rfl (lb rfl) rfl rfl ?_
  rcases tf g0 with b | b
  ·replace a:=cT b a
   rcases tf (A.zeq i 0) with c | c
   ·replace a:=cT c a
    obtain ⟨X,Y,j⟩:=ixF hA (n:=2) c (by decide)
    obtain ⟨j0,V,a⟩:=bindS a
    obtain ⟨a0,k⟩:=gtI V
    have l:=k
    rw [j] at l
    refine DOps.cd hT hA { tk:=[30] } rfl (by (repeat (cbv;simp only [b,X,Y,j,l,a0,k]));try cbv) (by kernel_rfl) ?_
    cases soI a
    exact (zO (g:=(by first | (cbv;done) | ((repeat (cbv;simp only [b]));try cbv))))
   ·replace a:=cF c a
    rcases tf (A.zeq i 1) with e | e
    ·replace a:=cT e a
     obtain ⟨b0,d0,m⟩:=ixF hA (n:=2) e (by decide)
     obtain ⟨k0,W,a⟩:=bindS a
     obtain ⟨e0,o⟩:=gtI W
     have p:=o
     rw [m] at p
     refine DOps.cd hT hA { tk:=[30] } rfl (by (repeat (cbv;simp only [b,b0,d0,m,p,e0,o]));try cbv) (by kernel_rfl) ?_
     cases soI a
     exact (zO (g:=(by first | (cbv;done) | ((repeat (cbv;simp only [b]));try cbv))))
    ·replace a:=cF e a
     cases a
  ·replace a:=cF b a
   refine DOps.cd hT hA { tk:=[30] } rfl (by (repeat (cbv;simp only [b]));try cbv) (by kernel_rfl) ?_
   cases soI a
   exact (zO (g:=(by first | (cbv;done) | ((repeat (cbv;simp only [b]));try cbv))))
 ·rintro _ rfl
  refine nT (zr ?_)
  cases soI h
  exact zq

theorem Z55w {A:Ar} (hA:SA A) {g c:List D} {y z B C E F G i j k l m o p q r s u:Int} {v w N:List D} (h:Z55 A g c y z B C E F G i j k l m o p q r s u v w=some N):ACall Tryz.prog 55 [.d (.ref [.list 1 g,.list 1 c,.int .i64 y,.int .i64 z,.int .i64 B,.int .i64 C,.int .i64 E,.int .i64 F,.int .i64 G,.int .i64 i,.int .i64 j,.int .i64 k,.int .i64 l,.int .i64 m,.int .i64 o,.int .i64 p,.int .i64 q,.int .i64 r,.int .i64 s,.int .i64 u,.list 6 v,.list 1 w])] [] (.own 1 N) []:=by
 unfold Z55 at h
 refine zI Tryz.func55 ?_
 refine zs ?_
 refine zA ?_
 refine nT (zs ?_)
 refine zA ?_
 refine nT (zs (zs ?_))
 refine zA ?_
 refine nT (zb ?_)
 obtain ⟨c0,U,P,S,L⟩:=bindK h
 refine AWp.cutX 0 [3] [] 0 (lb rfl) (fun τ => ∃ M,P M=some N∧τ={ env:=[(3,(.own 1 M))],heap:=[],n:=22 }) ?_ ?_
 ·skip
  refine AWp.iter U [0,3,9,10] [] 0 (lb rfl) (fun (O,e)=>{ env:=[(0,.d (.ref [.list 1 g,.list 1 c,.int .i64 y,.int .i64 z,.int .i64 B,.int .i64 C,.int .i64 E,.int .i64 F,.int .i64 G,.int .i64 i,.int .i64 j,.int .i64 k,.int .i64 l,.int .i64 m,.int .i64 o,.int .i64 p,.int .i64 q,.int .i64 r,.int .i64 s,.int .i64 u,.list 6 v,.list 1 w])),(3,(.own 1 O)),(9,(.d (.int .i64 (A.len c)))),(10,zi e)],heap:=[],n:=22 }) ⟨rfl,zc⟩ ?_
  rintro ⟨O,e⟩ X a
  dsimp only [Z55L0] at a
  refine zs ?_
  refine zA ?_
  refine nT (zs ?_)
  rcases tf (A.zlt e (A.len c)) with J | J
  ·replace a:=cT J a
   refine zT ?_
   refine zk (nT (zs (zb (zs ?_))))
   refine zB ?_
   refine nT (zs (zn ?_))
   obtain ⟨V,Q,a⟩:=bindS a
   refine zD (Z94aw hA Q) ?_
   refine zF ?_
   refine nT ?_
   obtain ⟨W,b,a⟩:=bindS a
   refine AWp.cutN [0,3,9,10] [] 0 (lb rfl) (fun τ=>τ={ env:=[(0,.d (.ref [.list 1 g,.list 1 c,.int .i64 y,.int .i64 z,.int .i64 B,.int .i64 C,.int .i64 E,.int .i64 F,.int .i64 G,.int .i64 i,.int .i64 j,.int .i64 k,.int .i64 l,.int .i64 m,.int .i64 o,.int .i64 p,.int .i64 q,.int .i64 r,.int .i64 s,.int .i64 u,.list 6 v,.list 1 w])),(3,(.own 1 W)),(9,(.d (.int .i64 (A.len c)))),(10,zi e)],heap:=[],n:=22 }) ?_ ?_
   ·skip
    rcases tf V with K | K
    ·replace b:=cT K b
     refine zT ?_
     obtain ⟨b0,R,b⟩:=bindS b
     obtain ⟨Y,a0⟩:=apI R
     refine zB ?_ { tk:=[3,19] }
     cases soI b
     exact zO
    ·replace b:=cF K b
     refine zU ?_
     refine zk ?_
     cases soI b
     exact zO
   ·rintro _ rfl
    refine nB (nT ?_)
    refine zA ?_
    exact nT ⟨_,(soI a).symm,rfl,zc⟩
  ·replace a:=cF J a
   refine zU ?_
   refine AWp.exit (xT (xT ?_))
   refine exL a fun hx => ?_
   subst hx
   exact oxI ⟨rfl,_,L,zv⟩
 ·rintro _ ⟨M,L,rfl⟩
  have h:=(S _ L)
  refine xB (nT (zs ?_))
  refine zA ?_ { tk:=[3,21] }
  refine nT (zr ?_)
  cases soI h
  exact zq

theorem Z141w {A:Ar} (hA:SA A) {c:List D} {e j:Int} (h:Z141 A c e=some j):ACall Tryz.prog 141 [zl 1 c,zi e] [] (zi j) []:=by
 unfold Z141 at h
 refine zI Tryz.func141 ?_
 refine zs ?_
 refine zA ?_
 refine nT (zs (zs ?_))
 refine zA ?_
 refine nT (zb ?_)
 obtain ⟨v,q,m,l,b⟩:=bindK h
 refine AWp.cutX 0 [] [] 0 (lb rfl) (fun τ=>m (.inl ())=some j∧τ={ env:=[],heap:=[],n:=19 }) ?_ ?_
 ·skip
  refine AWp.iter q [0,1,7,8] [] 0 (lb rfl) (fun k=>{ env:=[(0,zl 1 c),(1,zi e),(7,(.d (.int .i64 (A.len c)))),(8,zi k)],heap:=[],n:=19 }) ⟨rfl,zc⟩ ?_
  rintro k r a
  dsimp only [Z141L0] at a
  refine zs ?_
  refine zA ?_
  refine nT (zs ?_)
  rcases tf (A.zlt k (A.len c)) with g | g
  ·replace a:=cT g a
   refine zT ?_
   refine zk (nT (zs (zb (zs ?_))))
   refine zB ?_ { tk:=[8,10] }
   refine nT (zs ?_)
   obtain ⟨o,p,a⟩:=bindS a
   obtain ⟨s,u⟩:=gtI p
   refine zB ?_
   refine nT ?_
   rcases tf (A.zeq e o) with i | i
   ·replace a:=cT i a
    refine zT ?_
    refine zs ?_
    refine zB ?_ { tk:=[5,17] }
    refine nT (zr (rB (rT (rT ?_))))
    refine exL a fun hx => ?_
    subst hx
    refine oxR ?_
    replace b:=(eR (l _ b))
    refine rB (rT ?_)
    cases soI b
    exact zq
   ·replace a:=cF i a
    refine zU ?_
    refine zk (nB (nT ?_))
    refine zB ?_ { tk:=[18] }
    exact nT ⟨_,(soI a).symm,rfl,zv⟩
  ·replace a:=cF g a
   refine zU ?_
   refine AWp.exit (xT (xT ?_))
   refine exL a fun hx => ?_
   subst hx
   exact oxI ⟨rfl,b,zv⟩
 ·rintro _ ⟨b,rfl⟩
  have h:=(eL (l _ b))
  refine xB (nT (zs ?_))
  refine zA ?_
  refine nT (zr ?_)
  cases soI h
  exact zq

theorem Z95w {A:Ar} (hA:SA A) {b:List D} {c:Int} {a:Bool} (h:Z95 A b c=some a):ACall Tryz.prog 95 [zl 1 b,zi c] [] (.d (.bool a)) []:=by
 unfold Z95 at h
 refine zI Tryz.func95 ?_
 refine zs ?_
 refine zA ?_
 refine nT (zs (zn ?_))
 obtain ⟨g,e,h⟩:=bindS h
 refine zC (Z141w hA e) ?_ { tk:=[8] }
 refine zE ?_ { tk:=[8] }
 refine nT (zr ?_)
 cases soI h
 exact zq

theorem Z97w {A:Ar} (hA:SA A) {b p:Int} {w y:List D} {z B C E F c e g i j k l m n o q r s:Int} {u v:List D} {a:Int} (h:Z97 A b p w y z B C E F c e g i j k l m n o q r s u v=some a):ACall Tryz.prog 97 [zi b,zi p,(.iptr [(.ref [.list 1 w,.list 1 y,.int .i64 z,.int .i64 B,.int .i64 C,.int .i64 E,.int .i64 F,.int .i64 c,.int .i64 e,.int .i64 g,.int .i64 i,.int .i64 j,.int .i64 k,.int .i64 l,.int .i64 m,.int .i64 n,.int .i64 o,.int .i64 q,.int .i64 r,.int .i64 s,.list 6 u,.list 1 v])])] [] (zi a) []:=by
 unfold Z97 at h
 refine zI Tryz.func97 ?_
 refine zs ?_
 refine zA ?_
 refine nT (zs ?_)
 obtain ⟨K,G,h⟩:=bindS h
 obtain ⟨M,N⟩:=gtI G
 obtain ⟨L,J,h⟩:=bindS h
 obtain ⟨O,P⟩:=gtI J
 refine AWp.rd hT hA { tk:=[20] } rfl zu (by kernel_rfl) (lb rfl) ?_
 refine nT (zr ?_)
 cases soI h
 exact zq

theorem Z96w {A:Ar} (hA:SA A) {G J:Int} {w y:List D} {z B C E F a b d e j k l m n o p q s:Int} {u v K r:List D} (h:Z96 A G J w y z B C E F a b d e j k l m n o p q s u v K=some r):ACall Tryz.prog 96 [.mref 0 1 G J,(.func 97 [] [(.iptr [(.ref [.list 1 w,.list 1 y,.int .i64 z,.int .i64 B,.int .i64 C,.int .i64 E,.int .i64 F,.int .i64 a,.int .i64 b,.int .i64 d,.int .i64 e,.int .i64 j,.int .i64 k,.int .i64 l,.int .i64 m,.int .i64 n,.int .i64 o,.int .i64 p,.int .i64 q,.int .i64 s,.list 6 u,.list 1 v])])])] [(.arr 1 K)] (.tuple []) [(.arr 1 r)] :=
 ACall.sortOne Tryz.sort96 rfl (c:=(cI .i64)) (fun _=>rfl) (g:=97) (caps:=[(.iptr [(.ref [.list 1 w,.list 1 y,.int .i64 z,.int .i64 B,.int .i64 C,.int .i64 E,.int .i64 F,.int .i64 a,.int .i64 b,.int .i64 d,.int .i64 e,.int .i64 j,.int .i64 k,.int .i64 l,.int .i64 m,.int .i64 n,.int .i64 o,.int .i64 p,.int .i64 q,.int .i64 s,.list 6 u,.list 1 v])])]) rfl (fun _ _ _ h=>Z97w hA h) rfl rfl h (i:=0) rfl rfl

theorem Z96aw {A:Ar} (hA:SA A) {a o u:List D} {v w y z B C b c e g i j k l m n p q:Int} {r s:List D} (h:Z96a A a o u v w y z B C b c e g i j k l m n p q r s=some ()):ACall Tryz.prog 96 [zl 1 a,(.func 97 [] [(.iptr [(.ref [.list 1 o,.list 1 u,.int .i64 v,.int .i64 w,.int .i64 y,.int .i64 z,.int .i64 B,.int .i64 C,.int .i64 b,.int .i64 c,.int .i64 e,.int .i64 g,.int .i64 i,.int .i64 j,.int .i64 k,.int .i64 l,.int .i64 m,.int .i64 n,.int .i64 p,.int .i64 q,.list 6 r,.list 1 s])])])] [] (.tuple []) []:=ACall.sortNone1 Tryz.sort96 rfl (lenZ hA (ckI h)) rfl

theorem Z56w {A:Ar} (hA:SA A) {e v:List D} {z B C E F G J g j k l m o p q r u w:Int} {c y R:List D} {S:Bool} (h:Z56 A e v z B C E F G J g j k l m o p q r u w c y=some (R,S)):ACall Tryz.prog 56 [.d (.ref [.list 1 e,.list 1 v,.int .i64 z,.int .i64 B,.int .i64 C,.int .i64 E,.int .i64 F,.int .i64 G,.int .i64 J,.int .i64 g,.int .i64 j,.int .i64 k,.int .i64 l,.int .i64 m,.int .i64 o,.int .i64 p,.int .i64 q,.int .i64 r,.int .i64 u,.int .i64 w,.list 6 c,.list 1 y])] [] (.tuple [zl 1 R,.d (.bool S)]) []:=by
 unfold Z56 at h
 refine zI Tryz.func56 ?_
 refine zs ?_
 refine zA ?_
 refine nT ?_
 refine AWp.freezeBox 1 [(.ref [.list 1 e,.list 1 v,.int .i64 z,.int .i64 B,.int .i64 C,.int .i64 E,.int .i64 F,.int .i64 G,.int .i64 J,.int .i64 g,.int .i64 j,.int .i64 k,.int .i64 l,.int .i64 m,.int .i64 o,.int .i64 p,.int .i64 q,.int .i64 r,.int .i64 u,.int .i64 w,.list 6 c,.list 1 y])] rfl rfl ?_
 refine zs (zs ?_)
 obtain ⟨U,a,h⟩:=bindS h
 refine AWp.cutN [1,16] [] 0 (lb rfl) (fun τ=>τ={ env:=[(1,(.iptr [(.ref [.list 1 e,.list 1 v,.int .i64 z,.int .i64 B,.int .i64 C,.int .i64 E,.int .i64 F,.int .i64 G,.int .i64 J,.int .i64 g,.int .i64 j,.int .i64 k,.int .i64 l,.int .i64 m,.int .i64 o,.int .i64 p,.int .i64 q,.int .i64 r,.int .i64 u,.int .i64 w,.list 6 c,.list 1 y])])),(16,.d (.bool U))],heap:=[],n:=40 }) ?_ ?_
 ·skip
  refine zn ?_
  obtain ⟨n0,X,a⟩:=bindS a
  refine zC (Z55w hA X) ?_
  rcases tf (A.zlt 0 (A.len n0)) with M | M
  ·replace a:=cT M a
   refine zF ?_
   cases soI a
   exact zO
  ·replace a:=cF M a
   obtain ⟨y0,Y,a⟩:=bindS a
   refine zD (Z95w hA Y) ?_
   refine zF ?_
   cases soI a
   exact zO
 ·rintro _ rfl
  refine nT ?_
  rcases tf U with N | N
  ·replace h:=cT N h
   refine zT ?_
   refine zs ?_
   refine zB ?_
   refine nT (zr (rT ?_))
   cases soI h
   exact zq
  ·replace h:=cF N h
   refine zU ?_
   refine zk (nT (zs ?_))
   obtain ⟨_,a0,h⟩:=bindS h
   have p0:=ckI a0
   obtain ⟨_,b0,h⟩:=bindS h
   have q0:=ckI b0
   obtain ⟨_,c0,h⟩:=bindS h
   have r0:=ckI c0
   refine zB ?_ { tk:=[22],gr:=[22],th:=[22] }
   refine nT (zs (zs ?_))
   refine zB ?_
   refine nT (zb ?_)
   obtain ⟨a1,m0,W,l0,P⟩:=bindK h
   refine AWp.cutXW 0 (fun τ => ∃ L,W L=some (R,S)∧τ={ env:=[(1,(.iptr [(.ref [.list 1 e,.list 1 v,.int .i64 z,.int .i64 B,.int .i64 C,.int .i64 E,.int .i64 F,.int .i64 G,.int .i64 J,.int .i64 g,.int .i64 j,.int .i64 k,.int .i64 l,.int .i64 m,.int .i64 o,.int .i64 p,.int .i64 q,.int .i64 r,.int .i64 u,.int .i64 w,.list 6 c,.list 1 y])])),(4,.gref 0 1)],heap:=[.gro 1 L,.dead,.dead],n:=40 }) ?_ ?_
   ·skip
    refine AWp.iterW m0 (fun (Q,V)=>{ env:=[(1,(.iptr [(.ref [.list 1 e,.list 1 v,.int .i64 z,.int .i64 B,.int .i64 C,.int .i64 E,.int .i64 F,.int .i64 G,.int .i64 J,.int .i64 g,.int .i64 j,.int .i64 k,.int .i64 l,.int .i64 m,.int .i64 o,.int .i64 p,.int .i64 q,.int .i64 r,.int .i64 u,.int .i64 w,.list 6 c,.list 1 y])])),(4,.gref 0 1),(27,(.d (.int .i64 (A.len c)))),(28,zi Q)],heap:=[.gro 1 V,.dead,.dead],n:=40 }) ⟨_,zR [some 0,some 1,some 2] [1,4,27,28],rfl⟩ ?_
    rintro ⟨Q,V⟩ o0 b
    dsimp only [Z56L0] at b
    refine zs ?_
    refine zA ?_
    refine nT (zs ?_)
    rcases tf (A.zlt Q (A.len c)) with O | O
    ·replace b:=cT O b
     refine zT ?_
     refine zk (nT (zs (zb (zs ?_))))
     refine zB ?_
     refine nT ?_
     obtain ⟨v0,d0,b⟩:=bindS b
     obtain ⟨s0,u0⟩:=apI d0
     refine zB ?_ { tk:=[4,34],gr:=[34] }
     refine nB (nT ?_)
     refine zB ?_
     exact nT ⟨_,(soI b).symm,_,zR [some 3,some 4,some 5] [1,4,27,28],rfl⟩
    ·replace b:=cF O b
     refine zU ?_
     refine AWp.exit (xT (xT ?_))
     refine exL b fun hx => ?_
     subst hx
     exact oxWI ⟨_,zR [some 0,some 1,some 2] [1,4],_,P,rfl⟩
   ·rintro _ ⟨L,P,rfl⟩
    have h:=(l0 _ P)
    refine xB (nT (zs ?_))
    rcases tf (A.zlt 0 (A.len L)) with K | K
    ·replace h:=cT K h
     refine AWp.weak (Wk.groArr 4 rfl rfl (neL hA K) (lenL hA)) ?_
     refine zn ?_
     obtain ⟨z0,e0,h⟩:=bindS h
     refine zD (Z96w hA e0) ?_
     refine zF ?_
     refine nT (zs ?_)
     refine zB ?_
     refine nT ?_
     obtain ⟨w0,i0,h⟩:=bindS h
     obtain ⟨j0,k0⟩:=fzI hA i0
     refine AWp.freeze (s:=2) (i:=0) rfl rfl j0 k0 ?_
     refine zr ?_
     cases soI h
     exact zq
    ·replace h:=cF K h
     refine AWp.weak (Wk.freezeS 4 rfl rfl) ?_
     refine zn ?_
     obtain ⟨_,g0,h⟩:=bindS h
     refine zD (Z96aw hA g0) ?_
     refine zF ?_
     refine nT (zs ?_)
     refine zB ?_
     refine nT (zr ?_)
     cases soI h
     exact zq
end Go.Am
