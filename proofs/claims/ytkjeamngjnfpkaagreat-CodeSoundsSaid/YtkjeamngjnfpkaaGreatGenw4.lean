/- Own text: Genw4. -/
import Derived.Test.YtkjeamngjnfpkaaGreatGenw3
set_option maxRecDepth 100000
set_option maxHeartbeats 2000000
set_option linter.unusedVariables false
set_option linter.unusedSimpArgs false
namespace Go.Am
open Go Go.Proofs
theorem Z101w {A:Ar} (hA:SA A) {g i j a b c e:List D} (h:Z101 A g i j=some (a,b,c,e)):ACall Tryz.prog 101 [zl 1 g,zl 1 i,zl 1 j] [] (.ptr 0 0) [.cells [zl 1 a,zl 1 b,zl 1 c,.gref 1 8,zi 0,zi 0,zi 0,zi 0,.gref 4 6,.gref 7 1],.gro 8 e,.dead,.dead,.gro 6 [],.dead,.dead,.gro 1 [],.dead,.dead]:=by
 unfold Z101 at h
 refine zI Tryz.func101 ?_
 refine zs ?_
 refine zA ?_
 refine nT (zs ?_)
 obtain ⟨_,k,h⟩:=bindS h
 have n:=ckI k
 obtain ⟨_,l,h⟩:=bindS h
 have o:=ckI l
 obtain ⟨_,m,h⟩:=bindS h
 have p:=ckI m
 refine zB ?_ { tk:=[14],esc:=[14],gr:=[12],nl:=[13] }
 refine nT ?_
 refine AWp.weak (Wk.settle 3 8 rfl rfl rfl) ?_
 refine AWp.weak (Wk.settle 3 9 rfl rfl rfl) ?_
 refine AWp.weak (Wk.ren [some 3,some 0,some 1,some 2,some 4,some 5,some 6,some 7,some 8,some 9] [6] rfl rfl) ?_
 refine zr ?_
 cases soI h
 exact zq

theorem Z90w {A:Ar} (hA:SA A) {c e i:Int} {g:Bool} (h:Z90 A c e i=some g):ACall Tryz.prog 90 [zi c,zi e,zi i] [] (.d (.bool g)) []:=by
 unfold Z90 at h
 refine zI Tryz.func90 ?_
 refine zs ?_
 refine zA ?_
 refine nT (zs ?_)
 obtain ⟨j,a,h⟩:=bindS h
 refine AWp.cutN [6] [] 0 (lb rfl) (fun τ=>τ={ env:=[(6,.d (.bool j))],heap:=[],n:=15 }) ?_ ?_
 ·skip
  rcases tf (A.zle c e) with b | b
  ·replace a:=cT b a
   refine zB ?_ { tk:=[14] }
   cases soI a
   exact zO
  ·replace a:=cF b a
   refine zB ?_ { tk:=[14] }
   cases soI a
   exact zO
 ·rintro _ rfl
  refine nT (zr ?_)
  cases soI h
  exact zq

theorem Z48w {A:Ar} (hA:SA A) {c:List D} {j:Bool} (h:Z48 A c=some j):ACall Tryz.prog 48 [zl 4 c] [] (.d (.bool j)) []:=by
 unfold Z48 at h
 refine zI Tryz.func48 ?_
 refine zs ?_
 refine zA ?_
 refine nT (zs (zs ?_))
 refine zA ?_
 refine nT (zb ?_)
 obtain ⟨E,q,l,k,b⟩:=bindK h
 refine AWp.cutX 0 [0] [] 0 (lb rfl) (fun τ=>l (.inl ())=some j/\τ={ env:=[(0,zl 4 c)],heap:=[],n:=19 }) ?_ ?_
 ·skip
  refine AWp.iter q [0,3] [] 0 (lb rfl) (fun i=>{ env:=[(0,zl 4 c),(3,zi i)],heap:=[],n:=19 }) ⟨rfl,zc⟩ ?_
  rintro i y a
  dsimp only [Z48L0] at a
  refine zs (zs ?_)
  refine zA ?_
  refine nT ?_
  rcases tf (A.zlt i (A.len c)) with e | e
  ·replace a:=cT e a
   refine zT ?_
   refine zk (nT (zs (zb (zs (zn ?_)))))
   obtain ⟨⟨s,u,v,w⟩,m,a⟩:=bindS a
   obtain ⟨z,B⟩:=gtI m
   obtain ⟨r,o,a⟩:=bindS a
   refine zD (Z31w hA o) ?_
   refine zF ?_
   refine nT ?_
   rcases tf r with g | g
   ·replace a:=cT g a
    refine zU ?_
    refine zk (nB (nT ?_))
    refine zB ?_
    exact nT ⟨_,(soI a).symm,rfl,zv⟩
   ·replace a:=cF g a
    refine zT ?_
    refine zs ?_
    refine zB ?_
    refine nT (zr (rB (rT (rT ?_))))
    refine exL a fun hx => ?_
    subst hx
    refine oxR ?_
    replace b:=(eR (k _ b))
    refine rB (rT ?_)
    cases soI b
    exact zq
  ·replace a:=cF e a
   refine zU ?_
   refine AWp.exit (xT (xT ?_))
   refine exL a fun hx => ?_
   subst hx
   exact oxI ⟨rfl,b,zv⟩
 ·rintro _ ⟨b,rfl⟩
  have h:=(eL (k _ b))
  refine xB (nT (zs (zn ?_)))
  obtain ⟨C,p,h⟩:=bindS h
  refine zC (Z90w hA p) ?_ { tk:=[18] }
  refine zE ?_ { tk:=[18] }
  refine nT (zr ?_)
  cases soI h
  exact zq

theorem Z171w {A:Ar} (hA:SA A) {g l m o p c q r s i j k:Int} {e:Bool} (h:Z171 A g l m o p c q r s i j k=some e):ACall Tryz.prog 171 [.d (.agg [.int .i64 g,.int .i64 l,.int .i64 m,.int .i64 o,.int .i64 p,.int .i64 c]),.d (.agg [.int .i64 q,.int .i64 r,.int .i64 s,.int .i64 i,.int .i64 j,.int .i64 k])] [] (.d (.bool e)) []:=by
 unfold Z171 at h
 refine zI Tryz.func171 ?_
 refine zs ?_
 refine zA ?_
 refine nT (zs ?_)
 obtain ⟨u,a,h⟩:=bindS h
 refine AWp.cutN [4] [] 0 (lb rfl) (fun τ=>τ={ env:=[(4,.d (.bool u))],heap:=[],n:=15 }) ?_ ?_
 ·skip
  rcases tf (A.zeq c 0) with b | b
  ·replace a:=cT b a
   refine zB ?_ { tk:=[14] }
   cases soI a
   exact zO
  ·replace a:=cF b a
   refine zB ?_ { tk:=[14] }
   cases soI a
   exact zO
 ·rintro _ rfl
  refine nT (zr ?_)
  cases soI h
  exact zq

theorem Z135w {A:Ar} (hA:SA A) {i v w y e g k z B u c j:Int} {E:Bool} (h:Z135 A i v w y e g k z B u c j=some E):ACall Tryz.prog 135 [.d (.agg [.int .i64 i,.int .i64 v,.int .i64 w,.int .i64 y,.int .i64 e,.int .i64 g]),.d (.agg [.int .i64 k,.int .i64 z,.int .i64 B,.int .i64 u,.int .i64 c,.int .i64 j])] [] (.d (.bool E)) []:=by
 unfold Z135 at h
 refine zI Tryz.func135 ?_
 refine zs ?_
 refine zA ?_
 refine nT (zs (zs ?_))
 obtain ⟨C,a,h⟩:=bindS h
 refine AWp.cutN [2,3,35] [] 0 (lb rfl) (fun τ=>τ={ env:=[(2,(.lbox [zi i,zi v,zi w,zi y,zi e,zi g])),(3,(.lbox [zi k,zi z,zi B,zi u,zi c,zi j])),(35,.d (.bool C))],heap:=[],n:=53 }) ?_ ?_
 ·skip
  rcases tf (A.zeq e c) with l | l
  ·replace a:=cT l a
   refine zB ?_
   cases soI a
   exact zO
  ·replace a:=cF l a
   rcases tf (A.zeq e j) with m | m
   ·replace a:=cT m a
    refine zB ?_
    cases soI a
    exact zO
   ·replace a:=cF m a
    rcases tf (A.zeq g c) with o | o
    ·replace a:=cT o a
     refine zB ?_
     cases soI a
     exact zO
    ·replace a:=cF o a
     rcases tf (A.zeq g 0) with p | p
     ·replace a:=cT p a
      refine zB ?_
      cases soI a
      exact zO
     ·replace a:=cF p a
      refine zB ?_
      cases soI a
      exact zO
 ·rintro _ rfl
  refine nT ?_
  rcases tf C with q | q
  ·replace h:=cT q h
   refine zT ?_
   refine zs ?_
   refine zB ?_
   refine nT (zr (rT ?_))
   cases soI h
   exact zq
  ·replace h:=cF q h
   refine zU ?_
   refine zk (nT (zs ?_))
   obtain ⟨K,b,h⟩:=bindS h
   refine AWp.cutN [4] [] 0 (lb rfl) (fun τ=>τ={ env:=[(4,.d (.bool K))],heap:=[],n:=53 }) ?_ ?_
   ·skip
    refine zn ?_
    rcases tf (A.zeq i k) with r | r
    ·replace b:=cT r b
     obtain ⟨J,F,b⟩:=bindS b
     refine zD (Z171w hA F) ?_ { tk:=[52] }
     rcases tf J with s | s
     ·replace b:=cT s b
      refine zF ?_ { tk:=[52] }
      cases soI b
      exact zO
     ·replace b:=cF s b
      obtain ⟨L,G,b⟩:=bindS b
      refine zD (Z171w hA G) ?_ { tk:=[52] }
      refine zF ?_ { tk:=[52] }
      cases soI b
      exact zO
    ·replace b:=cF r b
     refine zF ?_ { tk:=[52] }
     cases soI b
     exact zO
   ·rintro _ rfl
    refine nT (zr ?_)
    cases soI h
    exact zq

theorem Z91w {A:Ar} (hA:SA A) {i:List D} {L:Bool} (h:Z91 A i=some L):ACall Tryz.prog 91 [zl 6 i] [] (.d (.bool L)) []:=by
 unfold Z91 at h
 refine zI Tryz.func91 ?_
 refine zs ?_
 refine zA ?_
 refine nT (zs (zs ?_))
 refine zA ?_
 refine nT ?_
 rcases tf (A.zlt 8 (A.len i)) with v | v
 ·replace h:=cT v h
  refine zT ?_
  refine zs ?_
  refine zB ?_
  refine nT (zr (rT ?_))
  cases soI h
  exact zq
 ·replace h:=cF v h
  refine zU ?_
  refine zk (nT (zs (zs ?_)))
  refine zB ?_
  refine nT (zb ?_)
  obtain ⟨e1,i0,R,o,g⟩:=bindK h
  refine AWp.cutX 0 [] [] 0 (lb rfl) (fun τ=>R (.inl ())=some L/\τ={ env:=[],heap:=[],n:=80 }) ?_ ?_
  ·skip
   refine AWp.iter i0 [0,3] [] 0 (lb rfl) (fun j=>{ env:=[(0,zl 6 i),(3,zi j)],heap:=[],n:=80 }) ⟨rfl,zv⟩ ?_
   rintro j e0 b
   dsimp only [Z91L1] at b
   refine zs (zs ?_)
   refine zA ?_
   refine nT ?_
   rcases tf (A.zlt j (A.len i)) with w | w
   ·replace b:=cT w b
    refine zT ?_
    refine zk (nT (zs (zb (zs ?_))))
    obtain ⟨⟨p,q,r,l,s,m⟩,S,b⟩:=bindS b
    obtain ⟨w0,y0⟩:=gtI S
    refine zB ?_ { tk:=[18] }
    refine nT (zs (zs ?_))
    obtain ⟨O,a,b⟩:=bindS b
    refine AWp.cutN [0,3,4,46] [] 0 (lb rfl) (fun τ=>τ={ env:=[(0,zl 6 i),(3,zi j),(4,(.lbox [zi p,zi q,zi r,zi l,zi s,zi m])),(46,.d (.bool O))],heap:=[],n:=80 }) ?_ ?_
    ·skip
     refine zn ?_
     obtain ⟨j0,U,a⟩:=bindS a
     refine zD (Z90w hA U) ?_
     rcases tf j0 with y | y
     ·replace a:=cT y a
      obtain ⟨k0,V,a⟩:=bindS a
      refine zD (Z90w hA V) ?_
      rcases tf k0 with z | z
      ·replace a:=cT z a
       obtain ⟨l0,W,a⟩:=bindS a
       refine zD (Z90w hA W) ?_
       rcases tf l0 with B | B
       ·replace a:=cT B a
        obtain ⟨m0,X,a⟩:=bindS a
        refine zD (Z90w hA X) ?_
        rcases tf m0 with C | C
        ·replace a:=cT C a
         obtain ⟨b1,Y,a⟩:=bindS a
         refine zD (Z90w hA Y) ?_
         refine zF ?_
         cases soI a
         exact zO
        ·replace a:=cF C a
         refine zF ?_
         cases soI a
         exact zO
       ·replace a:=cF B a
        refine zF ?_
        cases soI a
        exact zO
      ·replace a:=cF z a
       refine zF ?_
       cases soI a
       exact zO
     ·replace a:=cF y a
      refine zF ?_
      cases soI a
      exact zO
    ·rintro _ rfl
     refine nT ?_
     rcases tf O with E | E
     ·replace b:=cT E b
      refine zT ?_
      refine zs ?_
      refine zB ?_
      refine nT (zr (rT (rB (rT (rT ?_)))))
      refine exL b fun hx => ?_
      subst hx
      refine oxR ?_
      replace g:=(eR (o _ g))
      refine rB (rT ?_)
      cases soI g
      exact zq
     ·replace b:=cF E b
      refine zU ?_
      refine zk (nT (zs (zs ?_)))
      obtain ⟨P,e,b⟩:=bindS b
      refine AWp.cutN [0,3,4,68] [] 0 (lb rfl) (fun τ=>τ={ env:=[(0,zl 6 i),(3,zi j),(4,(.lbox [zi p,zi q,zi r,zi l,zi s,zi m])),(68,.d (.bool P))],heap:=[],n:=80 }) ?_ ?_
      ·skip
       refine zn ?_
       rcases tf (A.zeq m 0) with F | F
       ·replace e:=cT F e
        rcases tf (A.zeq l 0) with G | G
        ·replace e:=cT G e
         refine zF ?_
         cases soI e
         exact zO
        ·replace e:=cF G e
         refine zF ?_
         cases soI e
         exact zO
       ·replace e:=cF F e
        obtain ⟨c1,a0,e⟩:=bindS e
        refine zD (Z90w hA a0) ?_
        refine zF ?_
        cases soI e
        exact zO
      ·rintro _ rfl
       refine nT ?_
       rcases tf P with J | J
       ·replace b:=cT J b
        refine zT ?_
        refine zs ?_
        refine zB ?_
        refine nT (zr (rT (rB (rT (rT ?_)))))
        refine exL b fun hx => ?_
        subst hx
        refine oxR ?_
        replace g:=(eR (o _ g))
        refine rB (rT ?_)
        cases soI g
        exact zq
       ·replace b:=cF J b
        refine zU ?_
        refine zk (nT (zs ?_))
        refine zB ?_
        refine nT (zb ?_)
        obtain ⟨d1,g0,Q,N,k⟩:=bindK b
        refine AWp.cutX 2 [0,3] [] 0 (lb rfl) (fun τ=>Q (.inl ())=some e0/\τ={ env:=[(0,zl 6 i),(3,zi j)],heap:=[],n:=80 }) ?_ ?_
        ·skip
         refine AWp.iter g0 [0,3,4,5] [] 0 (lb rfl) (fun M=>{ env:=[(0,zl 6 i),(3,zi j),(4,(.lbox [zi p,zi q,zi r,zi l,zi s,zi m])),(5,zi M)],heap:=[],n:=80 }) ⟨rfl,zv⟩ ?_
         rintro M v0 c
         dsimp only [Z91L0] at c
         refine zs (zs ?_)
         refine zA ?_
         refine nT ?_
         rcases tf (A.zlt M j) with K | K
         ·replace c:=cT K c
          refine zT ?_
          refine zk (nT (zs (zb (zs ?_))))
          refine AWp.regionDraw rfl (lb rfl) ?_
          obtain ⟨⟨o0,p0,q0,r0,s0,u0⟩,b0,c⟩:=bindS c
          obtain ⟨z0,a1⟩:=gtI b0
          obtain ⟨n0,d0,c⟩:=bindS c
          refine DOps.c0 hT hA {} rfl zu (Z135w hA d0) rfl rfl (lb rfl) rfl rfl ?_
          refine DOps.cd hT hA {} rfl zu (by kernel_rfl) ?_
          refine nT ?_
          rcases tf n0 with u | u
          ·replace c:=cT u c
           refine zT ?_
           refine zs ?_
           refine zB ?_
           refine nT (zr (rB (rT (rT ?_))))
           refine exL c fun hx => ?_
           subst hx
           refine oxR ?_
           replace k:=(eR (N _ k))
           refine rB (rB (rT (rT ?_)))
           refine exL k fun hx => ?_
           subst hx
           refine oxR ?_
           replace g:=(eR (o _ g))
           refine rB (rT ?_)
           cases soI g
           exact zq
          ·replace c:=cF u c
           refine zU ?_
           refine zk (nB (nT ?_))
           refine zB ?_
           exact nT ⟨_,(soI c).symm,rfl,zv⟩
         ·replace c:=cF K c
          refine zU ?_
          refine AWp.exit (xT (xT ?_))
          refine exL c fun hx => ?_
          subst hx
          exact oxI ⟨rfl,k,zv⟩
        ·rintro _ ⟨k,rfl⟩
         have b:=(eL (N _ k))
         refine xB (nB (nT ?_))
         refine zA ?_
         exact nT ⟨_,(soI b).symm,rfl,zc⟩
   ·replace b:=cF w b
    refine zU ?_
    refine AWp.exit (xT (xT ?_))
    refine exL b fun hx => ?_
    subst hx
    exact oxI ⟨rfl,g,zv⟩
  ·rintro _ ⟨g,rfl⟩
   have h:=(eL (o _ g))
   refine xB (nT (zs ?_))
   refine zA ?_
   refine nT (zr ?_)
   cases soI h
   exact zq

theorem Z49w {A:Ar} (hA:SA A) {g i:List D} {q:Bool} (h:Z49 A g i=some q):ACall Tryz.prog 49 [zl 4 g,zl 6 i] [] (.d (.bool q)) []:=by
 unfold Z49 at h
 refine zI Tryz.func49 ?_
 refine zs ?_
 refine zA ?_
 refine nT (zs (zs ?_))
 obtain ⟨u,c,h⟩:=bindS h
 refine AWp.cutN [0,1,13] [] 0 (lb rfl) (fun τ=>τ={ env:=[(0,zl 4 g),(1,zl 6 i),(13,.d (.bool u))],heap:=[],n:=45 }) ?_ ?_
 ·skip
  refine zn ?_
  obtain ⟨F,y,c⟩:=bindS c
  refine zC (Z48w hA y) ?_
  rcases tf F with o | o
  ·replace c:=cT o c
   obtain ⟨X,C,c⟩:=bindS c
   refine zD (Z91w hA C) ?_
   refine zF ?_
   cases soI c
   exact zO
  ·replace c:=cF o c
   refine zF ?_
   cases soI c
   exact zO
 ·rintro _ rfl
  refine nT ?_
  rcases tf u with k | k
  ·replace h:=cT k h
   refine zT ?_
   refine zs ?_
   refine zB ?_
   refine nT (zr (rT ?_))
   cases soI h
   exact zq
  ·replace h:=cF k h
   refine zU ?_
   refine zk (nT (zs (zs ?_)))
   refine zB ?_
   refine nT (zb ?_)
   obtain ⟨Y,E,v,r,e⟩:=bindK h
   refine AWp.cutX 0 [] [] 0 (lb rfl) (fun τ=>v (.inl ())=some q/\τ={ env:=[],heap:=[],n:=45 }) ?_ ?_
   ·skip
    refine AWp.iter E [0,1,5] [] 0 (lb rfl) (fun j=>{ env:=[(0,zl 4 g),(1,zl 6 i),(5,zi j)],heap:=[],n:=45 }) ⟨rfl,zv⟩ ?_
    rintro j R a
    dsimp only [Z49L0] at a
    refine zs (zs ?_)
    refine zA ?_
    refine nT ?_
    rcases tf (A.zlt j (A.len i)) with l | l
    ·replace a:=cT l a
     refine zT ?_
     refine zk (nT (zs (zb (zs ?_))))
     obtain ⟨s,b,a⟩:=bindS a
     refine AWp.cutN [0,1,5,44] [] 0 (lb rfl) (fun τ=>τ={ env:=[(0,zl 4 g),(1,zl 6 i),(5,zi j),(44,.d (.bool s))],heap:=[],n:=45 }) ?_ ?_
     ·skip
      obtain ⟨⟨G,w,J,K,L,M⟩,z,b⟩:=bindS b
      obtain ⟨S,U⟩:=gtI z
      rcases tf (A.zle (A.len g) w) with m | m
      ·replace b:=cT m b
       refine AWp.rd hT hA {} rfl zu (by kernel_rfl) (lb rfl) ?_
       cases soI b
       exact zO
      ·replace b:=cF m b
       obtain ⟨⟨N,O,P,Q⟩,B,b⟩:=bindS b
       obtain ⟨V,W⟩:=gtI B
       refine AWp.rd hT hA {} rfl zu (by kernel_rfl) (lb rfl) ?_
       cases soI b
       exact zO
     ·rintro _ rfl
      refine nT ?_
      rcases tf s with p | p
      ·replace a:=cT p a
       refine zT ?_
       refine zs ?_
       refine zB ?_
       refine nT (zr (rB (rT (rT ?_))))
       refine exL a fun hx => ?_
       subst hx
       refine oxR ?_
       replace e:=(eR (r _ e))
       refine rB (rT ?_)
       cases soI e
       exact zq
      ·replace a:=cF p a
       refine zU ?_
       refine zk (nB (nT ?_))
       refine zB ?_
       exact nT ⟨_,(soI a).symm,rfl,zv⟩
    ·replace a:=cF l a
     refine zU ?_
     refine AWp.exit (xT (xT ?_))
     refine exL a fun hx => ?_
     subst hx
     exact oxI ⟨rfl,e,zv⟩
   ·rintro _ ⟨e,rfl⟩
    have h:=(eL (r _ e))
    refine xB (nT (zs ?_))
    refine zA ?_
    refine nT (zr ?_)
    cases soI h
    exact zq

theorem Z92w {A:Ar} (hA:SA A) {e g:List D} {c:Int} (h:Z92 A e g=some c):ACall Tryz.prog 92 [zl 4 e,zl 6 g] [] (zi c) []:=by
 unfold Z92 at h
 refine zI Tryz.func92 ?_
 refine zs ?_
 refine zA ?_
 refine nT (zs (zs (zn ?_)))
 obtain ⟨k,i,h⟩:=bindS h
 refine zC (Z48w hA i) ?_
 refine zE ?_
 refine nT ?_
 rcases tf k with a | a
 ·replace h:=cT a h
  refine zU ?_
  refine zk (nT (zs (zs (zn ?_))))
  obtain ⟨l,j,h⟩:=bindS h
  refine zD (Z49w hA j) ?_
  refine zF ?_
  refine nT ?_
  rcases tf l with b | b
  ·replace h:=cT b h
   refine zU ?_
   refine zk (nT (zs ?_))
   refine zB ?_
   refine nT (zr ?_)
   cases soI h
   exact zq
  ·replace h:=cF b h
   refine zT ?_
   refine zs ?_
   refine zB ?_
   refine nT (zr (rT ?_))
   cases soI h
   exact zq
 ·replace h:=cF a h
  refine zT ?_
  refine zs ?_
  refine zB ?_
  refine nT (zr (rT ?_))
  cases soI h
  exact zq

theorem Z136aw {A:Ar} (hA:SA A) {g l:List D} {m:Bool} (h:Z136a A g l=some m):ACall Tryz.prog 136 [zl 6 g,zl 1 l] [] (.d (.bool m)) []:=by
 unfold Z136a at h
 refine zI Tryz.func136 ?_
 refine zs ?_
 refine zA ?_
 refine nT (zs (zs ?_))
 refine zA ?_
 refine nT ?_
 rcases tf (A.zlt (A.len g) (A.len l)) with s | s
 ·replace h:=cT s h
  refine zT ?_
  refine zs ?_
  refine zB ?_
  refine nT (zr (rT ?_))
  cases soI h
  exact zq
 ·replace h:=cF s h
  refine zU ?_
  refine zk (nT (zs ?_))
  obtain ⟨_,Y,h⟩:=bindS h
  have f4:=ckI Y
  obtain ⟨_,e8,h⟩:=bindS h
  have f5:=ckI e8
  obtain ⟨_,e9,h⟩:=bindS h
  have f6:=ckI e9
  refine zB ?_
  refine nT (zs (zs ?_))
  refine zB ?_
  refine nT (zb ?_)
  obtain ⟨l1,b0,J,C,j⟩:=bindK h
  refine AWp.cutX 0 [0,5] [] 1 (lb rfl) (fun τ => ∃ k,J (.inl k)=some m/\τ={ env:=[(0,zl 6 g),(5,.mref 0 1 0 (A.len g))],heap:=[(.arr 1 k)],n:=65 }) ?_ ?_
  ·skip
   refine AWp.iter b0 [0,1,5,6] [] 1 (lb rfl) (fun (o,z)=>{ env:=[(0,zl 6 g),(1,zl 1 l),(5,.mref 0 1 0 (A.len g)),(6,zi o)],heap:=[(.arr 1 z)],n:=65 }) ⟨rfl,zv⟩ ?_
   rintro ⟨o,z⟩ r0 a
   dsimp only [Z136aL0] at a
   refine zs (zs ?_)
   refine zA ?_
   refine nT ?_
   rcases tf (A.zlt o (A.len l)) with u | u
   ·replace a:=cT u a
    refine zT ?_
    refine zk (nT (zs (zb (zs (zs ?_)))))
    obtain ⟨F,b,a⟩:=bindS a
    refine AWp.cutN [0,1,5,6,39] [] 1 (lb rfl) (fun τ=>τ={ env:=[(0,zl 6 g),(1,zl 1 l),(5,.mref 0 1 0 (A.len g)),(6,zi o),(39,.d (.bool F))],heap:=[(.arr 1 z)],n:=65 }) ?_ ?_
    ·skip
     refine zn ?_
     obtain ⟨e0,P,b⟩:=bindS b
     obtain ⟨z0,a1⟩:=gtI P
     obtain ⟨c0,Q,b⟩:=bindS b
     refine zD (Z90w hA Q) ?_
     rcases tf c0 with v | v
     ·replace b:=cT v b
      obtain ⟨_,R,b⟩:=bindS b
      have b1:=ckI R
      obtain ⟨_,S,b⟩:=bindS b
      have c1:=ckI S
      obtain ⟨g0,U,b⟩:=bindS b
      have d1:=gcI U
      refine zF ?_
      cases soI b
      exact zO
     ·replace b:=cF v b
      refine zF ?_
      cases soI b
      exact zO
    ·rintro _ rfl
     refine nT ?_
     rcases tf F with w | w
     ·replace a:=cT w a
      refine zT ?_
      refine zs ?_
      refine zB ?_
      refine nT (zr (rT (rB (rT (rT ?_)))))
      refine exL a fun hx => ?_
      subst hx
      refine oxR ?_
      replace j:=(eR (C _ j))
      refine rB (rT ?_)
      cases soI j
      exact zq
     ·replace a:=cF w a
      refine zU ?_
      refine zk (nT ?_)
      obtain ⟨i0,V,a⟩:=bindS a
      obtain ⟨e1,g1⟩:=gtI V
      obtain ⟨_,W,a⟩:=bindS a
      have i1:=ckI W
      obtain ⟨_,X,a⟩:=bindS a
      have j1:=ckI X
      obtain ⟨o0,p0,a⟩:=bindS a
      refine zB ?_
      refine nB (nT ?_)
      refine zB ?_
      exact nT ⟨_,(soI a).symm,rfl,zv⟩
   ·replace a:=cF u a
    refine zU ?_
    refine AWp.exit (xT (xT ?_))
    refine exL a fun hx => ?_
    subst hx
    exact oxI ⟨rfl,_,j,zv⟩
  ·rintro _ ⟨k,j,rfl⟩
   have h:=(eL (C _ j))
   refine xB (nT (zs (zs ?_)))
   refine zA ?_
   refine nT (zb ?_)
   obtain ⟨k1,a0,G,B,i⟩:=bindK h
   refine AWp.cutX 2 [] [] 1 (lb rfl) (fun τ=>G (.inl ())=some m/\τ={ env:=[],heap:=[(.arr 1 k)],n:=65 }) ?_ ?_
   ·skip
    refine AWp.iter a0 [0,5,7] [] 1 (lb rfl) (fun p=>{ env:=[(0,zl 6 g),(5,.mref 0 1 0 (A.len g)),(7,zi p)],heap:=[(.arr 1 k)],n:=65 }) ⟨rfl,zc⟩ ?_
    rintro p q0 c
    dsimp only [Z136aL1] at c
    refine zs (zs ?_)
    refine zA ?_
    refine nT ?_
    rcases tf (A.zlt p (A.len g)) with y | y
    ·replace c:=cT y c
     refine zT ?_
     refine zk (nT (zs (zb (zs ?_))))
     obtain ⟨E,e,c⟩:=bindS c
     refine AWp.cutN [0,5,7,64] [] 1 (lb rfl) (fun τ=>τ={ env:=[(0,zl 6 g),(5,.mref 0 1 0 (A.len g)),(7,zi p),(64,.d (.bool E))],heap:=[(.arr 1 k)],n:=65 }) ?_ ?_
     ·skip
      obtain ⟨⟨j0,k0,l0,m0,n0,K⟩,L,e⟩:=bindS e
      obtain ⟨s0,u0⟩:=gtI L
      rcases tf (A.zeq K 0) with q | q
      ·replace e:=cT q e
       refine zB ?_
       cases soI e
       exact zO
      ·replace e:=cF q e
       obtain ⟨_,M,e⟩:=bindS e
       have v0:=ckI M
       obtain ⟨_,N,e⟩:=bindS e
       have w0:=ckI N
       obtain ⟨d0,O,e⟩:=bindS e
       have y0:=gcI O
       refine zB ?_
       cases soI e
       exact zO
     ·rintro _ rfl
      refine nT ?_
      rcases tf E with r | r
      ·replace c:=cT r c
       refine zT ?_
       refine zs ?_
       refine zB ?_
       refine nT (zr (rB (rT (rT ?_))))
       refine exL c fun hx => ?_
       subst hx
       refine oxR ?_
       replace i:=(eR (B _ i))
       refine rB (rT ?_)
       cases soI i
       exact zq
      ·replace c:=cF r c
       refine zU ?_
       refine zk (nB (nT ?_))
       refine zB ?_
       exact nT ⟨_,(soI c).symm,rfl,zv⟩
    ·replace c:=cF y c
     refine zU ?_
     refine AWp.exit (xT (xT ?_))
     refine exL c fun hx => ?_
     subst hx
     exact oxI ⟨rfl,i,zv⟩
   ·rintro _ ⟨i,rfl⟩
    have h:=(eL (B _ i))
    refine xB (nT (zs ?_))
    refine zA ?_
    refine nT (zr ?_)
    cases soI h
    exact zq

theorem Z137aw {A:Ar} (hA:SA A) {c:List D} {e:Int} {j:Bool} (h:Z137a A c e=some j):ACall Tryz.prog 137 [zl 1 c,zi e] [] (.d (.bool j)) []:=by
 unfold Z137a at h
 refine zI Tryz.func137 ?_
 refine zs ?_
 refine zA ?_
 refine nT (zs (zs ?_))
 refine zA ?_
 refine nT (zb ?_)
 obtain ⟨v,q,m,l,b⟩:=bindK h
 refine AWp.cutX 0 [] [] 0 (lb rfl) (fun τ=>m (.inl ())=some j/\τ={ env:=[],heap:=[],n:=18 }) ?_ ?_
 ·skip
  refine AWp.iter q [0,1,5] [] 0 (lb rfl) (fun k=>{ env:=[(0,zl 1 c),(1,zi e),(5,zi k)],heap:=[],n:=18 }) ⟨rfl,zc⟩ ?_
  rintro k r a
  dsimp only [Z137aL0] at a
  refine zs (zs ?_)
  refine zA ?_
  refine nT ?_
  rcases tf (A.zlt k (A.len c)) with g | g
  ·replace a:=cT g a
   refine zT ?_
   refine zk (nT (zs (zb (zs ?_))))
   obtain ⟨o,p,a⟩:=bindS a
   obtain ⟨s,u⟩:=gtI p
   refine zB ?_
   refine nT ?_
   rcases tf (A.zeq o e) with i | i
   ·replace a:=cT i a
    refine zT ?_
    refine zs ?_
    refine zB ?_
    refine nT (zr (rB (rT (rT ?_))))
    refine exL a fun hx => ?_
    subst hx
    refine oxR ?_
    replace b:=(eR (l _ b))
    refine rB (rT ?_)
    cases soI b
    exact zq
   ·replace a:=cF i a
    refine zU ?_
    refine zk (nB (nT ?_))
    refine zB ?_
    exact nT ⟨_,(soI a).symm,rfl,zv⟩
  ·replace a:=cF g a
   refine zU ?_
   refine AWp.exit (xT (xT ?_))
   refine exL a fun hx => ?_
   subst hx
   exact oxI ⟨rfl,b,zv⟩
 ·rintro _ ⟨b,rfl⟩
  have h:=(eL (l _ b))
  refine xB (nT (zs ?_))
  refine zA ?_
  refine nT (zr ?_)
  cases soI h
  exact zq

theorem Z138aw {A:Ar} (hA:SA A) {e j g:List D} {p:Bool} (h:Z138a A e j g=some p):ACall Tryz.prog 138 [zl 4 e,zl 6 j,zl 1 g] [] (.d (.bool p)) []:=by
 unfold Z138a at h
 refine zI Tryz.func138 ?_
 refine zs ?_
 refine zA ?_
 refine nT (zs ?_)
 obtain ⟨_,V,h⟩:=bindS h
 have f4:=ckI V
 obtain ⟨_,X,h⟩:=bindS h
 have f5:=ckI X
 obtain ⟨_,e9,h⟩:=bindS h
 have f6:=ckI e9
 refine zB ?_
 refine nT (zs (zs ?_))
 refine zA ?_
 refine nT (zb ?_)
 obtain ⟨q1,d0,v,s,c⟩:=bindK h
 refine AWp.cutX 0 [] [] 1 (lb rfl) (fun τ => ∃ o,v (.inl o)=some p/\τ={ env:=[],heap:=[(.arr 1 o)],n:=70 }) ?_ ?_
 ·skip
  refine AWp.iter d0 [0,1,2,7,8] [] 1 (lb rfl) (fun (i,q)=>{ env:=[(0,zl 4 e),(1,zl 6 j),(2,zl 1 g),(7,.mref 0 1 0 (A.len e)),(8,zi i)],heap:=[(.arr 1 q)],n:=70 }) ⟨rfl,zc⟩ ?_
  rintro ⟨i,q⟩ p0 a
  dsimp only [Z138aL0] at a
  refine zs (zs ?_)
  refine zA ?_
  refine nT ?_
  rcases tf (A.zlt i (A.len g)) with l | l
  ·replace a:=cT l a
   refine zT ?_
   refine zk (nT (zs (zb (zs ?_))))
   obtain ⟨l0,W,a⟩:=bindS a
   obtain ⟨i1,j1⟩:=gtI W
   obtain ⟨⟨w,y,z,B,C,r⟩,Y,a⟩:=bindS a
   obtain ⟨k1,l1⟩:=gtI Y
   refine zB ?_ { tk:=[26] }
   refine nT (zs ?_)
   obtain ⟨⟨E,F,G,J⟩,a0,a⟩:=bindS a
   obtain ⟨m1,n1⟩:=gtI a0
   refine zB ?_ { tk:=[31] }
   refine nT (zs (zs ?_))
   obtain ⟨u,b,a⟩:=bindS a
   refine AWp.cutN [0,1,2,7,8,9,10,52] [] 1 (lb rfl) (fun τ=>τ={ env:=[(0,zl 4 e),(1,zl 6 j),(2,zl 1 g),(7,.mref 0 1 0 (A.len e)),(8,zi i),(9,(.lbox [zi w,zi y,zi z,zi B,zi C,zi r])),(10,(.lbox [zi E,zi F,zl 1 G,zl 1 J])),(52,.d (.bool u))],heap:=[(.arr 1 q)],n:=70 }) ?_ ?_
   ·skip
    rcases tf (A.zeq r 0) with m | m
    ·replace b:=cT m b
     refine AWp.rd hT hA {} rfl zu (by kernel_rfl) (lb rfl) ?_
     cases soI b
     exact zO
    ·replace b:=cF m b
     obtain ⟨_,b0,b⟩:=bindS b
     have o1:=ckI b0
     obtain ⟨_,c0,b⟩:=bindS b
     have p1:=ckI c0
     obtain ⟨m0,K,b⟩:=bindS b
     have q0:=gcI K
     obtain ⟨e0,L,b⟩:=bindS b
     obtain ⟨r0,s0⟩:=gtI L
     obtain ⟨g0,M,b⟩:=bindS b
     obtain ⟨u0,v0⟩:=gtI M
     refine AWp.rd hT hA {} rfl zu (by kernel_rfl) (lb rfl) ?_
     cases soI b
     exact zO
   ·rintro _ rfl
    refine nT ?_
    rcases tf u with k | k
    ·replace a:=cT k a
     refine zT ?_
     refine zs ?_
     refine zB ?_
     refine nT (zr (rT (rB (rT (rT ?_)))))
     refine exL a fun hx => ?_
     subst hx
     refine oxR ?_
     replace c:=(eR (s _ c))
     refine rB (rT ?_)
     cases soI c
     exact zq
    ·replace a:=cF k a
     refine zU ?_
     refine zk (nT ?_)
     obtain ⟨_,N,a⟩:=bindS a
     have w0:=ckI N
     obtain ⟨_,O,a⟩:=bindS a
     have y0:=ckI O
     obtain ⟨i0,P,a⟩:=bindS a
     have z0:=gcI P
     obtain ⟨j0,Q,a⟩:=bindS a
     obtain ⟨a1,b1⟩:=gtI Q
     obtain ⟨k0,R,a⟩:=bindS a
     obtain ⟨c1,d1⟩:=gtI R
     obtain ⟨_,S,a⟩:=bindS a
     have e1:=ckI S
     obtain ⟨_,U,a⟩:=bindS a
     have g1:=ckI U
     obtain ⟨n0,o0,a⟩:=bindS a
     refine AWp.rd hT hA { tk:=[68] } rfl zu (by kernel_rfl) (lb rfl) ?_
     refine nB (nT ?_)
     refine zB ?_
     exact nT ⟨_,(soI a).symm,rfl,zv⟩
  ·replace a:=cF l a
   refine zU ?_
   refine AWp.exit (xT (xT ?_))
   refine exL a fun hx => ?_
   subst hx
   exact oxI ⟨rfl,_,c,zv⟩
 ·rintro _ ⟨o,c,rfl⟩
  have h:=(eL (s _ c))
  refine xB (nT (zs ?_))
  refine zA ?_
  refine nT (zr ?_)
  cases soI h
  exact zq

theorem Z139aw {A:Ar} (hA:SA A) {k g:List D} {r:Bool} (h:Z139a A k g=some r):ACall Tryz.prog 139 [zl 6 k,zl 1 g] [] (.d (.bool r)) []:=by
 unfold Z139a at h
 refine zI Tryz.func139 ?_
 refine zs ?_
 refine zA ?_
 refine nT (zs (zs ?_))
 refine zA ?_
 refine nT (zb ?_)
 obtain ⟨m0,L,y,u,j⟩:=bindK h
 refine AWp.cutX 0 [] [] 0 (lb rfl) (fun τ=>y (.inl ())=some r/\τ={ env:=[],heap:=[],n:=54 }) ?_ ?_
 ·skip
  refine AWp.iter L [0,1,5] [] 0 (lb rfl) (fun e=>{ env:=[(0,zl 6 k),(1,zl 1 g),(5,zi e)],heap:=[],n:=54 }) ⟨rfl,zc⟩ ?_
  rintro e J c
  dsimp only [Z139aL1] at c
  refine zs (zs ?_)
  refine zA ?_
  refine nT ?_
  rcases tf (A.zlt e (A.len g)) with p | p
  ·replace c:=cT p c
   refine zT ?_
   refine zk (nT (zs (zb (zs ?_))))
   refine zB ?_
   refine nT (zb ?_)
   obtain ⟨l0,K,w,s,i⟩:=bindK c
   refine AWp.cutX 2 [0,1,5] [] 0 (lb rfl) (fun τ=>w (.inl ())=some J/\τ={ env:=[(0,zl 6 k),(1,zl 1 g),(5,zi e)],heap:=[],n:=54 }) ?_ ?_
   ·skip
    refine AWp.iter K [0,1,5,6] [] 0 (lb rfl) (fun l=>{ env:=[(0,zl 6 k),(1,zl 1 g),(5,zi e),(6,zi l)],heap:=[],n:=54 }) ⟨rfl,zv⟩ ?_
    rintro l a0 a
    dsimp only [Z139aL0] at a
    refine zs (zs ?_)
    refine zA ?_
    refine nT ?_
    rcases tf (A.zlt l e) with m | m
    ·replace a:=cT m a
     refine zT ?_
     refine zk (nT (zs (zb (zs ?_))))
     obtain ⟨v,b,a⟩:=bindS a
     refine AWp.cutN [0,1,5,6,53] [] 0 (lb rfl) (fun τ=>τ={ env:=[(0,zl 6 k),(1,zl 1 g),(5,zi e),(6,zi l),(53,.d (.bool v))],heap:=[],n:=54 }) ?_ ?_
     ·skip
      obtain ⟨M,C,b⟩:=bindS b
      obtain ⟨b0,c0⟩:=gtI C
      obtain ⟨⟨z,N,O,P,Q,R⟩,E,b⟩:=bindS b
      obtain ⟨d0,e0⟩:=gtI E
      obtain ⟨S,F,b⟩:=bindS b
      obtain ⟨g0,i0⟩:=gtI F
      obtain ⟨⟨B,U,V,W,X,Y⟩,G,b⟩:=bindS b
      obtain ⟨j0,k0⟩:=gtI G
      rcases tf (A.zeq z B) with o | o
      ·replace b:=cT o b
       refine AWp.rd hT hA {} rfl zu (by kernel_rfl) (lb rfl) ?_
       cases soI b
       exact zO
      ·replace b:=cF o b
       refine AWp.rd hT hA {} rfl zu (by kernel_rfl) (lb rfl) ?_
       cases soI b
       exact zO
     ·rintro _ rfl
      refine nT ?_
      rcases tf v with q | q
      ·replace a:=cT q a
       refine zT ?_
       refine zs ?_
       refine zB ?_
       refine nT (zr (rB (rT (rT ?_))))
       refine exL a fun hx => ?_
       subst hx
       refine oxR ?_
       replace i:=(eR (s _ i))
       refine rB (rB (rT (rT ?_)))
       refine exL i fun hx => ?_
       subst hx
       refine oxR ?_
       replace j:=(eR (u _ j))
       refine rB (rT ?_)
       cases soI j
       exact zq
      ·replace a:=cF q a
       refine zU ?_
       refine zk (nB (nT ?_))
       refine zB ?_
       exact nT ⟨_,(soI a).symm,rfl,zv⟩
    ·replace a:=cF m a
     refine zU ?_
     refine AWp.exit (xT (xT ?_))
     refine exL a fun hx => ?_
     subst hx
     exact oxI ⟨rfl,i,zv⟩
   ·rintro _ ⟨i,rfl⟩
    have c:=(eL (s _ i))
    refine xB (nB (nT ?_))
    refine zA ?_
    exact nT ⟨_,(soI c).symm,rfl,zc⟩
  ·replace c:=cF p c
   refine zU ?_
   refine AWp.exit (xT (xT ?_))
   refine exL c fun hx => ?_
   subst hx
   exact oxI ⟨rfl,j,zv⟩
 ·rintro _ ⟨j,rfl⟩
  have h:=(eL (u _ j))
  refine xB (nT (zs ?_))
  refine zA ?_
  refine nT (zr ?_)
  cases soI h
  exact zq

theorem Z140aw {A:Ar} (hA:SA A) {j i:List D} {p:Bool} (h:Z140a A j i=some p):ACall Tryz.prog 140 [zl 6 j,zl 1 i] [] (.d (.bool p)) []:=by
 unfold Z140a at h
 refine zI Tryz.func140 ?_
 refine zs ?_
 refine zA ?_
 refine nT (zs (zs ?_))
 refine zA ?_
 refine nT (zb ?_)
 obtain ⟨m0,F,u,r,e⟩:=bindK h
 refine AWp.cutX 0 [] [] 0 (lb rfl) (fun τ=>u (.inl ())=some p/\τ={ env:=[],heap:=[],n:=33 }) ?_ ?_
 ·skip
  refine AWp.iter F [0,1,5] [] 0 (lb rfl) (fun g=>{ env:=[(0,zl 6 j),(1,zl 1 i),(5,zi g)],heap:=[],n:=33 }) ⟨rfl,zc⟩ ?_
  rintro g C b
  dsimp only [Z140aL1] at b
  refine zs (zs ?_)
  refine zA ?_
  refine nT ?_
  rcases tf (A.zlt g (A.len i)) with m | m
  ·replace b:=cT m b
   refine zT ?_
   refine zk (nT (zs (zb (zs ?_))))
   refine zB ?_
   refine nT (zb ?_)
   obtain ⟨l0,E,s,q,c⟩:=bindK b
   refine AWp.cutX 2 [0,1,5] [] 0 (lb rfl) (fun τ=>s (.inl ())=some C/\τ={ env:=[(0,zl 6 j),(1,zl 1 i),(5,zi g)],heap:=[],n:=33 }) ?_ ?_
   ·skip
    refine AWp.iter E [0,1,5,6] [] 0 (lb rfl) (fun o=>{ env:=[(0,zl 6 j),(1,zl 1 i),(5,zi g),(6,zi o)],heap:=[],n:=33 }) ⟨rfl,zv⟩ ?_
    rintro o Y a
    dsimp only [Z140aL0] at a
    refine zs (zs ?_)
    refine zA ?_
    refine nT ?_
    rcases tf (A.zlt o g) with k | k
    ·replace a:=cT k a
     refine zT ?_
     refine zk (nT (zs (zb (zs ?_))))
     refine AWp.regionDraw rfl (lb rfl) ?_
     obtain ⟨J,v,a⟩:=bindS a
     obtain ⟨a0,b0⟩:=gtI v
     obtain ⟨⟨K,L,M,N,O,P⟩,w,a⟩:=bindS a
     obtain ⟨d0,e0⟩:=gtI w
     obtain ⟨Q,y,a⟩:=bindS a
     obtain ⟨g0,i0⟩:=gtI y
     obtain ⟨⟨R,S,U,V,W,X⟩,z,a⟩:=bindS a
     obtain ⟨j0,k0⟩:=gtI z
     obtain ⟨G,B,a⟩:=bindS a
     refine DOps.c0 hT hA {} rfl zu (Z171w hA B) rfl rfl (lb rfl) rfl rfl ?_
     refine DOps.cd hT hA {} rfl zu (by kernel_rfl) ?_
     refine nT ?_
     rcases tf G with l | l
     ·replace a:=cT l a
      refine zT ?_
      refine zs ?_
      refine zB ?_
      refine nT (zr (rB (rT (rT ?_))))
      refine exL a fun hx => ?_
      subst hx
      refine oxR ?_
      replace c:=(eR (q _ c))
      refine rB (rB (rT (rT ?_)))
      refine exL c fun hx => ?_
      subst hx
      refine oxR ?_
      replace e:=(eR (r _ e))
      refine rB (rT ?_)
      cases soI e
      exact zq
     ·replace a:=cF l a
      refine zU ?_
      refine zk (nB (nT ?_))
      refine zB ?_
      exact nT ⟨_,(soI a).symm,rfl,zv⟩
    ·replace a:=cF k a
     refine zU ?_
     refine AWp.exit (xT (xT ?_))
     refine exL a fun hx => ?_
     subst hx
     exact oxI ⟨rfl,c,zv⟩
   ·rintro _ ⟨c,rfl⟩
    have b:=(eL (q _ c))
    refine xB (nB (nT ?_))
    refine zA ?_
    exact nT ⟨_,(soI b).symm,rfl,zc⟩
  ·replace b:=cF m b
   refine zU ?_
   refine AWp.exit (xT (xT ?_))
   refine exL b fun hx => ?_
   subst hx
   exact oxI ⟨rfl,e,zv⟩
 ·rintro _ ⟨e,rfl⟩
  have h:=(eL (r _ e))
  refine xB (nT (zs ?_))
  refine zA ?_
  refine nT (zr ?_)
  cases soI h
  exact zq

theorem Z93Bw {A:Ar} (hA:SA A) {self113:List D->Bool->List D->List D->Bool->Int->List D->(Option (Bool×Int×List D))} (o0 : ∀ {i:List D} {m:Bool} {e c:List D} {o:Bool} {p:Int} {r:List D} {X:Bool} {Y:Int} {y3:List D},self113 i m e c o p r=some (X,Y,y3)->ACall Tryz.prog 93 [.ptr 0 0,zl 1 i,.d (.bool m)] [(.cells [zl 4 e,zl 6 c,.d (.bool o),zi p,zl 1 r])] (.tuple []) [(.cells [zl 4 e,zl 6 c,.d (.bool X),zi Y,zl 1 y3])]) {i:List D} {m:Bool} {e c:List D} {o:Bool} {p:Int} {r:List D} {P:Bool} {Q:Int} {R:List D} (h:Z93B A self113 i m e c o p r=some (P,Q,R)):ACall Tryz.prog 93 [.ptr 0 0,zl 1 i,.d (.bool m)] [(.cells [zl 4 e,zl 6 c,.d (.bool o),zi p,zl 1 r])] (.tuple []) [(.cells [zl 4 e,zl 6 c,.d (.bool P),zi Q,zl 1 R])]:=by
 unfold Z93B at h
 refine zI Tryz.func93 ?_
 refine zs (zs (zn ?_))
 obtain ⟨r9,e8,h⟩:=bindS h
 refine zC (Z136aw hA e8) ?_
 refine zE ?_
 refine nT ?_
 obtain ⟨⟨w0,y0⟩,l,h⟩:=bindS h
 refine AWp.cutN [0,1,2] [] 1 (lb rfl) (fun τ=>τ={ env:=[(0,.ptr 0 0),(1,zl 1 i),(2,.d (.bool m))],heap:=[(.cells [zl 4 e,zl 6 c,.d (.bool o),zi w0,zl 1 y0])],n:=107 }) ?_ ?_
 ·skip
  rcases tf r9 with w | w
  ·replace l:=cT w l
   refine zT ?_
   refine zs (zs ?_)
   refine zB ?_
   refine nT ?_
   obtain ⟨v0,k,l⟩:=bindS l
   refine AWp.cutN [0,1,2] [] 1 (lb rfl) (fun τ=>τ={ env:=[(0,.ptr 0 0),(1,zl 1 i),(2,.d (.bool m))],heap:=[(.cells [zl 4 e,zl 6 c,.d (.bool o),zi p,zl 1 v0])],n:=107 }) ?_ ?_
   ·skip
    rcases tf (A.zeq p 0) with y | y
    ·replace k:=cT y k
     refine zT ?_
     obtain ⟨l1,b0,k⟩:=bindS k
     obtain ⟨d1,e1⟩:=apI b0
     refine zB ?_
     cases soI k
     exact zO
    ·replace k:=cF y k
     refine zU ?_
     refine zk ?_
     cases soI k
     exact zO
   ·rintro _ rfl
    refine nT ?_
    refine zA ?_
    cases soI l
    exact zO
  ·replace l:=cF w l
   refine zU ?_
   refine zk ?_
   cases soI l
   exact zO
 ·rintro _ rfl
  refine nT (zs ?_)
  refine zA ?_
  refine nT (zb ?_)
  obtain ⟨r1,n0,a0,m0,L⟩:=bindK h
  refine AWp.cutX 0 [] [] 1 (lb rfl) (fun τ => ∃ M N O,a0 (M,N,O)=some (P,Q,R)/\τ={ env:=[],heap:=[(.cells [zl 4 e,zl 6 c,.d (.bool M),zi N,zl 1 O])],n:=107 }) ?_ ?_
  ·skip
   refine AWp.iter n0 [0,1,2,6] [] 1 (lb rfl) (fun (S,q,s,u,v)=>{ env:=[(0,.ptr 0 0),(1,zl 1 i),(2,.d (.bool S)),(6,zi q)],heap:=[(.cells [zl 4 e,zl 6 c,.d (.bool s),zi u,zl 1 v])],n:=107 }) ⟨rfl,zc⟩ ?_
   rintro ⟨S,q,s,u,v⟩ c1 b
   dsimp only [Z93L0] at b
   refine zs (zs ?_)
   obtain ⟨⟨U,V⟩,g,b⟩:=bindS b
   refine AWp.cutN [0,1,2,6,49] [] 1 (lb rfl) (fun τ=>τ={ env:=[(0,.ptr 0 0),(1,zl 1 i),(2,.d (.bool U)),(6,zi q),(49,.d (.bool V))],heap:=[(.cells [zl 4 e,zl 6 c,.d (.bool s),zi u,zl 1 v])],n:=107 }) ?_ ?_
   ·skip
    rcases tf (A.zlt q (A.len c)) with z | z
    ·replace g:=cT z g
     rcases tf S with B | B
     ·replace g:=cT B g
      refine zB ?_
      cases soI g
      exact zO
     ·replace g:=cF B g
      refine zB ?_
      cases soI g
      exact zO
    ·replace g:=cF z g
     refine zB ?_
     cases soI g
     exact zO
   ·rintro _ rfl
    refine nT ?_
    rcases tf V with C | C
    ·replace b:=cT C b
     refine zT ?_
     refine zk (nT (zs (zb (zs ?_))))
     obtain ⟨m1,d0,b⟩:=bindS b
     obtain ⟨g1,i1⟩:=apI d0
     obtain ⟨p0,e0,b⟩:=bindS b
     obtain ⟨j1,k1⟩:=apI e0
     refine zB ?_
     refine nT (zs ?_)
     obtain ⟨⟨W,z0⟩,a,b⟩:=bindS b
     refine AWp.cutN [0,1,2,6,7,102] [] 1 (lb rfl) (fun τ=>τ={ env:=[(0,.ptr 0 0),(1,zl 1 i),(2,.d (.bool U)),(6,zi q),(7,zl 1 p0),(102,.d (.bool W))],heap:=[(.cells [zl 4 e,zl 6 c,.d (.bool z0),zi u,zl 1 v])],n:=107 }) ?_ ?_
     ·skip
      refine AWp.regionDraw rfl (lb rfl) ?_
      obtain ⟨q0,g0,a⟩:=bindS a
      refine DOps.c0 hT hA {} rfl zu (Z137aw hA g0) rfl rfl (lb rfl) rfl rfl ?_
      rcases tf q0 with E | E
      ·replace a:=cT E a
       refine DOps.cd hT hA {} rfl zu (by kernel_rfl) ?_
       cases soI a
       exact zO
      ·replace a:=cF E a
       obtain ⟨r0,i0,a⟩:=bindS a
       refine DOps.c0 hT hA {} rfl zu (Z138aw hA i0) rfl rfl (lb rfl) rfl rfl ?_
       rcases tf r0 with F | F
       ·replace a:=cT F a
        rcases tf s with G | G
        ·replace a:=cT G a
         obtain ⟨s0,j0,a⟩:=bindS a
         refine DOps.c0 hT hA {} rfl zu (Z139aw hA j0) rfl rfl (lb rfl) rfl rfl ?_
         rcases tf s0 with J | J
         ·replace a:=cT J a
          refine DOps.cd hT hA {} rfl zu (by kernel_rfl) ?_
          cases soI a
          exact zO
         ·replace a:=cF J a
          refine DOps.cd hT hA {} rfl zu (by kernel_rfl) ?_
          cases soI a
          exact zO
        ·replace a:=cF G a
         obtain ⟨n1,k0,a⟩:=bindS a
         refine DOps.c0 hT hA {} rfl zu (Z140aw hA k0) rfl rfl (lb rfl) rfl rfl ?_
         refine DOps.cd hT hA {} rfl zu (by kernel_rfl) ?_
         cases soI a
         exact zO
       ·replace a:=cF F a
        refine DOps.cd hT hA {} rfl zu (by kernel_rfl) ?_
        cases soI a
        exact zO
     ·rintro _ rfl
      refine nT ?_
      obtain ⟨⟨a1,b1,u0⟩,j,b⟩:=bindS b
      refine AWp.cutN [0,1,2,6] [] 1 (lb rfl) (fun τ=>τ={ env:=[(0,.ptr 0 0),(1,zl 1 i),(2,.d (.bool U)),(6,zi q)],heap:=[(.cells [zl 4 e,zl 6 c,.d (.bool a1),zi b1,zl 1 u0])],n:=107 }) ?_ ?_
      ·skip
       rcases tf W with K | K
       ·replace j:=cT K j
        refine zT ?_
        refine zn ?_
        obtain ⟨⟨o1,p1,q1⟩,l0,j⟩:=bindS j
        refine zD (o0 l0) ?_
        refine zF ?_
        cases soI j
        exact zO
       ·replace j:=cF K j
        refine zU ?_
        refine zk ?_
        cases soI j
        exact zO
      ·rintro _ rfl
       refine nB (nT ?_)
       refine zA ?_
       exact nT ⟨_,(soI b).symm,rfl,zc⟩
    ·replace b:=cF C b
     refine zU ?_
     refine AWp.exit (xT (xT ?_))
     refine exL b fun hx => ?_
     subst hx
     exact oxI ⟨rfl,_,_,_,L,zv⟩
  ·rintro _ ⟨M,N,O,L,rfl⟩
   have h:=(m0 _ L)
   refine xB ?_
   cases soI h
   exact zq

theorem Z93Rw {A:Ar} (hA:SA A) : ∀ (n:Nat) {i:List D} {j:Bool} {a b:List D} {k:Bool} {l:Int} {m:List D} {c:Bool} {e:Int} {g:List D},Z93R A n i j a b k l m=some (c,e,g)->ACall Tryz.prog 93 [.ptr 0 0,zl 1 i,.d (.bool j)] [(.cells [zl 4 a,zl 6 b,.d (.bool k),zi l,zl 1 m])] (.tuple []) [(.cells [zl 4 a,zl 6 b,.d (.bool c),zi e,zl 1 g])]
 | 0,_,_,_,_,_,_,_,_,_,_,h=>by cases h
 | n+1,_,_,_,_,_,_,_,_,_,_,h=>Z93Bw hA (fun h=>Z93Rw hA n h) h

theorem Z93w {A:Ar} (hA:SA A) {i:List D} {j:Bool} {a b:List D} {k:Bool} {l:Int} {m:List D} {c:Bool} {e:Int} {g:List D} (h:Z93 A i j a b k l m=some (c,e,g)):ACall Tryz.prog 93 [.ptr 0 0,zl 1 i,.d (.bool j)] [(.cells [zl 4 a,zl 6 b,.d (.bool k),zi l,zl 1 m])] (.tuple []) [(.cells [zl 4 a,zl 6 b,.d (.bool c),zi e,zl 1 g])]:=Z93Rw hA fuel h

theorem Z50w {A:Ar} (hA:SA A) {g i c:List D} {e:Int} (h:Z50 A g i=some (c,e)):ACall Tryz.prog 50 [zl 4 g,zl 6 i] [] (.tuple [zl 1 c,zi e]) []:=by
 unfold Z50 at h
 refine zI Tryz.func50 ?_
 refine zs ?_
 refine zA ?_
 refine nT (zs (zn ?_))
 obtain ⟨l,j,h⟩:=bindS h
 refine zC (Z92w hA j) ?_
 refine zE ?_
 refine nT (zs (zs ?_))
 refine zA ?_
 refine nT ?_
 rcases tf (A.zeq l 0) with b | b
 ·replace h:=cT b h
  refine zU ?_
  refine zk (nT (zs ?_))
  refine zB ?_ { esc:=[17] }
  refine nT (zs (zn ?_))
  obtain ⟨⟨n,m,o⟩,k,h⟩:=bindS h
  refine zD (Z93w hA k) ?_
  refine zF ?_
  refine nT (zs (zs ?_))
  refine zB ?_
  refine nT ?_
  rcases tf (A.zeq m 0) with a | a
  ·replace h:=cT a h
   refine zT ?_
   refine zs ?_
   refine zB ?_
   refine nT (zr (rT ?_))
   cases soI h
   exact zq
  ·replace h:=cF a h
   refine zU ?_
   refine zk (nT (zs ?_))
   refine zB ?_
   refine nT (zr ?_)
   cases soI h
   exact zq
 ·replace h:=cF b h
  refine zT ?_
  refine zs ?_
  refine zB ?_
  refine nT (zr (rT ?_))
  cases soI h
  exact zq
end Go.Am
