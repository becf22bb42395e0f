/- Own text: Genw3. -/
import Derived.Test.YtkjeamngjnfpkaaGreatGenw2
set_option maxRecDepth 100000
set_option maxHeartbeats 2000000
set_option linter.unusedVariables false
set_option linter.unusedSimpArgs false
namespace Go.Am
open Go Go.Proofs
theorem Z67w {A:Ar} (hA:SA A) {e g:List D} {c:Int} (h:Z67 A e g=some c):ACall Tryz.prog 67 [zl 1 e,zl 1 g] [] (zi c) []:=by
 unfold Z67 at h
 refine zI Tryz.func67 ?_
 refine zs ?_
 refine zA ?_
 refine nT (zs (zs (zn ?_)))
 obtain ⟨k,i,h⟩:=bindS h
 refine zC (Z30w hA i) ?_
 refine zE ?_
 refine nT ?_
 rcases tf k with a | a
 ·replace h:=cT a h
  refine zU ?_
  refine zk (nT (zs (zs (zn ?_))))
  obtain ⟨l,j,h⟩:=bindS h
  refine zD (Z32w hA j) ?_
  refine zF ?_
  refine nT ?_
  rcases tf l with b | b
  ·replace h:=cT b h
   refine zU ?_
   refine zk (nT (zs ?_))
   refine zB ?_
   refine nT (zr ?_)
   cases soI h
   exact zq
  ·replace h:=cF b h
   refine zT ?_
   refine zs ?_
   refine zB ?_
   refine nT (zr (rT ?_))
   cases soI h
   exact zq
 ·replace h:=cF a h
  refine zT ?_
  refine zs ?_
  refine zB ?_
  refine nT (zr (rT ?_))
  cases soI h
  exact zq

theorem Z60w {A:Ar} (hA:SA A) {k l:Int} {m o e g:List D} {j:Int} (h:Z60 A k l m o e g=some j):ACall Tryz.prog 60 [.d (.agg [.int .i64 k,.int .i64 l,.list 1 m,.list 1 o]),zl 1 e,zl 1 g] [] (zi j) []:=by
 unfold Z60 at h
 refine zI Tryz.func60 ?_
 refine zs ?_
 refine zA ?_
 refine nT (zs (zs ?_))
 obtain ⟨i,a,h⟩:=bindS h
 refine AWp.cutN [1,2,14] [] 0 (lb rfl) (fun τ=>τ={ env:=[(1,zl 1 e),(2,zl 1 g),(14,.d (.bool i))],heap:=[],n:=18 }) ?_ ?_
 ·skip
  refine zn ?_
  obtain ⟨s,r,a⟩:=bindS a
  refine zC (Z30w hA r) ?_
  rcases tf s with c | c
  ·replace a:=cT c a
   obtain ⟨u,p,a⟩:=bindS a
   refine zD (Z100w hA p) ?_
   refine zF ?_
   cases soI a
   exact zO
  ·replace a:=cF c a
   refine zF ?_
   cases soI a
   exact zO
 ·rintro _ rfl
  refine nT ?_
  rcases tf i with b | b
  ·replace h:=cT b h
   refine zT ?_
   refine zs ?_
   refine zB ?_
   refine nT (zr (rT ?_))
   cases soI h
   exact zq
  ·replace h:=cF b h
   refine zU ?_
   refine zk (nT (zs (zn ?_)))
   obtain ⟨v,q,h⟩:=bindS h
   refine zD (Z67w hA q) ?_ { tk:=[17] }
   refine zF ?_ { tk:=[17] }
   refine nT (zr ?_)
   cases soI h
   exact zq

theorem Z101w {A:Ar} (hA:SA A) {g i j a b c e:List D} (h:Z101 A g i j=some (a,b,c,e)):ACall Tryz.prog 101 [zl 1 g,zl 1 i,zl 1 j] [] (.ptr 0 0) [.cells [zl 1 a,zl 1 b,zl 1 c,.gref 1 8,zi 0,zi 0,zi 0,zi 0,.gref 4 6,.gref 7 1],.gro 8 e,.dead,.dead,.gro 6 [],.dead,.dead,.gro 1 [],.dead,.dead]:=by
 unfold Z101 at h
 refine zI Tryz.func101 ?_
 refine zs ?_
 refine zA ?_
 refine nT (zs ?_)
 obtain ⟨_,k,h⟩:=bindS h
 have n:=ckI k
 obtain ⟨_,l,h⟩:=bindS h
 have o:=ckI l
 obtain ⟨_,m,h⟩:=bindS h
 have p:=ckI m
 refine zB ?_ { tk:=[14],esc:=[14],gr:=[12],nl:=[13] }
 refine nT ?_
 refine AWp.weak (Wk.settle 3 8 rfl rfl rfl) ?_
 refine AWp.weak (Wk.settle 3 9 rfl rfl rfl) ?_
 refine AWp.weak (Wk.ren [some 3,some 0,some 1,some 2,some 4,some 5,some 6,some 7,some 8,some 9] [6] rfl rfl) ?_
 refine zr ?_
 cases soI h
 exact zq

theorem Z53w {A:Ar} (hA:SA A) {g c:List D} {m:Bool} (h:Z53 A g c=some m):ACall Tryz.prog 53 [zl 1 g,zl 1 c] [] (.d (.bool m)) []:=by
 unfold Z53 at h
 refine zI Tryz.func53 ?_
 refine zs ?_
 refine zA ?_
 refine nT (zs (zs ?_))
 refine zA ?_
 refine nT (zb ?_)
 obtain ⟨J,v,q,o,e⟩:=bindK h
 refine AWp.cutX 0 [0,1] [] 0 (lb rfl) (fun τ=>q (.inl ())=some m∧τ={ env:=[(0,zl 1 g),(1,zl 1 c)],heap:=[],n:=35 }) ?_ ?_
 ·skip
  refine AWp.iter v [0,1,7,8,9] [] 0 (lb rfl) (fun i=>{ env:=[(0,zl 1 g),(1,zl 1 c),(7,zl 1 c),(8,(.d (.int .i64 (A.len c)))),(9,zi i)],heap:=[],n:=35 }) ⟨rfl,zc⟩ ?_
  rintro i z a
  dsimp only [Z53L0] at a
  refine zs ?_
  refine zA ?_
  refine nT (zs ?_)
  rcases tf (A.zlt i (A.len c)) with j | j
  ·replace a:=cT j a
   refine zT ?_
   refine zk (nT (zs (zb (zs ?_))))
   obtain ⟨w,r,a⟩:=bindS a
   obtain ⟨B,C⟩:=gtI r
   refine zB ?_
   refine nT (zs ?_)
   obtain ⟨p,b,a⟩:=bindS a
   refine AWp.cutN [0,1,7,8,9,28] [] 0 (lb rfl) (fun τ=>τ={ env:=[(0,zl 1 g),(1,zl 1 c),(7,zl 1 c),(8,(.d (.int .i64 (A.len c)))),(9,zi i),(28,.d (.bool p))],heap:=[],n:=35 }) ?_ ?_
   ·skip
    refine zn ?_
    rcases tf (A.zle (A.len g) i) with k | k
    ·replace b:=cT k b
     refine zF ?_
     cases soI b
     exact zO
    ·replace b:=cF k b
     obtain ⟨y,s,b⟩:=bindS b
     obtain ⟨E,F⟩:=gtI s
     obtain ⟨G,u,b⟩:=bindS b
     refine zD (Z82w hA u) ?_
     refine zF ?_
     cases soI b
     exact zO
   ·rintro _ rfl
    refine nT ?_
    rcases tf p with l | l
    ·replace a:=cT l a
     refine zT ?_
     refine zs ?_
     refine zB ?_
     refine nT (zr (rB (rT (rT ?_))))
     refine exL a fun hx => ?_
     subst hx
     refine oxR ?_
     replace e:=(eR (o _ e))
     refine rB (rT ?_)
     cases soI e
     exact zq
    ·replace a:=cF l a
     refine zU ?_
     refine zk (nB (nT ?_))
     refine zB ?_
     exact nT ⟨_,(soI a).symm,rfl,zv⟩
  ·replace a:=cF j a
   refine zU ?_
   refine AWp.exit (xT (xT ?_))
   refine exL a fun hx => ?_
   subst hx
   exact oxI ⟨rfl,e,zv⟩
 ·rintro _ ⟨e,rfl⟩
  have h:=(eL (o _ e))
  refine xB (nT (zs ?_))
  refine zA ?_ { tk:=[34] }
  refine nT (zr ?_)
  cases soI h
  exact zq

theorem Z94aw {A:Ar} (hA:SA A) {r G:List D} {M N O P Q R S s u v w y z B C E F J:Int} {K L:List D} {i:Int} {q:Bool} (h:Z94a A r G M N O P Q R S s u v w y z B C E F J K L i=some q):ACall Tryz.prog 94 [.d (.ref [.list 1 r,.list 1 G,.int .i64 M,.int .i64 N,.int .i64 O,.int .i64 P,.int .i64 Q,.int .i64 R,.int .i64 S,.int .i64 s,.int .i64 u,.int .i64 v,.int .i64 w,.int .i64 y,.int .i64 z,.int .i64 B,.int .i64 C,.int .i64 E,.int .i64 F,.int .i64 J,.list 6 K,.list 1 L]),zi i] [] (.d (.bool q)) []:=by
 unfold Z94a at h
 refine zI Tryz.func94 ?_
 refine zs ?_
 refine zA ?_
 refine nT (zs ?_)
 obtain ⟨i0,a,h⟩:=bindS h
 refine AWp.cutN [4] [] 0 (lb rfl) (fun τ=>τ={ env:=[(4,.d (.bool i0))],heap:=[],n:=31 }) ?_ ?_
 ·skip
  refine AWp.regionDraw rfl (lb rfl) ?_
  obtain ⟨g0,U,a⟩:=bindS a
  refine DOps.c0 hT hA { tk:=[30] } rfl zc (Z82w hA U) rfl rfl (lb rfl) rfl rfl ?_
  rcases tf g0 with b | b
  ·replace a:=cT b a
   rcases tf (A.zeq i 0) with c | c
   ·replace a:=cT c a
    obtain ⟨X,Y,j⟩:=ixF hA (n:=2) c (by decide)
    obtain ⟨j0,V,a⟩:=bindS a
    obtain ⟨a0,k⟩:=gtI V
    have l:=k
    rw [j] at l
    refine DOps.cd hT hA { tk:=[30] } rfl (by (repeat (cbv;simp only [b,X,Y,j,l,a0,k]));try cbv) (by kernel_rfl) ?_
    cases soI a
    exact (zO (g:=(by first | (cbv;done) | ((repeat (cbv;simp only [b]));try cbv))))
   ·replace a:=cF c a
    rcases tf (A.zeq i 1) with e | e
    ·replace a:=cT e a
     obtain ⟨b0,d0,m⟩:=ixF hA (n:=2) e (by decide)
     obtain ⟨k0,W,a⟩:=bindS a
     obtain ⟨e0,o⟩:=gtI W
     have p:=o
     rw [m] at p
     refine DOps.cd hT hA { tk:=[30] } rfl (by (repeat (cbv;simp only [b,b0,d0,m,p,e0,o]));try cbv) (by kernel_rfl) ?_
     cases soI a
     exact (zO (g:=(by first | (cbv;done) | ((repeat (cbv;simp only [b]));try cbv))))
    ·replace a:=cF e a
     cases a
  ·replace a:=cF b a
   refine DOps.cd hT hA { tk:=[30] } rfl (by (repeat (cbv;simp only [b]));try cbv) (by kernel_rfl) ?_
   cases soI a
   exact (zO (g:=(by first | (cbv;done) | ((repeat (cbv;simp only [b]));try cbv))))
 ·rintro _ rfl
  refine nT (zr ?_)
  cases soI h
  exact zq

theorem Z55w {A:Ar} (hA:SA A) {g c:List D} {y z B C E F G i j k l m o p q r s u:Int} {v w N:List D} (h:Z55 A g c y z B C E F G i j k l m o p q r s u v w=some N):ACall Tryz.prog 55 [.d (.ref [.list 1 g,.list 1 c,.int .i64 y,.int .i64 z,.int .i64 B,.int .i64 C,.int .i64 E,.int .i64 F,.int .i64 G,.int .i64 i,.int .i64 j,.int .i64 k,.int .i64 l,.int .i64 m,.int .i64 o,.int .i64 p,.int .i64 q,.int .i64 r,.int .i64 s,.int .i64 u,.list 6 v,.list 1 w])] [] (.own 1 N) []:=by
 unfold Z55 at h
 refine zI Tryz.func55 ?_
 refine zs ?_
 refine zA ?_
 refine nT (zs ?_)
 refine zA ?_
 refine nT (zs (zs ?_))
 refine zA ?_
 refine nT (zb ?_)
 obtain ⟨c0,U,P,S,L⟩:=bindK h
 refine AWp.cutX 0 [3] [] 0 (lb rfl) (fun τ => ∃ M,P M=some N∧τ={ env:=[(3,(.own 1 M))],heap:=[],n:=22 }) ?_ ?_
 ·skip
  refine AWp.iter U [0,3,9,10] [] 0 (lb rfl) (fun (O,e)=>{ env:=[(0,.d (.ref [.list 1 g,.list 1 c,.int .i64 y,.int .i64 z,.int .i64 B,.int .i64 C,.int .i64 E,.int .i64 F,.int .i64 G,.int .i64 i,.int .i64 j,.int .i64 k,.int .i64 l,.int .i64 m,.int .i64 o,.int .i64 p,.int .i64 q,.int .i64 r,.int .i64 s,.int .i64 u,.list 6 v,.list 1 w])),(3,(.own 1 O)),(9,(.d (.int .i64 (A.len c)))),(10,zi e)],heap:=[],n:=22 }) ⟨rfl,zc⟩ ?_
  rintro ⟨O,e⟩ X a
  dsimp only [Z55L0] at a
  refine zs ?_
  refine zA ?_
  refine nT (zs ?_)
  rcases tf (A.zlt e (A.len c)) with J | J
  ·replace a:=cT J a
   refine zT ?_
   refine zk (nT (zs (zb (zs ?_))))
   refine zB ?_
   refine nT (zs (zn ?_))
   obtain ⟨V,Q,a⟩:=bindS a
   refine zD (Z94aw hA Q) ?_
   refine zF ?_
   refine nT ?_
   obtain ⟨W,b,a⟩:=bindS a
   refine AWp.cutN [0,3,9,10] [] 0 (lb rfl) (fun τ=>τ={ env:=[(0,.d (.ref [.list 1 g,.list 1 c,.int .i64 y,.int .i64 z,.int .i64 B,.int .i64 C,.int .i64 E,.int .i64 F,.int .i64 G,.int .i64 i,.int .i64 j,.int .i64 k,.int .i64 l,.int .i64 m,.int .i64 o,.int .i64 p,.int .i64 q,.int .i64 r,.int .i64 s,.int .i64 u,.list 6 v,.list 1 w])),(3,(.own 1 W)),(9,(.d (.int .i64 (A.len c)))),(10,zi e)],heap:=[],n:=22 }) ?_ ?_
   ·skip
    rcases tf V with K | K
    ·replace b:=cT K b
     refine zT ?_
     obtain ⟨b0,R,b⟩:=bindS b
     obtain ⟨Y,a0⟩:=apI R
     refine zB ?_ { tk:=[3,19] }
     cases soI b
     exact zO
    ·replace b:=cF K b
     refine zU ?_
     refine zk ?_
     cases soI b
     exact zO
   ·rintro _ rfl
    refine nB (nT ?_)
    refine zA ?_
    exact nT ⟨_,(soI a).symm,rfl,zc⟩
  ·replace a:=cF J a
   refine zU ?_
   refine AWp.exit (xT (xT ?_))
   refine exL a fun hx => ?_
   subst hx
   exact oxI ⟨rfl,_,L,zv⟩
 ·rintro _ ⟨M,L,rfl⟩
  have h:=(S _ L)
  refine xB (nT (zs ?_))
  refine zA ?_ { tk:=[3,21] }
  refine nT (zr ?_)
  cases soI h
  exact zq

theorem Z141w {A:Ar} (hA:SA A) {c:List D} {e j:Int} (h:Z141 A c e=some j):ACall Tryz.prog 141 [zl 1 c,zi e] [] (zi j) []:=by
 unfold Z141 at h
 refine zI Tryz.func141 ?_
 refine zs ?_
 refine zA ?_
 refine nT (zs (zs ?_))
 refine zA ?_
 refine nT (zb ?_)
 obtain ⟨v,q,m,l,b⟩:=bindK h
 refine AWp.cutX 0 [] [] 0 (lb rfl) (fun τ=>m (.inl ())=some j∧τ={ env:=[],heap:=[],n:=19 }) ?_ ?_
 ·skip
  refine AWp.iter q [0,1,7,8] [] 0 (lb rfl) (fun k=>{ env:=[(0,zl 1 c),(1,zi e),(7,(.d (.int .i64 (A.len c)))),(8,zi k)],heap:=[],n:=19 }) ⟨rfl,zc⟩ ?_
  rintro k r a
  dsimp only [Z141L0] at a
  refine zs ?_
  refine zA ?_
  refine nT (zs ?_)
  rcases tf (A.zlt k (A.len c)) with g | g
  ·replace a:=cT g a
   refine zT ?_
   refine zk (nT (zs (zb (zs ?_))))
   refine zB ?_ { tk:=[8,10] }
   refine nT (zs ?_)
   obtain ⟨o,p,a⟩:=bindS a
   obtain ⟨s,u⟩:=gtI p
   refine zB ?_
   refine nT ?_
   rcases tf (A.zeq e o) with i | i
   ·replace a:=cT i a
    refine zT ?_
    refine zs ?_
    refine zB ?_ { tk:=[5,17] }
    refine nT (zr (rB (rT (rT ?_))))
    refine exL a fun hx => ?_
    subst hx
    refine oxR ?_
    replace b:=(eR (l _ b))
    refine rB (rT ?_)
    cases soI b
    exact zq
   ·replace a:=cF i a
    refine zU ?_
    refine zk (nB (nT ?_))
    refine zB ?_ { tk:=[18] }
    exact nT ⟨_,(soI a).symm,rfl,zv⟩
  ·replace a:=cF g a
   refine zU ?_
   refine AWp.exit (xT (xT ?_))
   refine exL a fun hx => ?_
   subst hx
   exact oxI ⟨rfl,b,zv⟩
 ·rintro _ ⟨b,rfl⟩
  have h:=(eL (l _ b))
  refine xB (nT (zs ?_))
  refine zA ?_
  refine nT (zr ?_)
  cases soI h
  exact zq

theorem Z95w {A:Ar} (hA:SA A) {b:List D} {c:Int} {a:Bool} (h:Z95 A b c=some a):ACall Tryz.prog 95 [zl 1 b,zi c] [] (.d (.bool a)) []:=by
 unfold Z95 at h
 refine zI Tryz.func95 ?_
 refine zs ?_
 refine zA ?_
 refine nT (zs (zn ?_))
 obtain ⟨g,e,h⟩:=bindS h
 refine zC (Z141w hA e) ?_ { tk:=[8] }
 refine zE ?_ { tk:=[8] }
 refine nT (zr ?_)
 cases soI h
 exact zq

theorem Z97w {A:Ar} (hA:SA A) {b p:Int} {w y:List D} {z B C E F c e g i j k l m n o q r s:Int} {u v:List D} {a:Int} (h:Z97 A b p w y z B C E F c e g i j k l m n o q r s u v=some a):ACall Tryz.prog 97 [zi b,zi p,(.iptr [(.ref [.list 1 w,.list 1 y,.int .i64 z,.int .i64 B,.int .i64 C,.int .i64 E,.int .i64 F,.int .i64 c,.int .i64 e,.int .i64 g,.int .i64 i,.int .i64 j,.int .i64 k,.int .i64 l,.int .i64 m,.int .i64 n,.int .i64 o,.int .i64 q,.int .i64 r,.int .i64 s,.list 6 u,.list 1 v])])] [] (zi a) []:=by
 unfold Z97 at h
 refine zI Tryz.func97 ?_
 refine zs ?_
 refine zA ?_
 refine nT (zs ?_)
 obtain ⟨K,G,h⟩:=bindS h
 obtain ⟨M,N⟩:=gtI G
 obtain ⟨L,J,h⟩:=bindS h
 obtain ⟨O,P⟩:=gtI J
 refine AWp.rd hT hA { tk:=[20] } rfl zu (by kernel_rfl) (lb rfl) ?_
 refine nT (zr ?_)
 cases soI h
 exact zq

theorem Z96w {A:Ar} (hA:SA A) {G J:Int} {w y:List D} {z B C E F a b d e j k l m n o p q s:Int} {u v K r:List D} (h:Z96 A G J w y z B C E F a b d e j k l m n o p q s u v K=some r):ACall Tryz.prog 96 [.mref 0 1 G J,(.func 97 [] [(.iptr [(.ref [.list 1 w,.list 1 y,.int .i64 z,.int .i64 B,.int .i64 C,.int .i64 E,.int .i64 F,.int .i64 a,.int .i64 b,.int .i64 d,.int .i64 e,.int .i64 j,.int .i64 k,.int .i64 l,.int .i64 m,.int .i64 n,.int .i64 o,.int .i64 p,.int .i64 q,.int .i64 s,.list 6 u,.list 1 v])])])] [(.arr 1 K)] (.tuple []) [(.arr 1 r)] :=
 ACall.sortOne Tryz.sort96 rfl (c:=(cI .i64)) (fun _=>rfl) (g:=97) (caps:=[(.iptr [(.ref [.list 1 w,.list 1 y,.int .i64 z,.int .i64 B,.int .i64 C,.int .i64 E,.int .i64 F,.int .i64 a,.int .i64 b,.int .i64 d,.int .i64 e,.int .i64 j,.int .i64 k,.int .i64 l,.int .i64 m,.int .i64 n,.int .i64 o,.int .i64 p,.int .i64 q,.int .i64 s,.list 6 u,.list 1 v])])]) rfl (fun _ _ _ h=>Z97w hA h) rfl rfl h (i:=0) rfl rfl

theorem Z96aw {A:Ar} (hA:SA A) {a o u:List D} {v w y z B C b c e g i j k l m n p q:Int} {r s:List D} (h:Z96a A a o u v w y z B C b c e g i j k l m n p q r s=some ()):ACall Tryz.prog 96 [zl 1 a,(.func 97 [] [(.iptr [(.ref [.list 1 o,.list 1 u,.int .i64 v,.int .i64 w,.int .i64 y,.int .i64 z,.int .i64 B,.int .i64 C,.int .i64 b,.int .i64 c,.int .i64 e,.int .i64 g,.int .i64 i,.int .i64 j,.int .i64 k,.int .i64 l,.int .i64 m,.int .i64 n,.int .i64 p,.int .i64 q,.list 6 r,.list 1 s])])])] [] (.tuple []) []:=ACall.sortNone1 Tryz.sort96 rfl (lenZ hA (ckI h)) rfl

theorem Z56w {A:Ar} (hA:SA A) {e v:List D} {z B C E F G J g j k l m o p q r u w:Int} {c y R:List D} {S:Bool} (h:Z56 A e v z B C E F G J g j k l m o p q r u w c y=some (R,S)):ACall Tryz.prog 56 [.d (.ref [.list 1 e,.list 1 v,.int .i64 z,.int .i64 B,.int .i64 C,.int .i64 E,.int .i64 F,.int .i64 G,.int .i64 J,.int .i64 g,.int .i64 j,.int .i64 k,.int .i64 l,.int .i64 m,.int .i64 o,.int .i64 p,.int .i64 q,.int .i64 r,.int .i64 u,.int .i64 w,.list 6 c,.list 1 y])] [] (.tuple [zl 1 R,.d (.bool S)]) []:=by
 unfold Z56 at h
 refine zI Tryz.func56 ?_
 refine zs ?_
 refine zA ?_
 refine nT ?_
 refine AWp.freezeBox 1 [(.ref [.list 1 e,.list 1 v,.int .i64 z,.int .i64 B,.int .i64 C,.int .i64 E,.int .i64 F,.int .i64 G,.int .i64 J,.int .i64 g,.int .i64 j,.int .i64 k,.int .i64 l,.int .i64 m,.int .i64 o,.int .i64 p,.int .i64 q,.int .i64 r,.int .i64 u,.int .i64 w,.list 6 c,.list 1 y])] rfl rfl ?_
 refine zs (zs ?_)
 obtain ⟨U,a,h⟩:=bindS h
 refine AWp.cutN [1,16] [] 0 (lb rfl) (fun τ=>τ={ env:=[(1,(.iptr [(.ref [.list 1 e,.list 1 v,.int .i64 z,.int .i64 B,.int .i64 C,.int .i64 E,.int .i64 F,.int .i64 G,.int .i64 J,.int .i64 g,.int .i64 j,.int .i64 k,.int .i64 l,.int .i64 m,.int .i64 o,.int .i64 p,.int .i64 q,.int .i64 r,.int .i64 u,.int .i64 w,.list 6 c,.list 1 y])])),(16,.d (.bool U))],heap:=[],n:=40 }) ?_ ?_
 ·skip
  refine zn ?_
  obtain ⟨n0,X,a⟩:=bindS a
  refine zC (Z55w hA X) ?_
  rcases tf (A.zlt 0 (A.len n0)) with M | M
  ·replace a:=cT M a
   refine zF ?_
   cases soI a
   exact zO
  ·replace a:=cF M a
   obtain ⟨y0,Y,a⟩:=bindS a
   refine zD (Z95w hA Y) ?_
   refine zF ?_
   cases soI a
   exact zO
 ·rintro _ rfl
  refine nT ?_
  rcases tf U with N | N
  ·replace h:=cT N h
   refine zT ?_
   refine zs ?_
   refine zB ?_
   refine nT (zr (rT ?_))
   cases soI h
   exact zq
  ·replace h:=cF N h
   refine zU ?_
   refine zk (nT (zs ?_))
   obtain ⟨_,a0,h⟩:=bindS h
   have p0:=ckI a0
   obtain ⟨_,b0,h⟩:=bindS h
   have q0:=ckI b0
   obtain ⟨_,c0,h⟩:=bindS h
   have r0:=ckI c0
   refine zB ?_ { tk:=[22],gr:=[22],th:=[22] }
   refine nT (zs (zs ?_))
   refine zB ?_
   refine nT (zb ?_)
   obtain ⟨a1,m0,W,l0,P⟩:=bindK h
   refine AWp.cutXW 0 (fun τ => ∃ L,W L=some (R,S)∧τ={ env:=[(1,(.iptr [(.ref [.list 1 e,.list 1 v,.int .i64 z,.int .i64 B,.int .i64 C,.int .i64 E,.int .i64 F,.int .i64 G,.int .i64 J,.int .i64 g,.int .i64 j,.int .i64 k,.int .i64 l,.int .i64 m,.int .i64 o,.int .i64 p,.int .i64 q,.int .i64 r,.int .i64 u,.int .i64 w,.list 6 c,.list 1 y])])),(4,.gref 0 1)],heap:=[.gro 1 L,.dead,.dead],n:=40 }) ?_ ?_
   ·skip
    refine AWp.iterW m0 (fun (Q,V)=>{ env:=[(1,(.iptr [(.ref [.list 1 e,.list 1 v,.int .i64 z,.int .i64 B,.int .i64 C,.int .i64 E,.int .i64 F,.int .i64 G,.int .i64 J,.int .i64 g,.int .i64 j,.int .i64 k,.int .i64 l,.int .i64 m,.int .i64 o,.int .i64 p,.int .i64 q,.int .i64 r,.int .i64 u,.int .i64 w,.list 6 c,.list 1 y])])),(4,.gref 0 1),(27,(.d (.int .i64 (A.len c)))),(28,zi Q)],heap:=[.gro 1 V,.dead,.dead],n:=40 }) ⟨_,zR [some 0,some 1,some 2] [1,4,27,28],rfl⟩ ?_
    rintro ⟨Q,V⟩ o0 b
    dsimp only [Z56L0] at b
    refine zs ?_
    refine zA ?_
    refine nT (zs ?_)
    rcases tf (A.zlt Q (A.len c)) with O | O
    ·replace b:=cT O b
     refine zT ?_
     refine zk (nT (zs (zb (zs ?_))))
     refine zB ?_
     refine nT ?_
     obtain ⟨v0,d0,b⟩:=bindS b
     obtain ⟨s0,u0⟩:=apI d0
     refine zB ?_ { tk:=[4,34],gr:=[34] }
     refine nB (nT ?_)
     refine zB ?_
     exact nT ⟨_,(soI b).symm,_,zR [some 3,some 4,some 5] [1,4,27,28],rfl⟩
    ·replace b:=cF O b
     refine zU ?_
     refine AWp.exit (xT (xT ?_))
     refine exL b fun hx => ?_
     subst hx
     exact oxWI ⟨_,zR [some 0,some 1,some 2] [1,4],_,P,rfl⟩
   ·rintro _ ⟨L,P,rfl⟩
    have h:=(l0 _ P)
    refine xB (nT (zs ?_))
    rcases tf (A.zlt 0 (A.len L)) with K | K
    ·replace h:=cT K h
     refine AWp.weak (Wk.groArr 4 rfl rfl (neL hA K) (lenL hA)) ?_
     refine zn ?_
     obtain ⟨z0,e0,h⟩:=bindS h
     refine zD (Z96w hA e0) ?_
     refine zF ?_
     refine nT (zs ?_)
     refine zB ?_
     refine nT ?_
     obtain ⟨w0,i0,h⟩:=bindS h
     obtain ⟨j0,k0⟩:=fzI hA i0
     refine AWp.freeze (s:=2) (i:=0) rfl rfl j0 k0 ?_
     refine zr ?_
     cases soI h
     exact zq
    ·replace h:=cF K h
     refine AWp.weak (Wk.freezeS 4 rfl rfl) ?_
     refine zn ?_
     obtain ⟨_,g0,h⟩:=bindS h
     refine zD (Z96aw hA g0) ?_
     refine zF ?_
     refine nT (zs ?_)
     refine zB ?_
     refine nT (zr ?_)
     cases soI h
     exact zq

theorem Z64w {A:Ar} (hA:SA A) {c e:List D} {l:Bool} (h:Z64 A c e=some l):ACall Tryz.prog 64 [zl 1 c,zl 1 e] [] (.d (.bool l)) []:=by
 unfold Z64 at h
 refine zI Tryz.func64 ?_
 refine zs ?_
 refine zA ?_
 refine nT (zs (zs ?_))
 refine zA ?_
 refine nT ?_
 rcases tf (A.zeq (A.len e) (A.len c)) with j | j
 ·replace h:=cT j h
  refine zU ?_
  refine zk (nT (zs (zs ?_)))
  refine zB ?_
  refine nT (zb ?_)
  obtain ⟨F,s,o,m,b⟩:=bindK h
  refine AWp.cutX 0 [] [] 0 (lb rfl) (fun τ=>o (.inl ())=some l∧τ={ env:=[],heap:=[],n:=29 }) ?_ ?_
  ·skip
   refine AWp.iter s [0,1,5] [] 0 (lb rfl) (fun k=>{ env:=[(0,zl 1 c),(1,zl 1 e),(5,zi k)],heap:=[],n:=29 }) ⟨rfl,zv⟩ ?_
   rintro k y a
   dsimp only [Z64L0] at a
   refine zs (zs ?_)
   refine zA ?_
   refine nT ?_
   rcases tf (A.zlt k (A.len c)) with g | g
   ·replace a:=cT g a
    refine zT ?_
    refine zk (nT (zs (zb (zs ?_))))
    refine AWp.regionDraw rfl (lb rfl) ?_
    obtain ⟨v,p,a⟩:=bindS a
    obtain ⟨z,B⟩:=gtI p
    obtain ⟨w,q,a⟩:=bindS a
    obtain ⟨C,E⟩:=gtI q
    obtain ⟨u,r,a⟩:=bindS a
    refine DOps.c0 hT hA {} rfl zu (Z77w hA r) rfl rfl (lb rfl) rfl rfl ?_
    refine DOps.cd hT hA {} rfl zu (by kernel_rfl) ?_
    refine nT ?_
    rcases tf u with i | i
    ·replace a:=cT i a
     refine zU ?_
     refine zk (nB (nT ?_))
     refine zB ?_
     exact nT ⟨_,(soI a).symm,rfl,zv⟩
    ·replace a:=cF i a
     refine zT ?_
     refine zs ?_
     refine zB ?_
     refine nT (zr (rB (rT (rT ?_))))
     refine exL a fun hx => ?_
     subst hx
     refine oxR ?_
     replace b:=(eR (m _ b))
     refine rB (rT ?_)
     cases soI b
     exact zq
   ·replace a:=cF g a
    refine zU ?_
    refine AWp.exit (xT (xT ?_))
    refine exL a fun hx => ?_
    subst hx
    exact oxI ⟨rfl,b,zv⟩
  ·rintro _ ⟨b,rfl⟩
   have h:=(eL (m _ b))
   refine xB (nT (zs ?_))
   refine zA ?_
   refine nT (zr ?_)
   cases soI h
   exact zq
 ·replace h:=cF j h
  refine zT ?_
  refine zs ?_
  refine zB ?_
  refine nT (zr (rT ?_))
  cases soI h
  exact zq

theorem Z94bw {A:Ar} (hA:SA A) {i:Int} {v C:List D} {E F G J K L j k l m o p q r s u w y:Int} {z B:List D} {S:Bool} (h:Z94b A i v C E F G J K L j k l m o p q r s u w y z B=some S):ACall Tryz.prog 94 [.ptr 0 0,zi i] [.cells [zl 1 v,zl 1 C,zi E,zi F,zi G,zi J,zi K,zi L,zi j,zi k,zi l,zi m,zi o,zi p,zi q,zi r,zi s,zi u,zi w,zi y,zl 6 z,zl 1 B]] (.d (.bool S)) [.cells [zl 1 v,zl 1 C,zi E,zi F,zi G,zi J,zi K,zi L,zi j,zi k,zi l,zi m,zi o,zi p,zi q,zi r,zi s,zi u,zi w,zi y,zl 6 z,zl 1 B]]:=by
 unfold Z94b at h
 refine zI Tryz.func94 ?_
 refine zs ?_
 refine zA ?_
 refine nT (zs ?_)
 obtain ⟨i0,a,h⟩:=bindS h
 refine AWp.cutN [4] [] 1 (lb rfl) (fun τ=>τ={ env:=[(4,.d (.bool i0))],heap:=[.cells [zl 1 v,zl 1 C,zi E,zi F,zi G,zi J,zi K,zi L,zi j,zi k,zi l,zi m,zi o,zi p,zi q,zi r,zi s,zi u,zi w,zi y,zl 6 z,zl 1 B]],n:=31 }) ?_ ?_
 ·skip
  refine AWp.regionDraw rfl (lb rfl) ?_
  obtain ⟨g0,U,a⟩:=bindS a
  refine DOps.c0 hT hA { tk:=[30] } rfl zc (Z82w hA U) rfl rfl (lb rfl) rfl rfl ?_
  rcases tf g0 with b | b
  ·replace a:=cT b a
   rcases tf (A.zeq i 0) with c | c
   ·replace a:=cT c a
    obtain ⟨X,Y,M⟩:=ixF hA (n:=2) c (by decide)
    obtain ⟨j0,V,a⟩:=bindS a
    obtain ⟨a0,N⟩:=gtI V
    have O:=N
    rw [M] at O
    refine DOps.cd hT hA { tk:=[30] } rfl (by (repeat (cbv;simp only [b,X,Y,M,O,a0,N]));try cbv) (by kernel_rfl) ?_
    cases soI a
    exact (zO (g:=(by first | (cbv;done) | ((repeat (cbv;simp only [b]));try cbv))))
   ·replace a:=cF c a
    rcases tf (A.zeq i 1) with e | e
    ·replace a:=cT e a
     obtain ⟨b0,d0,P⟩:=ixF hA (n:=2) e (by decide)
     obtain ⟨k0,W,a⟩:=bindS a
     obtain ⟨e0,Q⟩:=gtI W
     have R:=Q
     rw [P] at R
     refine DOps.cd hT hA { tk:=[30] } rfl (by (repeat (cbv;simp only [b,b0,d0,P,R,e0,Q]));try cbv) (by kernel_rfl) ?_
     cases soI a
     exact (zO (g:=(by first | (cbv;done) | ((repeat (cbv;simp only [b]));try cbv))))
    ·replace a:=cF e a
     cases a
  ·replace a:=cF b a
   refine DOps.cd hT hA { tk:=[30] } rfl (by (repeat (cbv;simp only [b]));try cbv) (by kernel_rfl) ?_
   cases soI a
   exact (zO (g:=(by first | (cbv;done) | ((repeat (cbv;simp only [b]));try cbv))))
 ·rintro _ rfl
  refine nT (zr ?_)
  cases soI h
  exact zq

theorem Z55aw {A:Ar} (hA:SA A) {e b:List D} {w y z B C E F g i j k l m o p q r s:Int} {u v N:List D} (h:Z55a A e b w y z B C E F g i j k l m o p q r s u v=some N):ACall Tryz.prog 55 [.ptr 0 0] [.cells [zl 1 e,zl 1 b,zi w,zi y,zi z,zi B,zi C,zi E,zi F,zi g,zi i,zi j,zi k,zi l,zi m,zi o,zi p,zi q,zi r,zi s,zl 6 u,zl 1 v]] (.own 1 N) [.cells [zl 1 e,zl 1 b,zi w,zi y,zi z,zi B,zi C,zi E,zi F,zi g,zi i,zi j,zi k,zi l,zi m,zi o,zi p,zi q,zi r,zi s,zl 6 u,zl 1 v]]:=by
 unfold Z55a at h
 refine zI Tryz.func55 ?_
 refine zs ?_
 refine zA ?_
 refine nT (zs ?_)
 refine zA ?_
 refine nT (zs (zs ?_))
 refine zA ?_
 refine nT (zb ?_)
 obtain ⟨c0,U,P,S,L⟩:=bindK h
 refine AWp.cutX 0 [3] [] 1 (lb rfl) (fun τ => ∃ M,P M=some N∧τ={ env:=[(3,(.own 1 M))],heap:=[.cells [zl 1 e,zl 1 b,zi w,zi y,zi z,zi B,zi C,zi E,zi F,zi g,zi i,zi j,zi k,zi l,zi m,zi o,zi p,zi q,zi r,zi s,zl 6 u,zl 1 v]],n:=22 }) ?_ ?_
 ·skip
  refine AWp.iter U [0,3,9,10] [] 1 (lb rfl) (fun (O,G)=>{ env:=[(0,.ptr 0 0),(3,(.own 1 O)),(9,(.d (.int .i64 (A.len b)))),(10,zi G)],heap:=[.cells [zl 1 e,zl 1 b,zi w,zi y,zi z,zi B,zi C,zi E,zi F,zi g,zi i,zi j,zi k,zi l,zi m,zi o,zi p,zi q,zi r,zi s,zl 6 u,zl 1 v]],n:=22 }) ⟨rfl,zc⟩ ?_
  rintro ⟨O,G⟩ X a
  dsimp only [Z55aL0] at a
  refine zs ?_
  refine zA ?_
  refine nT (zs ?_)
  rcases tf (A.zlt G (A.len b)) with J | J
  ·replace a:=cT J a
   refine zT ?_
   refine zk (nT (zs (zb (zs ?_))))
   refine zB ?_
   refine nT (zs (zn ?_))
   obtain ⟨V,Q,a⟩:=bindS a
   refine zD (Z94bw hA Q) ?_
   refine zF ?_
   refine nT ?_
   obtain ⟨W,c,a⟩:=bindS a
   refine AWp.cutN [0,3,9,10] [] 1 (lb rfl) (fun τ=>τ={ env:=[(0,.ptr 0 0),(3,(.own 1 W)),(9,(.d (.int .i64 (A.len b)))),(10,zi G)],heap:=[.cells [zl 1 e,zl 1 b,zi w,zi y,zi z,zi B,zi C,zi E,zi F,zi g,zi i,zi j,zi k,zi l,zi m,zi o,zi p,zi q,zi r,zi s,zl 6 u,zl 1 v]],n:=22 }) ?_ ?_
   ·skip
    rcases tf V with K | K
    ·replace c:=cT K c
     refine zT ?_
     obtain ⟨b0,R,c⟩:=bindS c
     obtain ⟨Y,a0⟩:=apI R
     refine zB ?_ { tk:=[3,19] }
     cases soI c
     exact zO
    ·replace c:=cF K c
     refine zU ?_
     refine zk ?_
     cases soI c
     exact zO
   ·rintro _ rfl
    refine nB (nT ?_)
    refine zA ?_
    exact nT ⟨_,(soI a).symm,rfl,zc⟩
  ·replace a:=cF J a
   refine zU ?_
   refine AWp.exit (xT (xT ?_))
   refine exL a fun hx => ?_
   subst hx
   exact oxI ⟨rfl,_,L,zv⟩
 ·rintro _ ⟨M,L,rfl⟩
  have h:=(S _ L)
  refine xB (nT (zs ?_))
  refine zA ?_ { tk:=[3,21] }
  refine nT (zr ?_)
  cases soI h
  exact zq

theorem Z180w {A:Ar} (hA:SA A) {b c e:Int} {g i:List D} {a:Bool} (h:Z180 A b c e g i=some a):ACall Tryz.prog 180 [zi b,.iptr [.int .i64 c,.int .i64 e,.list 1 g,.list 1 i]] [] (.d (.bool a)) []:=by
 unfold Z180 at h
 refine zI Tryz.func180 ?_
 refine zs ?_
 refine zA ?_
 refine nT (zs (zn ?_))
 obtain ⟨k,j,h⟩:=bindS h
 refine zC (Z115w hA j) ?_ { tk:=[9] }
 refine zE ?_ { tk:=[9] }
 refine nT (zr ?_)
 cases soI h
 exact zq

theorem Z189cw {A:Ar} (hA:SA A) {c:List D} {k l:Int} {m o:List D} {j:Int} (h:Z189c A c k l m o=some j):ACall Tryz.prog 189 [zl 1 c,(.func 180 [] [.iptr [.int .i64 k,.int .i64 l,.list 1 m,.list 1 o]])] [] (zi j) []:=by
 unfold Z189c at h
 refine zI Tryz.func189 ?_
 refine zs ?_
 refine zA ?_
 refine nT (zs (zs ?_))
 refine zA ?_
 refine nT (zb ?_)
 obtain ⟨C,u,q,p,b⟩:=bindK h
 refine AWp.cutX 0 [] [] 0 (lb rfl) (fun τ=>q (.inl ())=some j∧τ={ env:=[],heap:=[],n:=19 }) ?_ ?_
 ·skip
  refine AWp.iter u [0,1,7,8] [] 0 (lb rfl) (fun i=>{ env:=[(0,zl 1 c),(1,(.func 180 [] [.iptr [.int .i64 k,.int .i64 l,.list 1 m,.list 1 o]])),(7,(.d (.int .i64 (A.len c)))),(8,zi i)],heap:=[],n:=19 }) ⟨rfl,zc⟩ ?_
  rintro i y a
  dsimp only [Z189cL0] at a
  refine zs ?_
  refine zA ?_
  refine nT (zs ?_)
  rcases tf (A.zlt i (A.len c)) with e | e
  ·replace a:=cT e a
   refine zT ?_
   refine zk (nT (zs (zb (zs ?_))))
   refine zB ?_ { tk:=[8,10] }
   refine nT (zs (zn ?_))
   obtain ⟨w,r,a⟩:=bindS a
   obtain ⟨z,B⟩:=gtI r
   obtain ⟨v,s,a⟩:=bindS a
   refine zD (Z180w hA s) ?_
   refine zF ?_
   refine nT ?_
   rcases tf v with g | g
   ·replace a:=cT g a
    refine zT ?_
    refine zs ?_
    refine zB ?_ { tk:=[5,17] }
    refine nT (zr (rB (rT (rT ?_))))
    refine exL a fun hx => ?_
    subst hx
    refine oxR ?_
    replace b:=(eR (p _ b))
    refine rB (rT ?_)
    cases soI b
    exact zq
   ·replace a:=cF g a
    refine zU ?_
    refine zk (nB (nT ?_))
    refine zB ?_ { tk:=[18] }
    exact nT ⟨_,(soI a).symm,rfl,zv⟩
  ·replace a:=cF e a
   refine zU ?_
   refine AWp.exit (xT (xT ?_))
   refine exL a fun hx => ?_
   subst hx
   exact oxI ⟨rfl,b,zv⟩
 ·rintro _ ⟨b,rfl⟩
  have h:=(eL (p _ b))
  refine xB (nT (zs ?_))
  refine zA ?_
  refine nT (zr ?_)
  cases soI h
  exact zq

theorem Z158cw {A:Ar} (hA:SA A) {b:List D} {c e:Int} {g i:List D} {a:Bool} (h:Z158c A b c e g i=some a):ACall Tryz.prog 158 [zl 1 b,(.func 180 [] [.iptr [.int .i64 c,.int .i64 e,.list 1 g,.list 1 i]])] [] (.d (.bool a)) []:=by
 unfold Z158c at h
 refine zI Tryz.func158 ?_
 refine zs ?_
 refine zA ?_
 refine nT (zs (zn ?_))
 obtain ⟨k,j,h⟩:=bindS h
 refine zC (Z189cw hA j) ?_ { tk:=[8] }
 refine zE ?_ { tk:=[8] }
 refine nT (zr ?_)
 cases soI h
 exact zq

theorem Z145w {A:Ar} (hA:SA A) {a b:Int} {c e i:List D} {g:Bool} (h:Z145 A a b c e i=some g):ACall Tryz.prog 145 [.d (.agg [.int .i64 a,.int .i64 b,.list 1 c,.list 1 e]),zl 1 i] [] (.d (.bool g)) []:=by
 unfold Z145 at h
 refine zI Tryz.func145 ?_
 refine zs ?_
 refine zA ?_
 refine nT ?_
 refine AWp.freezeBox 2 [.int .i64 a,.int .i64 b,.list 1 c,.list 1 e] rfl rfl ?_
 refine zs (zn ?_)
 obtain ⟨k,j,h⟩:=bindS h
 refine zC (Z158cw hA j) ?_ { tk:=[8] }
 refine zE ?_ { tk:=[8] }
 refine nT (zr ?_)
 cases soI h
 exact zq

theorem Z197w {A:Ar} (hA:SA A) {b c e:Int} {g i:List D} {a:Bool} (h:Z197 A b c e g i=some a):ACall Tryz.prog 197 [zi b,.iptr [.int .i64 c,.int .i64 e,.list 1 g,.list 1 i]] [] (.d (.bool a)) []:=by
 unfold Z197 at h
 refine zI Tryz.func197 ?_
 refine zs ?_
 refine zA ?_
 refine nT (zs (zn ?_))
 obtain ⟨k,j,h⟩:=bindS h
 refine zC (Z115w hA j) ?_ { tk:=[9] }
 refine zE ?_ { tk:=[9] }
 refine nT (zr ?_)
 cases soI h
 exact zq

theorem Z189dw {A:Ar} (hA:SA A) {c:List D} {k l:Int} {m o:List D} {j:Int} (h:Z189d A c k l m o=some j):ACall Tryz.prog 189 [zl 1 c,(.func 197 [] [.iptr [.int .i64 k,.int .i64 l,.list 1 m,.list 1 o]])] [] (zi j) []:=by
 unfold Z189d at h
 refine zI Tryz.func189 ?_
 refine zs ?_
 refine zA ?_
 refine nT (zs (zs ?_))
 refine zA ?_
 refine nT (zb ?_)
 obtain ⟨C,u,q,p,b⟩:=bindK h
 refine AWp.cutX 0 [] [] 0 (lb rfl) (fun τ=>q (.inl ())=some j∧τ={ env:=[],heap:=[],n:=19 }) ?_ ?_
 ·skip
  refine AWp.iter u [0,1,7,8] [] 0 (lb rfl) (fun i=>{ env:=[(0,zl 1 c),(1,(.func 197 [] [.iptr [.int .i64 k,.int .i64 l,.list 1 m,.list 1 o]])),(7,(.d (.int .i64 (A.len c)))),(8,zi i)],heap:=[],n:=19 }) ⟨rfl,zc⟩ ?_
  rintro i y a
  dsimp only [Z189dL0] at a
  refine zs ?_
  refine zA ?_
  refine nT (zs ?_)
  rcases tf (A.zlt i (A.len c)) with e | e
  ·replace a:=cT e a
   refine zT ?_
   refine zk (nT (zs (zb (zs ?_))))
   refine zB ?_ { tk:=[8,10] }
   refine nT (zs (zn ?_))
   obtain ⟨w,r,a⟩:=bindS a
   obtain ⟨z,B⟩:=gtI r
   obtain ⟨v,s,a⟩:=bindS a
   refine zD (Z197w hA s) ?_
   refine zF ?_
   refine nT ?_
   rcases tf v with g | g
   ·replace a:=cT g a
    refine zT ?_
    refine zs ?_
    refine zB ?_ { tk:=[5,17] }
    refine nT (zr (rB (rT (rT ?_))))
    refine exL a fun hx => ?_
    subst hx
    refine oxR ?_
    replace b:=(eR (p _ b))
    refine rB (rT ?_)
    cases soI b
    exact zq
   ·replace a:=cF g a
    refine zU ?_
    refine zk (nB (nT ?_))
    refine zB ?_ { tk:=[18] }
    exact nT ⟨_,(soI a).symm,rfl,zv⟩
  ·replace a:=cF e a
   refine zU ?_
   refine AWp.exit (xT (xT ?_))
   refine exL a fun hx => ?_
   subst hx
   exact oxI ⟨rfl,b,zv⟩
 ·rintro _ ⟨b,rfl⟩
  have h:=(eL (p _ b))
  refine xB (nT (zs ?_))
  refine zA ?_
  refine nT (zr ?_)
  cases soI h
  exact zq

theorem Z158dw {A:Ar} (hA:SA A) {b:List D} {c e:Int} {g i:List D} {a:Bool} (h:Z158d A b c e g i=some a):ACall Tryz.prog 158 [zl 1 b,(.func 197 [] [.iptr [.int .i64 c,.int .i64 e,.list 1 g,.list 1 i]])] [] (.d (.bool a)) []:=by
 unfold Z158d at h
 refine zI Tryz.func158 ?_
 refine zs ?_
 refine zA ?_
 refine nT (zs (zn ?_))
 obtain ⟨k,j,h⟩:=bindS h
 refine zC (Z189dw hA j) ?_ { tk:=[8] }
 refine zE ?_ { tk:=[8] }
 refine nT (zr ?_)
 cases soI h
 exact zq

theorem Z181w {A:Ar} (hA:SA A) {a b:Int} {c e i:List D} {g:Bool} (h:Z181 A a b c e i=some g):ACall Tryz.prog 181 [.d (.agg [.int .i64 a,.int .i64 b,.list 1 c,.list 1 e]),zl 1 i] [] (.d (.bool g)) []:=by
 unfold Z181 at h
 refine zI Tryz.func181 ?_
 refine zs ?_
 refine zA ?_
 refine nT ?_
 refine AWp.freezeBox 2 [.int .i64 a,.int .i64 b,.list 1 c,.list 1 e] rfl rfl ?_
 refine zs (zn ?_)
 obtain ⟨k,j,h⟩:=bindS h
 refine zC (Z158dw hA j) ?_ { tk:=[8] }
 refine zE ?_ { tk:=[8] }
 refine nT (zr ?_)
 cases soI h
 exact zq

theorem Z146w {A:Ar} (hA:SA A) {g i:Int} {j k c:List D} {e:Bool} (h:Z146 A g i j k c=some e):ACall Tryz.prog 146 [.d (.agg [.int .i64 g,.int .i64 i,.list 1 j,.list 1 k]),zl 1 c] [] (.d (.bool e)) []:=by
 unfold Z146 at h
 refine zI Tryz.func146 ?_
 refine zs ?_
 refine zA ?_
 refine nT (zs ?_)
 obtain ⟨m,a,h⟩:=bindS h
 refine AWp.cutN [4] [] 0 (lb rfl) (fun τ=>τ={ env:=[(4,.d (.bool m))],heap:=[],n:=13 }) ?_ ?_
 ·skip
  refine zn ?_
  rcases tf (A.zle (A.len c) 20) with b | b
  ·replace a:=cT b a
   obtain ⟨o,l,a⟩:=bindS a
   refine zD (Z181w hA l) ?_ { tk:=[12] }
   refine zF ?_ { tk:=[12] }
   cases soI a
   exact zO
  ·replace a:=cF b a
   refine zF ?_ { tk:=[12] }
   cases soI a
   exact zO
 ·rintro _ rfl
  refine nT (zr ?_)
  cases soI h
  exact zq

theorem Z144w {A:Ar} (hA:SA A) {e g:Int} {i j:List D} {k:Int} {l:List D} {c:Bool} (h:Z144 A e g i j k l=some c):ACall Tryz.prog 144 [.d (.agg [.int .i64 e,.int .i64 g,.list 1 i,.list 1 j]),.iptr [.int .i64 k],.iptr [.list 1 l]] [] (.d (.bool c)) []:=by
 unfold Z144 at h
 refine zI Tryz.func144 ?_
 refine zs ?_
 refine zA ?_
 refine nT (zs ?_)
 obtain ⟨q,a,h⟩:=bindS h
 refine AWp.cutN [4] [] 0 (lb rfl) (fun τ=>τ={ env:=[(4,.d (.bool q))],heap:=[],n:=14 }) ?_ ?_
 ·skip
  refine zn ?_
  obtain ⟨p,o,a⟩:=bindS a
  refine zC (Z145w hA o) ?_ { tk:=[13] }
  rcases tf p with b | b
  ·replace a:=cT b a
   obtain ⟨r,m,a⟩:=bindS a
   refine zD (Z146w hA m) ?_ { tk:=[13] }
   refine zF ?_ { tk:=[13] }
   cases soI a
   exact zO
  ·replace a:=cF b a
   refine zF ?_ { tk:=[13] }
   cases soI a
   exact zO
 ·rintro _ rfl
  refine nT (zr ?_)
  cases soI h
  exact zq

theorem Z143w {A:Ar} (hA:SA A) {k l:Int} {m n:List D} {o:Int} {p:List D} {c e:Int} {g i:List D} {j:Int} (h:Z143 A k l m n o p=some (c,e,g,i,j)):ACall Tryz.prog 143 [.d (.agg [.int .i64 k,.int .i64 l,.list 1 m,.list 1 n]),(.func 144 [] [.iptr [.int .i64 o],.iptr [.list 1 p]])] [] (.tuple [.d (.agg [.int .i64 c,.int .i64 e,.list 1 g,.list 1 i]),zi j]) []:=by
 unfold Z143 at h
 refine zI Tryz.func143 ?_
 refine zs ?_
 refine zA ?_
 refine nT (zs (zb (zs (zn ?_))))
 obtain ⟨u,r,h⟩:=bindS h
 refine zC (Z81w hA r) ?_
 refine zE ?_
 refine nT ?_
 rcases tf u with b | b
 ·replace h:=cT b h
  refine zU ?_
  refine zs (zn ?_)
  obtain ⟨s,q,h⟩:=bindS h
  refine zD (Z144w hA q) ?_
  refine zF ?_
  refine nT ?_
  rcases tf s with a | a
  ·replace h:=cT a h
   refine zU ?_
   refine zk (nB (nT (zs ?_)))
   refine zB ?_ { tk:=[17] }
   refine nT (zr ?_)
   cases soI h
   exact zq
  ·replace h:=cF a h
   refine zT ?_
   refine zs ?_
   refine zB ?_ { tk:=[16],nl:=[16] }
   refine nT (zr (rB (rT ?_)))
   cases soI h
   exact zq
 ·replace h:=cF b h
  refine zT ?_
  refine zs ?_
  refine zB ?_ { tk:=[10],nl:=[10] }
  refine nT (zr (rB (rT ?_)))
  cases soI h
  exact zq

theorem Z147w {A:Ar} (hA:SA A) {m o:Int} {p q:List D} {u:Int} {b k:List D} {l:Int} (h:Z147 A m o p q u b=some (k,l)):ACall Tryz.prog 147 [.d (.agg [.int .i64 m,.int .i64 o,.list 1 p,.list 1 q]),zi u,zl 1 b] [] (.tuple [zl 1 k,zi l]) []:=by
 unfold Z147 at h
 refine zI Tryz.func147 ?_
 refine zs ?_
 refine zA ?_
 refine nT (zs ?_)
 refine zA ?_
 refine nT (zs (zs ?_))
 refine zA ?_
 refine nT (zb ?_)
 obtain ⟨e0,G,v,F,e⟩:=bindK h
 refine AWp.cutX 0 [1,8] [] 0 (lb rfl) (fun τ => ∃ i j,v (i,j)=some (k,l)∧τ={ env:=[(1,zi i),(8,(.own 1 j))],heap:=[],n:=39 }) ?_ ?_
 ·skip
  refine AWp.iter G [1,3,8,11,12,13] [] 0 (lb rfl) (fun (r,s,g)=>{ env:=[(1,zi r),(3,(.lbox [zi m,zi o,zl 1 p,zl 1 q])),(8,(.own 1 s)),(11,zl 1 b),(12,(.d (.int .i64 (A.len b)))),(13,zi g)],heap:=[],n:=39 }) ⟨rfl,zc⟩ ?_
  rintro ⟨r,s,g⟩ O a
  dsimp only [Z147L0] at a
  refine zs ?_
  refine zA ?_
  refine nT (zs ?_)
  rcases tf (A.zlt g (A.len b)) with c | c
  ·replace a:=cT c a
   refine zT ?_
   refine zk (nT (zs (zb (zs ?_))))
   obtain ⟨J,w,a⟩:=bindS a
   obtain ⟨P,Q⟩:=gtI w
   refine zB ?_
   refine nT (zs ?_)
   obtain ⟨K,y,a⟩:=bindS a
   obtain ⟨R,S⟩:=gtI y
   obtain ⟨L,z,a⟩:=bindS a
   obtain ⟨U,V⟩:=gtI z
   obtain ⟨d0,B,a⟩:=bindS a
   obtain ⟨W,X⟩:=apI B
   refine zB ?_ { tk:=[8,27] }
   refine nT ?_
   obtain ⟨M,C,a⟩:=bindS a
   obtain ⟨Y,a0⟩:=gtI C
   obtain ⟨N,E,a⟩:=bindS a
   obtain ⟨b0,c0⟩:=gtI E
   refine zB ?_
   refine nB (nT ?_)
   refine zB ?_
   exact nT ⟨_,(soI a).symm,rfl,zv⟩
  ·replace a:=cF c a
   refine zU ?_
   refine AWp.exit (xT (xT ?_))
   refine exL a fun hx => ?_
   subst hx
   exact oxI ⟨rfl,_,_,e,zv⟩
 ·rintro _ ⟨i,j,e,rfl⟩
  have h:=(F _ e)
  refine xB (nT (zs ?_))
  refine zA ?_
  refine nT (zr ?_)
  cases soI h
  exact zq

theorem Z98w {A:Ar} (hA:SA A) {j k:Int} {l m:List D} {b:Int} {c e:List D} {g i:Int} (h:Z98 A j k l m b c=some (e,g,i)):ACall Tryz.prog 98 [.d (.agg [.int .i64 j,.int .i64 k,.list 1 l,.list 1 m]),zi b,zl 1 c] [] (.tuple [zl 1 e,zi g,zi i]) []:=by
 unfold Z98 at h
 refine zI Tryz.func98 ?_
 refine zs ?_
 refine zA ?_
 refine nT ?_
 refine AWp.freezeBox 4 [.int .i64 b] rfl rfl ?_
 refine AWp.freezeBox 5 [.list 1 c] rfl rfl ?_
 refine zs (zn ?_)
 obtain ⟨⟨v,w,q,r,p⟩,o,h⟩:=bindS h
 refine zC (Z143w hA o) ?_ { tk:=[15] }
 refine zE ?_ { tk:=[15] }
 refine nT (zs (zs ?_))
 refine zA ?_
 refine nT ?_
 rcases tf (A.zeq p 0) with a | a
 ·replace h:=cT a h
  refine zU ?_
  refine zk (nT (zs (zn ?_)))
  obtain ⟨⟨s,u⟩,n,h⟩:=bindS h
  refine zD (Z147w hA n) ?_
  refine zF ?_
  refine nT (zs ?_)
  refine zB ?_
  refine nT (zr ?_)
  cases soI h
  exact zq
 ·replace h:=cF a h
  refine zT ?_
  refine zs ?_
  refine zB ?_
  refine nT (zr (rT ?_))
  cases soI h
  exact zq

theorem Z99w {A:Ar} (hA:SA A) {c e:List D} {l:Bool} (h:Z99 A c e=some l):ACall Tryz.prog 99 [zl 1 c,zl 1 e] [] (.d (.bool l)) []:=by
 unfold Z99 at h
 refine zI Tryz.func99 ?_
 refine zs ?_
 refine zA ?_
 refine nT (zs (zs ?_))
 refine zA ?_
 refine nT ?_
 rcases tf (A.zeq (A.len c) (A.len e)) with j | j
 ·replace h:=cT j h
  refine zU ?_
  refine zk (nT (zs (zs ?_)))
  refine zB ?_
  refine nT (zb ?_)
  obtain ⟨C,u,o,m,b⟩:=bindK h
  refine AWp.cutX 0 [] [] 0 (lb rfl) (fun τ=>o (.inl ())=some l∧τ={ env:=[],heap:=[],n:=26 }) ?_ ?_
  ·skip
   refine AWp.iter u [0,1,12,13] [] 0 (lb rfl) (fun k=>{ env:=[(0,zl 1 c),(1,zl 1 e),(12,(.d (.int .i64 (A.len c)))),(13,zi k)],heap:=[],n:=26 }) ⟨rfl,zv⟩ ?_
   rintro k v a
   dsimp only [Z99L0] at a
   refine zs ?_
   refine zA ?_
   refine nT (zs ?_)
   rcases tf (A.zlt k (A.len c)) with g | g
   ·replace a:=cT g a
    refine zT ?_
    refine zk (nT (zs (zb (zs ?_))))
    refine zB ?_
    refine nT (zs ?_)
    obtain ⟨p,r,a⟩:=bindS a
    obtain ⟨w,y⟩:=gtI r
    obtain ⟨q,s,a⟩:=bindS a
    obtain ⟨z,B⟩:=gtI s
    refine AWp.rd hT hA {} rfl zu (by kernel_rfl) (lb rfl) ?_
    refine nT ?_
    rcases tf (A.zeq p q) with i | i
    ·replace a:=cT i a
     refine zU ?_
     refine zk (nB (nT ?_))
     refine zB ?_
     exact nT ⟨_,(soI a).symm,rfl,zv⟩
    ·replace a:=cF i a
     refine zT ?_
     refine zs ?_
     refine zB ?_
     refine nT (zr (rB (rT (rT ?_))))
     refine exL a fun hx => ?_
     subst hx
     refine oxR ?_
     replace b:=(eR (m _ b))
     refine rB (rT ?_)
     cases soI b
     exact zq
   ·replace a:=cF g a
    refine zU ?_
    refine AWp.exit (xT (xT ?_))
    refine exL a fun hx => ?_
    subst hx
    exact oxI ⟨rfl,b,zv⟩
  ·rintro _ ⟨b,rfl⟩
   have h:=(eL (m _ b))
   refine xB (nT (zs ?_))
   refine zA ?_
   refine nT (zr ?_)
   cases soI h
   exact zq
 ·replace h:=cF j h
  refine zT ?_
  refine zs ?_
  refine zB ?_
  refine nT (zr (rT ?_))
  cases soI h
  exact zq

theorem Z57w {A:Ar} (hA:SA A) {e g:Int} {i j s c:List D} {r:Bool} (h:Z57 A e g i j s c=some r):ACall Tryz.prog 57 [.d (.agg [.int .i64 e,.int .i64 g,.list 1 i,.list 1 j]),zl 6 s,zl 1 c] [] (.d (.bool r)) []:=by
 unfold Z57 at h
 refine zI Tryz.func57 ?_
 refine zs ?_
 refine zA ?_
 refine nT (zs ?_)
 refine zA ?_
 refine nT (zs (zs ?_))
 refine zA ?_
 refine nT (zb ?_)
 obtain ⟨l0,J,w,G,m⟩:=bindK h
 refine AWp.cutX 0 [3,7,8] [] 0 (lb rfl) (fun τ => ∃ p q,w (p,q)=some r∧τ={ env:=[(3,(.lbox [zi e,zi g,zl 1 i,zl 1 j])),(7,(.own 1 p)),(8,(.own 1 q))],heap:=[],n:=51 }) ?_ ?_
 ·skip
  refine AWp.iter J [1,3,7,8,14,15,16] [] 0 (lb rfl) (fun (u,v,o)=>{ env:=[(1,zl 6 s),(3,(.lbox [zi e,zi g,zl 1 i,zl 1 j])),(7,(.own 1 u)),(8,(.own 1 v)),(14,zl 1 c),(15,(.d (.int .i64 (A.len c)))),(16,zi o)],heap:=[],n:=51 }) ⟨rfl,zc⟩ ?_
  rintro ⟨u,v,o⟩ U a
  dsimp only [Z57L0] at a
  refine zs ?_
  refine zA ?_
  refine nT (zs ?_)
  rcases tf (A.zlt o (A.len c)) with k | k
  ·replace a:=cT k a
   refine zT ?_
   refine zk (nT (zs (zb (zs ?_))))
   obtain ⟨M,y,a⟩:=bindS a
   obtain ⟨V,W⟩:=gtI y
   refine zB ?_
   refine nT ?_
   obtain ⟨⟨N,O,P,Q,R,S⟩,z,a⟩:=bindS a
   obtain ⟨X,Y⟩:=gtI z
   obtain ⟨e0,B,a⟩:=bindS a
   obtain ⟨a0,b0⟩:=apI B
   obtain ⟨g0,C,a⟩:=bindS a
   obtain ⟨c0,d0⟩:=apI C
   refine AWp.rd hT hA { tk:=[7,8,27,35] } rfl zu (by kernel_rfl) (lb rfl) ?_
   refine nB (nT ?_)
   refine zB ?_
   exact nT ⟨_,(soI a).symm,rfl,zv⟩
  ·replace a:=cF k a
   refine zU ?_
   refine AWp.exit (xT (xT ?_))
   refine exL a fun hx => ?_
   subst hx
   exact oxI ⟨rfl,_,_,m,zv⟩
 ·rintro _ ⟨p,q,m,rfl⟩
  have h:=(G _ m)
  refine xB (nT (zs (zn ?_)))
  obtain ⟨⟨i0,j0,K⟩,E,h⟩:=bindS h
  refine zC (Z98w hA E) ?_
  refine zE ?_
  refine nT (zs ?_)
  obtain ⟨L,b,h⟩:=bindS h
  refine AWp.cutN [6] [] 0 (lb rfl) (fun τ=>τ={ env:=[(6,.d (.bool L))],heap:=[],n:=51 }) ?_ ?_
  ·skip
   refine zn ?_
   rcases tf (A.zeq K 0) with l | l
   ·replace b:=cT l b
    obtain ⟨k0,F,b⟩:=bindS b
    refine zD (Z99w hA F) ?_ { tk:=[50] }
    refine zF ?_ { tk:=[50] }
    cases soI b
    exact zO
   ·replace b:=cF l b
    refine zF ?_ { tk:=[50] }
    cases soI b
    exact zO
  ·rintro _ rfl
   refine nT (zr ?_)
   cases soI h
   exact zq

theorem Z54w {A:Ar} (hA:SA A) {g u:List D} {G J K L M N O i j k l m o p q r s v:Int} {w y z:List D} {B C:Int} {E F:List D} {e:Bool} (h:Z54 A g u G J K L M N O i j k l m o p q r s v w y z B C E F=some e):ACall Tryz.prog 54 [.d (.ref [.list 1 g,.list 1 u,.int .i64 G,.int .i64 J,.int .i64 K,.int .i64 L,.int .i64 M,.int .i64 N,.int .i64 O,.int .i64 i,.int .i64 j,.int .i64 k,.int .i64 l,.int .i64 m,.int .i64 o,.int .i64 p,.int .i64 q,.int .i64 r,.int .i64 s,.int .i64 v,.list 6 w,.list 1 y]),zl 1 z,.iptr [.int .i64 B,.int .i64 C,.list 1 E,.list 1 F]] [] (.d (.bool e)) []:=by
 unfold Z54 at h
 refine zI Tryz.func54 ?_
 refine zs ?_
 refine zA ?_
 refine nT (zs (zs (zn ?_)))
 obtain ⟨S,P,h⟩:=bindS h
 refine zC (Z55w hA P) ?_
 refine zE ?_
 refine nT ?_
 rcases tf (A.zlt 0 (A.len S)) with b | b
 ·replace h:=cT b h
  refine zT ?_
  refine zs ?_
  refine zB ?_
  refine nT (zr (rT ?_))
  cases soI h
  exact zq
 ·replace h:=cF b h
  refine zU ?_
  refine zk (nT (zs (zn ?_)))
  obtain ⟨⟨W,U⟩,Q,h⟩:=bindS h
  refine zD (Z56w hA Q) ?_
  refine zF ?_
  refine nT (zs ?_)
  obtain ⟨V,a,h⟩:=bindS h
  refine AWp.cutN [5] [] 0 (lb rfl) (fun τ=>τ={ env:=[(5,.d (.bool V))],heap:=[],n:=27 }) ?_ ?_
  ·skip
   refine AWp.regionDraw rfl (lb rfl) ?_
   rcases tf U with c | c
   ·replace a:=cT c a
    obtain ⟨X,R,a⟩:=bindS a
    refine DOps.c0 hT hA { tk:=[26] } rfl zu (Z57w hA R) rfl rfl (lb rfl) rfl rfl ?_
    refine DOps.cd hT hA { tk:=[26] } rfl zu (by kernel_rfl) ?_
    cases soI a
    exact zO
   ·replace a:=cF c a
    refine DOps.cd hT hA { tk:=[26] } rfl zu (by kernel_rfl) ?_
    cases soI a
    exact zO
  ·rintro _ rfl
   refine nT (zr ?_)
   cases soI h
   exact zq
end Go.Am
