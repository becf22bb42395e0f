import Derived.Test.YtkjeamngjnfpkaaGreatGenw3
set_option maxRecDepth 100000
set_option maxHeartbeats 2000000
set_option linter.unusedVariables false
set_option linter.unusedSimpArgs false
namespace Go.Am
open Go Go.Proofs
theorem b7T {A:Ar} (hA:SA A) {g l m o p c q r s i j k:Int} {e:Bool} (h:b7N A g l m o p c q r s i j k=some e):a0c Tryz.prog 171 [.d (.agg [.int .i64 g,.int .i64 l,.int .i64 m,.int .i64 o,.int .i64 p,.int .i64 c]),.d (.agg [.int .i64 q,.int .i64 r,.int .i64 s,.int .i64 i,.int .i64 j,.int .i64 k])] [] (.d (.bool e)) []:=by
 unfold b7N at h;refine zI Tryz.func171 ?_;refine zs (zA (nT (zs ?_)));obtain ⟨u,a,h⟩:=a0a h;refine zN [4] [] 0 (fun τ=>τ=⟨[(4,.d (.bool u))],[],15⟩) ?_ ?_
 ·rcases tf (A.zeq c 0) with b | b
  ·replace a:=cT b a;refine zB ?_ { tk:=[14] };cases soI a;exact zO
  replace a:=cF b a;refine zB ?_ { tk:=[14] };cases soI a;exact zO
 rintro _ rfl;refine nT (zr ?_);cases soI h;exact zq

theorem c5D {A:Ar} (hA:SA A) {g c:List D} {m:Bool} (h:Z53 A g c=some m):a0c Tryz.prog 53 [zl 1 g,zl 1 c] [] (.d (.bool m)) []:=by
 unfold Z53 at h;refine zI Tryz.func53 ?_;refine zs (zA (nT (zs (zs ?_))));refine zA (nT (zb ?_));obtain ⟨J,v,q,o,e⟩:=a0z h;refine zM 0 [0,1] [] 0 (fun τ=>q (.inl ())=some m/\τ=⟨[(0,zl 1 g),(1,zl 1 c)],[],35⟩) ?_ ?_
 ·refine zP v [0,1,7,8,9] [] 0 (fun i=>⟨[(0,zl 1 g),(1,zl 1 c),(7,zl 1 c),(8,(.d (.int .i64 (A.len c)))),(9,zi i)],[],35⟩) ⟨rfl,zc⟩ ?_;rintro i z a;dsimp only [b3g] at a;refine zs (zA (nT (zs ?_)));rcases tf (A.zlt i (A.len c)) with j | j
  ·replace a:=cT j a;refine zT (zk (nT (zs (zb (zs ?_)))));obtain ⟨w,r,a⟩:=a0a a;obtain ⟨B,C⟩:=gtI r;refine zB (nT (zs ?_));obtain ⟨p,b,a⟩:=a0a a;refine zN [0,1,7,8,9,28] [] 0 (fun τ=>τ=⟨[(0,zl 1 g),(1,zl 1 c),(7,zl 1 c),(8,(.d (.int .i64 (A.len c)))),(9,zi i),(28,.d (.bool p))],[],35⟩) ?_ ?_
   ·refine zn ?_;rcases tf (A.zle (A.len g) i) with k | k
    ·replace b:=cT k b;refine zF ?_;cases soI b;exact zO
    replace b:=cF k b;obtain ⟨y,s,b⟩:=a0a b;obtain ⟨E,F⟩:=gtI s;obtain ⟨G,u,b⟩:=a0a b;refine zD (b1Z hA u) ?_;refine zF ?_;cases soI b;exact zO
   rintro _ rfl;refine nT ?_;rcases tf p with l | l
   ·replace a:=cT l a;refine zT (zs ?_);refine zB (nT (zr (rB (rT (rT ?_)))));refine exL a ?_;rintro rfl;refine oxR ?_;replace e:=(eR (o _ e));refine rB (rT ?_);cases soI e;exact zq
   replace a:=cF l a;refine zU (zk (nB (nT ?_)));refine zB ?_;exact nT ⟨_,(soI a).symm,rfl,zv⟩
  replace a:=cF j a;refine zU (AWp.exit (xT (xT ?_)));refine exL a ?_;rintro rfl;exact oxI ⟨rfl,e,zv⟩
 rintro _ ⟨e,rfl⟩;have h:=(eL (o _ e));refine xB (nT (zs (zA (nT (zr ?_)) { tk:=[34] })));cases soI h;exact zq

theorem c3T {A:Ar} (hA:SA A) {r G:List D} {M N O P Q R S s u v w y z B C E F J:Int} {K L:List D} {i:Int} {q:Bool} (h:c3a A r G M N O P Q R S s u v w y z B C E F J K L i=some q):a0c Tryz.prog 94 [.d (.ref [.list 1 r,.list 1 G,.int .i64 M,.int .i64 N,.int .i64 O,.int .i64 P,.int .i64 Q,.int .i64 R,.int .i64 S,.int .i64 s,.int .i64 u,.int .i64 v,.int .i64 w,.int .i64 y,.int .i64 z,.int .i64 B,.int .i64 C,.int .i64 E,.int .i64 F,.int .i64 J,.list 6 K,.list 1 L]),zi i] [] (.d (.bool q)) []:=by
 unfold c3a at h;refine zI Tryz.func94 ?_;refine zs (zA (nT (zs ?_)));obtain ⟨i0,a,h⟩:=a0a h;refine zN [4] [] 0 (fun τ=>τ=⟨[(4,.d (.bool i0))],[],31⟩) ?_ ?_
 ·refine zQ ?_;obtain ⟨g0,U,a⟩:=a0a a;refine a1h.c0 hT hA { tk:=[30] } rfl zc (b1Z hA U) rfl rfl (lb rfl) rfl rfl ?_;rcases tf g0 with b | b
  ·replace a:=cT b a;rcases tf (A.zeq i 0) with c | c
   ·replace a:=cT c a;obtain ⟨X,Y,j⟩:=ixF hA (n:=2) c (by decide);obtain ⟨j0,V,a⟩:=a0a a;obtain ⟨a0,k⟩:=gtI V;have l:=k;rw [j] at l;refine zJ ?_ { tk:=[30] } (h:=(by (repeat (cbv;simp only [b,X,Y,j,l,a0,k]));try cbv))
    cases soI a;exact (zO (g:=(by first | (cbv;done) | ((repeat (cbv;simp only [b]));try cbv))))
   replace a:=cF c a;rcases tf (A.zeq i 1) with e | e
   ·replace a:=cT e a;obtain ⟨b0,d0,m⟩:=ixF hA (n:=2) e (by decide);obtain ⟨k0,W,a⟩:=a0a a;obtain ⟨e0,o⟩:=gtI W;have p:=o;rw [m] at p;refine zJ ?_ { tk:=[30] } (h:=(by (repeat (cbv;simp only [b,b0,d0,m,p,e0,o]));try cbv))
    cases soI a;exact (zO (g:=(by first | (cbv;done) | ((repeat (cbv;simp only [b]));try cbv))))
   replace a:=cF e a;cases a
  replace a:=cF b a;refine zJ ?_ { tk:=[30] } (h:=(by (repeat (cbv;simp only [b]));try cbv))
  cases soI a;exact (zO (g:=(by first | (cbv;done) | ((repeat (cbv;simp only [b]));try cbv))))
 rintro _ rfl;refine nT (zr ?_);cases soI h;exact zq

theorem c3U {A:Ar} (hA:SA A) {g c:List D} {y z B C E F G i j k l m o p q r s u:Int} {v w N:List D} (h:Z55 A g c y z B C E F G i j k l m o p q r s u v w=some N):a0c Tryz.prog 55 [.d (.ref [.list 1 g,.list 1 c,.int .i64 y,.int .i64 z,.int .i64 B,.int .i64 C,.int .i64 E,.int .i64 F,.int .i64 G,.int .i64 i,.int .i64 j,.int .i64 k,.int .i64 l,.int .i64 m,.int .i64 o,.int .i64 p,.int .i64 q,.int .i64 r,.int .i64 s,.int .i64 u,.list 6 v,.list 1 w])] [] (.own 1 N) []:=by
 unfold Z55 at h;refine zI Tryz.func55 ?_;refine zs (zA (nT (zs ?_)));refine zA (nT (zs (zs ?_)));refine zA (nT (zb ?_));obtain ⟨c0,U,P,S,L⟩:=a0z h;refine zM 0 [3] [] 0 (fun τ => ∃ M,P M=some N/\τ=⟨[(3,(.own 1 M))],[],22⟩) ?_ ?_
 ·refine zP U [0,3,9,10] [] 0 (fun (O,e)=>⟨[(0,.d (.ref [.list 1 g,.list 1 c,.int .i64 y,.int .i64 z,.int .i64 B,.int .i64 C,.int .i64 E,.int .i64 F,.int .i64 G,.int .i64 i,.int .i64 j,.int .i64 k,.int .i64 l,.int .i64 m,.int .i64 o,.int .i64 p,.int .i64 q,.int .i64 r,.int .i64 s,.int .i64 u,.list 6 v,.list 1 w])),(3,(.own 1 O)),(9,(.d (.int .i64 (A.len c)))),(10,zi e)],[],22⟩) ⟨rfl,zc⟩ ?_;rintro ⟨O,e⟩ X a;dsimp only [b5u] at a;refine zs (zA (nT (zs ?_)));rcases tf (A.zlt e (A.len c)) with J | J
  ·replace a:=cT J a;refine zT (zk (nT (zs (zb (zs ?_)))));refine zB (nT (zs (zn ?_)));obtain ⟨V,Q,a⟩:=a0a a;refine zD (c3T hA Q) ?_;refine zF (nT ?_);obtain ⟨W,b,a⟩:=a0a a;refine zN [0,3,9,10] [] 0 (fun τ=>τ=⟨[(0,.d (.ref [.list 1 g,.list 1 c,.int .i64 y,.int .i64 z,.int .i64 B,.int .i64 C,.int .i64 E,.int .i64 F,.int .i64 G,.int .i64 i,.int .i64 j,.int .i64 k,.int .i64 l,.int .i64 m,.int .i64 o,.int .i64 p,.int .i64 q,.int .i64 r,.int .i64 s,.int .i64 u,.list 6 v,.list 1 w])),(3,(.own 1 W)),(9,(.d (.int .i64 (A.len c)))),(10,zi e)],[],22⟩) ?_ ?_
   ·rcases tf V with K | K
    ·replace b:=cT K b;refine zT ?_;obtain ⟨b0,R,b⟩:=a0a b;obtain ⟨Y,a0⟩:=apI R;refine zB ?_ { tk:=[3,19] };cases soI b;exact zO
    replace b:=cF K b;refine zU (zk ?_);cases soI b;exact zO
   rintro _ rfl;refine nB (nT (zA ?_));exact nT ⟨_,(soI a).symm,rfl,zc⟩
  replace a:=cF J a;refine zU (AWp.exit (xT (xT ?_)));refine exL a ?_;rintro rfl;exact oxI ⟨rfl,_,L,zv⟩
 rintro _ ⟨M,L,rfl⟩;have h:=(S _ L);refine xB (nT (zs (zA (nT (zr ?_)) { tk:=[3,21] })));cases soI h;exact zq

theorem c3V {A:Ar} (hA:SA A) {c:List D} {e j:Int} (h:c2D A c e=some j):a0c Tryz.prog 141 [zl 1 c,zi e] [] (zi j) []:=by
 unfold c2D at h;refine zI Tryz.func141 ?_;refine zs (zA (nT (zs (zs ?_))));refine zA (nT (zb ?_));obtain ⟨v,q,m,l,b⟩:=a0z h;refine zM 0 [] [] 0 (fun τ=>m (.inl ())=some j/\τ=⟨[],[],19⟩) ?_ ?_
 ·refine zP q [0,1,7,8] [] 0 (fun k=>⟨[(0,zl 1 c),(1,zi e),(7,(.d (.int .i64 (A.len c)))),(8,zi k)],[],19⟩) ⟨rfl,zc⟩ ?_;rintro k r a;dsimp only [a8Z] at a;refine zs (zA (nT (zs ?_)));rcases tf (A.zlt k (A.len c)) with g | g
  ·replace a:=cT g a;refine zT (zk (nT (zs (zb (zs ?_)))));refine zB (nT (zs ?_)) { tk:=[8,10] };obtain ⟨o,p,a⟩:=a0a a;obtain ⟨s,u⟩:=gtI p;refine zB (nT ?_);rcases tf (A.zeq e o) with i | i
   ·replace a:=cT i a;refine zT (zs ?_);refine zB (nT (zr (rB (rT (rT ?_))))) { tk:=[5,17] };refine exL a ?_;rintro rfl;refine oxR ?_;replace b:=(eR (l _ b));refine rB (rT ?_);cases soI b;exact zq
   replace a:=cF i a;refine zU (zk (nB (nT ?_)));refine zB ?_ { tk:=[18] };exact nT ⟨_,(soI a).symm,rfl,zv⟩
  replace a:=cF g a;refine zU (AWp.exit (xT (xT ?_)));refine exL a ?_;rintro rfl;exact oxI ⟨rfl,b,zv⟩
 rintro _ ⟨b,rfl⟩;have h:=(eL (l _ b));refine xB (nT (zs (zA (nT (zr ?_)))));cases soI h;exact zq

theorem c5E {A:Ar} (hA:SA A) {b:List D} {c:Int} {a:Bool} (h:Z95 A b c=some a):a0c Tryz.prog 95 [zl 1 b,zi c] [] (.d (.bool a)) []:=by
 unfold Z95 at h;refine zI Tryz.func95 ?_;refine zs (zA (nT (zs (zn ?_))));obtain ⟨g,e,h⟩:=a0a h;refine zC (c3V hA e) ?_ { tk:=[8] };refine zE (nT (zr ?_)) { tk:=[8] };cases soI h;exact zq

theorem c5F {A:Ar} (hA:SA A) {b p:Int} {w y:List D} {z B C E F c e g i j k l m n o q r s:Int} {u v:List D} {a:Int} (h:Z97 A b p w y z B C E F c e g i j k l m n o q r s u v=some a):a0c Tryz.prog 97 [zi b,zi p,(.iptr [(.ref [.list 1 w,.list 1 y,.int .i64 z,.int .i64 B,.int .i64 C,.int .i64 E,.int .i64 F,.int .i64 c,.int .i64 e,.int .i64 g,.int .i64 i,.int .i64 j,.int .i64 k,.int .i64 l,.int .i64 m,.int .i64 n,.int .i64 o,.int .i64 q,.int .i64 r,.int .i64 s,.list 6 u,.list 1 v])])] [] (zi a) []:=by
 unfold Z97 at h;refine zI Tryz.func97 ?_;refine zs (zA (nT (zs ?_)));obtain ⟨K,G,h⟩:=a0a h;obtain ⟨M,N⟩:=gtI G;obtain ⟨L,J,h⟩:=a0a h;obtain ⟨O,P⟩:=gtI J;refine zH ?_ { tk:=[20] };refine nT (zr ?_);cases soI h;exact zq

theorem c5G {A:Ar} (hA:SA A) {G J:Int} {w y:List D} {z B C E F a b d e j k l m n o p q s:Int} {u v K r:List D} (h:Z96 A G J w y z B C E F a b d e j k l m n o p q s u v K=some r):a0c Tryz.prog 96 [.mref 0 1 G J,(.func 97 [] [(.iptr [(.ref [.list 1 w,.list 1 y,.int .i64 z,.int .i64 B,.int .i64 C,.int .i64 E,.int .i64 F,.int .i64 a,.int .i64 b,.int .i64 d,.int .i64 e,.int .i64 j,.int .i64 k,.int .i64 l,.int .i64 m,.int .i64 n,.int .i64 o,.int .i64 p,.int .i64 q,.int .i64 s,.list 6 u,.list 1 v])])])] [(.arr 1 K)] (.tuple []) [(.arr 1 r)] :=
 a0c.sortOne Tryz.sort96 rfl (c:=(cI .i64)) (fun _=>rfl) (g:=97) (caps:=[(.iptr [(.ref [.list 1 w,.list 1 y,.int .i64 z,.int .i64 B,.int .i64 C,.int .i64 E,.int .i64 F,.int .i64 a,.int .i64 b,.int .i64 d,.int .i64 e,.int .i64 j,.int .i64 k,.int .i64 l,.int .i64 m,.int .i64 n,.int .i64 o,.int .i64 p,.int .i64 q,.int .i64 s,.list 6 u,.list 1 v])])]) rfl (fun _ _ _ h=>c5F hA h) rfl rfl h (i:=0) rfl rfl

theorem c3W {A:Ar} (hA:SA A) {a o u:List D} {v w y z B C b c e g i j k l m n p q:Int} {r s:List D} (h:c4S A a o u v w y z B C b c e g i j k l m n p q r s=some ()):a0c Tryz.prog 96 [zl 1 a,(.func 97 [] [(.iptr [(.ref [.list 1 o,.list 1 u,.int .i64 v,.int .i64 w,.int .i64 y,.int .i64 z,.int .i64 B,.int .i64 C,.int .i64 b,.int .i64 c,.int .i64 e,.int .i64 g,.int .i64 i,.int .i64 j,.int .i64 k,.int .i64 l,.int .i64 m,.int .i64 n,.int .i64 p,.int .i64 q,.list 6 r,.list 1 s])])])] [] (.tuple []) []:=a0c.sortNone1 Tryz.sort96 rfl (c5s hA (ckI h)) rfl

theorem c5H {A:Ar} (hA:SA A) {e v:List D} {z B C E F G J g j k l m o p q r u w:Int} {c y R:List D} {S:Bool} (h:Z56 A e v z B C E F G J g j k l m o p q r u w c y=some (R,S)):a0c Tryz.prog 56 [.d (.ref [.list 1 e,.list 1 v,.int .i64 z,.int .i64 B,.int .i64 C,.int .i64 E,.int .i64 F,.int .i64 G,.int .i64 J,.int .i64 g,.int .i64 j,.int .i64 k,.int .i64 l,.int .i64 m,.int .i64 o,.int .i64 p,.int .i64 q,.int .i64 r,.int .i64 u,.int .i64 w,.list 6 c,.list 1 y])] [] (.tuple [zl 1 R,.d (.bool S)]) []:=by
 unfold Z56 at h;refine zI Tryz.func56 ?_;refine zs (zA (nT ?_));refine AWp.freezeBox 1 [(.ref [.list 1 e,.list 1 v,.int .i64 z,.int .i64 B,.int .i64 C,.int .i64 E,.int .i64 F,.int .i64 G,.int .i64 J,.int .i64 g,.int .i64 j,.int .i64 k,.int .i64 l,.int .i64 m,.int .i64 o,.int .i64 p,.int .i64 q,.int .i64 r,.int .i64 u,.int .i64 w,.list 6 c,.list 1 y])] rfl rfl ?_;refine zs (zs ?_);obtain ⟨U,a,h⟩:=a0a h;refine zN [1,16] [] 0 (fun τ=>τ=⟨[(1,(.iptr [(.ref [.list 1 e,.list 1 v,.int .i64 z,.int .i64 B,.int .i64 C,.int .i64 E,.int .i64 F,.int .i64 G,.int .i64 J,.int .i64 g,.int .i64 j,.int .i64 k,.int .i64 l,.int .i64 m,.int .i64 o,.int .i64 p,.int .i64 q,.int .i64 r,.int .i64 u,.int .i64 w,.list 6 c,.list 1 y])])),(16,.d (.bool U))],[],40⟩) ?_ ?_
 ·refine zn ?_;obtain ⟨n0,X,a⟩:=a0a a;refine zC (c3U hA X) ?_;rcases tf (A.zlt 0 (A.len n0)) with M | M
  ·replace a:=cT M a;refine zF ?_;cases soI a;exact zO
  replace a:=cF M a;obtain ⟨y0,Y,a⟩:=a0a a;refine zD (c5E hA Y) ?_;refine zF ?_;cases soI a;exact zO
 rintro _ rfl;refine nT ?_;rcases tf U with N | N
 ·replace h:=cT N h;refine zT (zs ?_);refine zB (nT (zr (rT ?_)));cases soI h;exact zq
 replace h:=cF N h;refine zU (zk (nT (zs ?_)));obtain ⟨_,a0,h⟩:=a0a h;have p0:=ckI a0;obtain ⟨_,b0,h⟩:=a0a h;have q0:=ckI b0;obtain ⟨_,c0,h⟩:=a0a h;have r0:=ckI c0;refine zB (nT (zs (zs ?_))) { tk:=[22],gr:=[22],th:=[22] };refine zB (nT (zb ?_));obtain ⟨a1,m0,W,l0,P⟩:=a0z h;refine AWp.cutXW 0 (fun τ => ∃ L,W L=some (R,S)/\τ=⟨[(1,(.iptr [(.ref [.list 1 e,.list 1 v,.int .i64 z,.int .i64 B,.int .i64 C,.int .i64 E,.int .i64 F,.int .i64 G,.int .i64 J,.int .i64 g,.int .i64 j,.int .i64 k,.int .i64 l,.int .i64 m,.int .i64 o,.int .i64 p,.int .i64 q,.int .i64 r,.int .i64 u,.int .i64 w,.list 6 c,.list 1 y])])),(4,.gref 0 1)],[.gro 1 L,.dead,.dead],40⟩) ?_ ?_
 ·refine AWp.iterW m0 (fun (Q,V)=>⟨[(1,(.iptr [(.ref [.list 1 e,.list 1 v,.int .i64 z,.int .i64 B,.int .i64 C,.int .i64 E,.int .i64 F,.int .i64 G,.int .i64 J,.int .i64 g,.int .i64 j,.int .i64 k,.int .i64 l,.int .i64 m,.int .i64 o,.int .i64 p,.int .i64 q,.int .i64 r,.int .i64 u,.int .i64 w,.list 6 c,.list 1 y])])),(4,.gref 0 1),(27,(.d (.int .i64 (A.len c)))),(28,zi Q)],[.gro 1 V,.dead,.dead],40⟩) ⟨_,zR [some 0,some 1,some 2] [1,4,27,28],rfl⟩ ?_;rintro ⟨Q,V⟩ o0 b;dsimp only [b3h] at b;refine zs (zA (nT (zs ?_)));rcases tf (A.zlt Q (A.len c)) with O | O
  ·replace b:=cT O b;refine zT (zk (nT (zs (zb (zs ?_)))));refine zB (nT ?_);obtain ⟨v0,d0,b⟩:=a0a b;obtain ⟨s0,u0⟩:=apI d0;refine zB (nB (nT ?_)) { tk:=[4,34],gr:=[34] };refine zB ?_;exact nT ⟨_,(soI b).symm,_,zR [some 3,some 4,some 5] [1,4,27,28],rfl⟩
  replace b:=cF O b;refine zU (AWp.exit (xT (xT ?_)));refine exL b ?_;rintro rfl;exact c4Q ⟨_,zR [some 0,some 1,some 2] [1,4],_,P,rfl⟩
 rintro _ ⟨L,P,rfl⟩;have h:=(l0 _ P);refine xB (nT (zs ?_));rcases tf (A.zlt 0 (A.len L)) with K | K
 ·replace h:=cT K h;refine AWp.weak (Wk.groArr 4 rfl rfl (neL hA K) (c5n hA)) ?_;refine zn ?_;obtain ⟨z0,e0,h⟩:=a0a h;refine zD (c5G hA e0) ?_;refine zF (nT (zs ?_));refine zB (nT ?_);obtain ⟨w0,i0,h⟩:=a0a h;obtain ⟨j0,k0⟩:=fzI hA i0;refine AWp.freeze (s:=2) (i:=0) rfl rfl j0 k0 ?_;refine zr ?_;cases soI h;exact zq
 replace h:=cF K h;refine AWp.weak (Wk.freezeS 4 rfl rfl) ?_;refine zn ?_;obtain ⟨_,g0,h⟩:=a0a h;refine zD (c3W hA g0) ?_;refine zF (nT (zs ?_));refine zB (nT (zr ?_));cases soI h;exact zq

theorem Z8w {A:Ar} (hA:SA A) {l i:Int} {m o j p:List D} {k:Bool} (h:Z8 A l i m o j p=some k):a0c Tryz.prog 8 [.d (.agg [.int .i64 l,.int .i64 i,.list 1 m,.list 1 o,.list 1 j,.list 1 p])] [] (.d (.bool k)) []:=by
 unfold Z8 at h;refine zI Tryz.func8 ?_;refine zs (zA (nT (zs ?_)));obtain ⟨z,a,h⟩:=a0a h;refine zN [2] [] 0 (fun τ=>τ=⟨[(2,.d (.bool z))],[],32⟩) ?_ ?_
 ·refine zn ?_;obtain ⟨y,u,a⟩:=a0a a;refine zC (c5u hA u) ?_ { tk:=[31] };rcases tf y with g | g
  ·replace a:=cT g a;refine zF ?_ { tk:=[31] };cases soI a;exact zO
  replace a:=cF g a;obtain ⟨v,q,a⟩:=a0a a;refine zD (c5B hA q) ?_ { tk:=[31] };rcases tf v with b | b
  ·replace a:=cT b a;obtain ⟨w,r,a⟩:=a0a a;refine zD (c5b hA r) ?_ { tk:=[31] };rcases tf w with c | c
   ·replace a:=cT c a;rcases tf (A.zeq i (A.len j)) with e | e
    ·replace a:=cT e a;obtain ⟨B,s,a⟩:=a0a a;refine zD (c5C hA s) ?_ { tk:=[31] };refine zF ?_ { tk:=[31] };cases soI a;exact zO
    replace a:=cF e a;refine zF ?_ { tk:=[31] };cases soI a;exact zO
   replace a:=cF c a;refine zF ?_ { tk:=[31] };cases soI a;exact zO
  replace a:=cF b a;refine zF ?_ { tk:=[31] };cases soI a;exact zO
 rintro _ rfl;refine nT (zr ?_);cases soI h;exact zq

theorem c3X {A:Ar} (hA:SA A) {b c e:Int} {g i:List D} {a:Bool} (h:c2F A b c e g i=some a):a0c Tryz.prog 180 [zi b,.iptr [.int .i64 c,.int .i64 e,.list 1 g,.list 1 i]] [] (.d (.bool a)) []:=by
 unfold c2F at h;refine zI Tryz.func180 ?_;refine zs (zA (nT (zs (zn ?_))));obtain ⟨k,j,h⟩:=a0a h;refine zC (b3u hA j) ?_ { tk:=[9] };refine zE (nT (zr ?_)) { tk:=[9] };cases soI h;exact zq

theorem c0p {A:Ar} (hA:SA A) {c:List D} {k l:Int} {m o:List D} {j:Int} (h:b5v A c k l m o=some j):a0c Tryz.prog 189 [zl 1 c,(.func 180 [] [.iptr [.int .i64 k,.int .i64 l,.list 1 m,.list 1 o]])] [] (zi j) []:=by
 unfold b5v at h;refine zI Tryz.func189 ?_;refine zs (zA (nT (zs (zs ?_))));refine zA (nT (zb ?_));obtain ⟨C,u,q,p,b⟩:=a0z h;refine zM 0 [] [] 0 (fun τ=>q (.inl ())=some j/\τ=⟨[],[],19⟩) ?_ ?_
 ·refine zP u [0,1,7,8] [] 0 (fun i=>⟨[(0,zl 1 c),(1,(.func 180 [] [.iptr [.int .i64 k,.int .i64 l,.list 1 m,.list 1 o]])),(7,(.d (.int .i64 (A.len c)))),(8,zi i)],[],19⟩) ⟨rfl,zc⟩ ?_;rintro i y a;dsimp only [a6u] at a;refine zs (zA (nT (zs ?_)));rcases tf (A.zlt i (A.len c)) with e | e
  ·replace a:=cT e a;refine zT (zk (nT (zs (zb (zs ?_)))));refine zB (nT (zs (zn ?_))) { tk:=[8,10] };obtain ⟨w,r,a⟩:=a0a a;obtain ⟨z,B⟩:=gtI r;obtain ⟨v,s,a⟩:=a0a a;refine zD (c3X hA s) ?_;refine zF (nT ?_);rcases tf v with g | g
   ·replace a:=cT g a;refine zT (zs ?_);refine zB (nT (zr (rB (rT (rT ?_))))) { tk:=[5,17] };refine exL a ?_;rintro rfl;refine oxR ?_;replace b:=(eR (p _ b));refine rB (rT ?_);cases soI b;exact zq
   replace a:=cF g a;refine zU (zk (nB (nT ?_)));refine zB ?_ { tk:=[18] };exact nT ⟨_,(soI a).symm,rfl,zv⟩
  replace a:=cF e a;refine zU (AWp.exit (xT (xT ?_)));refine exL a ?_;rintro rfl;exact oxI ⟨rfl,b,zv⟩
 rintro _ ⟨b,rfl⟩;have h:=(eL (p _ b));refine xB (nT (zs (zA (nT (zr ?_)))));cases soI h;exact zq

theorem c0q {A:Ar} (hA:SA A) {b:List D} {c e:Int} {g i:List D} {a:Bool} (h:b3i A b c e g i=some a):a0c Tryz.prog 158 [zl 1 b,(.func 180 [] [.iptr [.int .i64 c,.int .i64 e,.list 1 g,.list 1 i]])] [] (.d (.bool a)) []:=by
 unfold b3i at h;refine zI Tryz.func158 ?_;refine zs (zA (nT (zs (zn ?_))));obtain ⟨k,j,h⟩:=a0a h;refine zC (c0p hA j) ?_ { tk:=[8] };refine zE (nT (zr ?_)) { tk:=[8] };cases soI h;exact zq

theorem c3Y {A:Ar} (hA:SA A) {a b:Int} {c e i:List D} {g:Bool} (h:b9Q A a b c e i=some g):a0c Tryz.prog 145 [.d (.agg [.int .i64 a,.int .i64 b,.list 1 c,.list 1 e]),zl 1 i] [] (.d (.bool g)) []:=by
 unfold b9Q at h;refine zI Tryz.func145 ?_;refine zs (zA (nT ?_));refine AWp.freezeBox 2 [.int .i64 a,.int .i64 b,.list 1 c,.list 1 e] rfl rfl ?_;refine zs (zn ?_);obtain ⟨k,j,h⟩:=a0a h;refine zC (c0q hA j) ?_ { tk:=[8] };refine zE (nT (zr ?_)) { tk:=[8] };cases soI h;exact zq

theorem c3Z {A:Ar} (hA:SA A) {b c e:Int} {g i:List D} {a:Bool} (h:c2G A b c e g i=some a):a0c Tryz.prog 197 [zi b,.iptr [.int .i64 c,.int .i64 e,.list 1 g,.list 1 i]] [] (.d (.bool a)) []:=by
 unfold c2G at h;refine zI Tryz.func197 ?_;refine zs (zA (nT (zs (zn ?_))));obtain ⟨k,j,h⟩:=a0a h;refine zC (b3u hA j) ?_ { tk:=[9] };refine zE (nT (zr ?_)) { tk:=[9] };cases soI h;exact zq

theorem c0r {A:Ar} (hA:SA A) {c:List D} {k l:Int} {m o:List D} {j:Int} (h:b5w A c k l m o=some j):a0c Tryz.prog 189 [zl 1 c,(.func 197 [] [.iptr [.int .i64 k,.int .i64 l,.list 1 m,.list 1 o]])] [] (zi j) []:=by
 unfold b5w at h;refine zI Tryz.func189 ?_;refine zs (zA (nT (zs (zs ?_))));refine zA (nT (zb ?_));obtain ⟨C,u,q,p,b⟩:=a0z h;refine zM 0 [] [] 0 (fun τ=>q (.inl ())=some j/\τ=⟨[],[],19⟩) ?_ ?_
 ·refine zP u [0,1,7,8] [] 0 (fun i=>⟨[(0,zl 1 c),(1,(.func 197 [] [.iptr [.int .i64 k,.int .i64 l,.list 1 m,.list 1 o]])),(7,(.d (.int .i64 (A.len c)))),(8,zi i)],[],19⟩) ⟨rfl,zc⟩ ?_;rintro i y a;dsimp only [a6v] at a;refine zs (zA (nT (zs ?_)));rcases tf (A.zlt i (A.len c)) with e | e
  ·replace a:=cT e a;refine zT (zk (nT (zs (zb (zs ?_)))));refine zB (nT (zs (zn ?_))) { tk:=[8,10] };obtain ⟨w,r,a⟩:=a0a a;obtain ⟨z,B⟩:=gtI r;obtain ⟨v,s,a⟩:=a0a a;refine zD (c3Z hA s) ?_;refine zF (nT ?_);rcases tf v with g | g
   ·replace a:=cT g a;refine zT (zs ?_);refine zB (nT (zr (rB (rT (rT ?_))))) { tk:=[5,17] };refine exL a ?_;rintro rfl;refine oxR ?_;replace b:=(eR (p _ b));refine rB (rT ?_);cases soI b;exact zq
   replace a:=cF g a;refine zU (zk (nB (nT ?_)));refine zB ?_ { tk:=[18] };exact nT ⟨_,(soI a).symm,rfl,zv⟩
  replace a:=cF e a;refine zU (AWp.exit (xT (xT ?_)));refine exL a ?_;rintro rfl;exact oxI ⟨rfl,b,zv⟩
 rintro _ ⟨b,rfl⟩;have h:=(eL (p _ b));refine xB (nT (zs (zA (nT (zr ?_)))));cases soI h;exact zq

theorem c0s {A:Ar} (hA:SA A) {b:List D} {c e:Int} {g i:List D} {a:Bool} (h:b3j A b c e g i=some a):a0c Tryz.prog 158 [zl 1 b,(.func 197 [] [.iptr [.int .i64 c,.int .i64 e,.list 1 g,.list 1 i]])] [] (.d (.bool a)) []:=by
 unfold b3j at h;refine zI Tryz.func158 ?_;refine zs (zA (nT (zs (zn ?_))));obtain ⟨k,j,h⟩:=a0a h;refine zC (c0r hA j) ?_ { tk:=[8] };refine zE (nT (zr ?_)) { tk:=[8] };cases soI h;exact zq

theorem c4a {A:Ar} (hA:SA A) {a b:Int} {c e i:List D} {g:Bool} (h:c2H A a b c e i=some g):a0c Tryz.prog 181 [.d (.agg [.int .i64 a,.int .i64 b,.list 1 c,.list 1 e]),zl 1 i] [] (.d (.bool g)) []:=by
 unfold c2H at h;refine zI Tryz.func181 ?_;refine zs (zA (nT ?_));refine AWp.freezeBox 2 [.int .i64 a,.int .i64 b,.list 1 c,.list 1 e] rfl rfl ?_;refine zs (zn ?_);obtain ⟨k,j,h⟩:=a0a h;refine zC (c0s hA j) ?_ { tk:=[8] };refine zE (nT (zr ?_)) { tk:=[8] };cases soI h;exact zq

theorem c4b {A:Ar} (hA:SA A) {g i:Int} {j k c:List D} {e:Bool} (h:b9R A g i j k c=some e):a0c Tryz.prog 146 [.d (.agg [.int .i64 g,.int .i64 i,.list 1 j,.list 1 k]),zl 1 c] [] (.d (.bool e)) []:=by
 unfold b9R at h;refine zI Tryz.func146 ?_;refine zs (zA (nT (zs ?_)));obtain ⟨m,a,h⟩:=a0a h;refine zN [4] [] 0 (fun τ=>τ=⟨[(4,.d (.bool m))],[],13⟩) ?_ ?_
 ·refine zn ?_;rcases tf (A.zle (A.len c) 20) with b | b
  ·replace a:=cT b a;obtain ⟨o,l,a⟩:=a0a a;refine zD (c4a hA l) ?_ { tk:=[12] };refine zF ?_ { tk:=[12] };cases soI a;exact zO
  replace a:=cF b a;refine zF ?_ { tk:=[12] };cases soI a;exact zO
 rintro _ rfl;refine nT (zr ?_);cases soI h;exact zq

theorem c4c {A:Ar} (hA:SA A) {e g:Int} {i j:List D} {k:Int} {l:List D} {c:Bool} (h:c2I A e g i j k l=some c):a0c Tryz.prog 144 [.d (.agg [.int .i64 e,.int .i64 g,.list 1 i,.list 1 j]),.iptr [.int .i64 k],.iptr [.list 1 l]] [] (.d (.bool c)) []:=by
 unfold c2I at h;refine zI Tryz.func144 ?_;refine zs (zA (nT (zs ?_)));obtain ⟨q,a,h⟩:=a0a h;refine zN [4] [] 0 (fun τ=>τ=⟨[(4,.d (.bool q))],[],14⟩) ?_ ?_
 ·refine zn ?_;obtain ⟨p,o,a⟩:=a0a a;refine zC (c3Y hA o) ?_ { tk:=[13] };rcases tf p with b | b
  ·replace a:=cT b a;obtain ⟨r,m,a⟩:=a0a a;refine zD (c4b hA m) ?_ { tk:=[13] };refine zF ?_ { tk:=[13] };cases soI a;exact zO
  replace a:=cF b a;refine zF ?_ { tk:=[13] };cases soI a;exact zO
 rintro _ rfl;refine nT (zr ?_);cases soI h;exact zq

theorem c4d {A:Ar} (hA:SA A) {k l:Int} {m n:List D} {o:Int} {p:List D} {c e:Int} {g i:List D} {j:Int} (h:b9S A k l m n o p=some (c,e,g,i,j)):a0c Tryz.prog 143 [.d (.agg [.int .i64 k,.int .i64 l,.list 1 m,.list 1 n]),(.func 144 [] [.iptr [.int .i64 o],.iptr [.list 1 p]])] [] (.tuple [.d (.agg [.int .i64 c,.int .i64 e,.list 1 g,.list 1 i]),zi j]) []:=by
 unfold b9S at h;refine zI Tryz.func143 ?_;refine zs (zA (nT (zs (zb (zs (zn ?_))))));obtain ⟨u,r,h⟩:=a0a h;refine zC (c3D hA r) ?_;refine zE (nT ?_);rcases tf u with b | b
 ·replace h:=cT b h;refine zU (zs (zn ?_));obtain ⟨s,q,h⟩:=a0a h;refine zD (c4c hA q) ?_;refine zF (nT ?_);rcases tf s with a | a
  ·replace h:=cT a h;refine zU (zk (nB (nT (zs ?_))));refine zB (nT (zr ?_)) { tk:=[17] };cases soI h;exact zq
  replace h:=cF a h;refine zT (zs ?_);refine zB (nT (zr (rB (rT ?_)))) { tk:=[16],nl:=[16] };cases soI h;exact zq
 replace h:=cF b h;refine zT (zs ?_);refine zB (nT (zr (rB (rT ?_)))) { tk:=[10],nl:=[10] };cases soI h;exact zq

theorem c4e {A:Ar} (hA:SA A) {m o:Int} {p q:List D} {u:Int} {b k:List D} {l:Int} (h:c2J A m o p q u b=some (k,l)):a0c Tryz.prog 147 [.d (.agg [.int .i64 m,.int .i64 o,.list 1 p,.list 1 q]),zi u,zl 1 b] [] (.tuple [zl 1 k,zi l]) []:=by
 unfold c2J at h;refine zI Tryz.func147 ?_;refine zs (zA (nT (zs ?_)));refine zA (nT (zs (zs ?_)));refine zA (nT (zb ?_));obtain ⟨e0,G,v,F,e⟩:=a0z h;refine zM 0 [1,8] [] 0 (fun τ => ∃ i j,v (i,j)=some (k,l)/\τ=⟨[(1,zi i),(8,(.own 1 j))],[],39⟩) ?_ ?_
 ·refine zP G [1,3,8,11,12,13] [] 0 (fun (r,s,g)=>⟨[(1,zi r),(3,(.lbox [zi m,zi o,zl 1 p,zl 1 q])),(8,(.own 1 s)),(11,zl 1 b),(12,(.d (.int .i64 (A.len b)))),(13,zi g)],[],39⟩) ⟨rfl,zc⟩ ?_;rintro ⟨r,s,g⟩ O a;dsimp only [a7z] at a;refine zs (zA (nT (zs ?_)));rcases tf (A.zlt g (A.len b)) with c | c
  ·replace a:=cT c a;refine zT (zk (nT (zs (zb (zs ?_)))));obtain ⟨J,w,a⟩:=a0a a;obtain ⟨P,Q⟩:=gtI w;refine zB (nT (zs ?_));obtain ⟨K,y,a⟩:=a0a a;obtain ⟨R,S⟩:=gtI y;obtain ⟨L,z,a⟩:=a0a a;obtain ⟨U,V⟩:=gtI z;obtain ⟨d0,B,a⟩:=a0a a;obtain ⟨W,X⟩:=apI B;refine zB (nT ?_) { tk:=[8,27] };obtain ⟨M,C,a⟩:=a0a a;obtain ⟨Y,a0⟩:=gtI C;obtain ⟨N,E,a⟩:=a0a a;obtain ⟨b0,c0⟩:=gtI E;refine zB (nB (nT ?_));refine zB ?_;exact nT ⟨_,(soI a).symm,rfl,zv⟩
  replace a:=cF c a;refine zU (AWp.exit (xT (xT ?_)));refine exL a ?_;rintro rfl;exact oxI ⟨rfl,_,_,e,zv⟩
 rintro _ ⟨i,j,e,rfl⟩;have h:=(F _ e);refine xB (nT (zs (zA (nT (zr ?_)))));cases soI h;exact zq

theorem c5I {A:Ar} (hA:SA A) {j k:Int} {l m:List D} {b:Int} {c e:List D} {g i:Int} (h:Z98 A j k l m b c=some (e,g,i)):a0c Tryz.prog 98 [.d (.agg [.int .i64 j,.int .i64 k,.list 1 l,.list 1 m]),zi b,zl 1 c] [] (.tuple [zl 1 e,zi g,zi i]) []:=by
 unfold Z98 at h;refine zI Tryz.func98 ?_;refine zs (zA (nT ?_));refine AWp.freezeBox 4 [.int .i64 b] rfl rfl ?_;refine AWp.freezeBox 5 [.list 1 c] rfl rfl ?_;refine zs (zn ?_);obtain ⟨⟨v,w,q,r,p⟩,o,h⟩:=a0a h;refine zC (c4d hA o) ?_ { tk:=[15] };refine zE (nT (zs (zs ?_))) { tk:=[15] };refine zA (nT ?_);rcases tf (A.zeq p 0) with a | a
 ·replace h:=cT a h;refine zU (zk (nT (zs (zn ?_))));obtain ⟨⟨s,u⟩,n,h⟩:=a0a h;refine zD (c4e hA n) ?_;refine zF (nT (zs ?_));refine zB (nT (zr ?_));cases soI h;exact zq
 replace h:=cF a h;refine zT (zs ?_);refine zB (nT (zr (rT ?_)));cases soI h;exact zq

theorem c5J {A:Ar} (hA:SA A) {c e:List D} {l:Bool} (h:Z99 A c e=some l):a0c Tryz.prog 99 [zl 1 c,zl 1 e] [] (.d (.bool l)) []:=by
 unfold Z99 at h;refine zI Tryz.func99 ?_;refine zs (zA (nT (zs (zs ?_))));refine zA (nT ?_);rcases tf (A.zeq (A.len c) (A.len e)) with j | j
 ·replace h:=cT j h;refine zU (zk (nT (zs (zs ?_))));refine zB (nT (zb ?_));obtain ⟨C,u,o,m,b⟩:=a0z h;refine zM 0 [] [] 0 (fun τ=>o (.inl ())=some l/\τ=⟨[],[],26⟩) ?_ ?_
  ·refine zP u [0,1,12,13] [] 0 (fun k=>⟨[(0,zl 1 c),(1,zl 1 e),(12,(.d (.int .i64 (A.len c)))),(13,zi k)],[],26⟩) ⟨rfl,zv⟩ ?_;rintro k v a;dsimp only [b3k] at a;refine zs (zA (nT (zs ?_)));rcases tf (A.zlt k (A.len c)) with g | g
   ·replace a:=cT g a;refine zT (zk (nT (zs (zb (zs ?_)))));refine zB (nT (zs ?_));obtain ⟨p,r,a⟩:=a0a a;obtain ⟨w,y⟩:=gtI r;obtain ⟨q,s,a⟩:=a0a a;obtain ⟨z,B⟩:=gtI s;refine zH ?_;refine nT ?_;rcases tf (A.zeq p q) with i | i
    ·replace a:=cT i a;refine zU (zk (nB (nT ?_)));refine zB ?_;exact nT ⟨_,(soI a).symm,rfl,zv⟩
    replace a:=cF i a;refine zT (zs ?_);refine zB (nT (zr (rB (rT (rT ?_)))));refine exL a ?_;rintro rfl;refine oxR ?_;replace b:=(eR (m _ b));refine rB (rT ?_);cases soI b;exact zq
   replace a:=cF g a;refine zU (AWp.exit (xT (xT ?_)));refine exL a ?_;rintro rfl;exact oxI ⟨rfl,b,zv⟩
  rintro _ ⟨b,rfl⟩;have h:=(eL (m _ b));refine xB (nT (zs (zA (nT (zr ?_)))));cases soI h;exact zq
 replace h:=cF j h;refine zT (zs ?_);refine zB (nT (zr (rT ?_)));cases soI h;exact zq

theorem c5K {A:Ar} (hA:SA A) {e g:Int} {i j s c:List D} {r:Bool} (h:Z57 A e g i j s c=some r):a0c Tryz.prog 57 [.d (.agg [.int .i64 e,.int .i64 g,.list 1 i,.list 1 j]),zl 6 s,zl 1 c] [] (.d (.bool r)) []:=by
 unfold Z57 at h;refine zI Tryz.func57 ?_;refine zs (zA (nT (zs ?_)));refine zA (nT (zs (zs ?_)));refine zA (nT (zb ?_));obtain ⟨l0,J,w,G,m⟩:=a0z h;refine zM 0 [3,7,8] [] 0 (fun τ => ∃ p q,w (p,q)=some r/\τ=⟨[(3,(.lbox [zi e,zi g,zl 1 i,zl 1 j])),(7,(.own 1 p)),(8,(.own 1 q))],[],51⟩) ?_ ?_
 ·refine zP J [1,3,7,8,14,15,16] [] 0 (fun (u,v,o)=>⟨[(1,zl 6 s),(3,(.lbox [zi e,zi g,zl 1 i,zl 1 j])),(7,(.own 1 u)),(8,(.own 1 v)),(14,zl 1 c),(15,(.d (.int .i64 (A.len c)))),(16,zi o)],[],51⟩) ⟨rfl,zc⟩ ?_;rintro ⟨u,v,o⟩ U a;dsimp only [b3l] at a;refine zs (zA (nT (zs ?_)));rcases tf (A.zlt o (A.len c)) with k | k
  ·replace a:=cT k a;refine zT (zk (nT (zs (zb (zs ?_)))));obtain ⟨M,y,a⟩:=a0a a;obtain ⟨V,W⟩:=gtI y;refine zB (nT ?_);obtain ⟨⟨N,O,P,Q,R,S⟩,z,a⟩:=a0a a;obtain ⟨X,Y⟩:=gtI z;obtain ⟨e0,B,a⟩:=a0a a;obtain ⟨a0,b0⟩:=apI B;obtain ⟨g0,C,a⟩:=a0a a;obtain ⟨c0,d0⟩:=apI C;refine zH ?_ { tk:=[7,8,27,35] };refine nB (nT (zB ?_));exact nT ⟨_,(soI a).symm,rfl,zv⟩
  replace a:=cF k a;refine zU (AWp.exit (xT (xT ?_)));refine exL a ?_;rintro rfl;exact oxI ⟨rfl,_,_,m,zv⟩
 rintro _ ⟨p,q,m,rfl⟩;have h:=(G _ m);refine xB (nT (zs (zn ?_)));obtain ⟨⟨i0,j0,K⟩,E,h⟩:=a0a h;refine zC (c5I hA E) ?_;refine zE (nT (zs ?_));obtain ⟨L,b,h⟩:=a0a h;refine zN [6] [] 0 (fun τ=>τ=⟨[(6,.d (.bool L))],[],51⟩) ?_ ?_
 ·refine zn ?_;rcases tf (A.zeq K 0) with l | l
  ·replace b:=cT l b;obtain ⟨k0,F,b⟩:=a0a b;refine zD (c5J hA F) ?_ { tk:=[50] };refine zF ?_ { tk:=[50] };cases soI b;exact zO
  replace b:=cF l b;refine zF ?_ { tk:=[50] };cases soI b;exact zO
 rintro _ rfl;refine nT (zr ?_);cases soI h;exact zq

theorem c5c {A:Ar} (hA:SA A) {g u:List D} {G J K L M N O i j k l m o p q r s v:Int} {w y z:List D} {B C:Int} {E F:List D} {e:Bool} (h:Z54 A g u G J K L M N O i j k l m o p q r s v w y z B C E F=some e):a0c Tryz.prog 54 [.d (.ref [.list 1 g,.list 1 u,.int .i64 G,.int .i64 J,.int .i64 K,.int .i64 L,.int .i64 M,.int .i64 N,.int .i64 O,.int .i64 i,.int .i64 j,.int .i64 k,.int .i64 l,.int .i64 m,.int .i64 o,.int .i64 p,.int .i64 q,.int .i64 r,.int .i64 s,.int .i64 v,.list 6 w,.list 1 y]),zl 1 z,.iptr [.int .i64 B,.int .i64 C,.list 1 E,.list 1 F]] [] (.d (.bool e)) []:=by
 unfold Z54 at h;refine zI Tryz.func54 ?_;refine zs (zA (nT (zs (zs (zn ?_)))));obtain ⟨S,P,h⟩:=a0a h;refine zC (c3U hA P) ?_;refine zE (nT ?_);rcases tf (A.zlt 0 (A.len S)) with b | b
 ·replace h:=cT b h;refine zT (zs ?_);refine zB (nT (zr (rT ?_)));cases soI h;exact zq
 replace h:=cF b h;refine zU (zk (nT (zs (zn ?_))));obtain ⟨⟨W,U⟩,Q,h⟩:=a0a h;refine zD (c5H hA Q) ?_;refine zF (nT (zs ?_));obtain ⟨V,a,h⟩:=a0a h;refine zN [5] [] 0 (fun τ=>τ=⟨[(5,.d (.bool V))],[],27⟩) ?_ ?_
 ·refine zQ ?_;rcases tf U with c | c
  ·replace a:=cT c a;obtain ⟨X,R,a⟩:=a0a a;refine a1h.c0 hT hA { tk:=[26] } rfl zu (c5K hA R) rfl rfl (lb rfl) rfl rfl ?_;refine zJ ?_ { tk:=[26] };cases soI a;exact zO
  replace a:=cF c a;refine zJ ?_ { tk:=[26] };cases soI a;exact zO
 rintro _ rfl;refine nT (zr ?_);cases soI h;exact zq

theorem c4f {A:Ar} (hA:SA A) {i v w y e g k z B u c j:Int} {E:Bool} (h:b9O A i v w y e g k z B u c j=some E):a0c Tryz.prog 135 [.d (.agg [.int .i64 i,.int .i64 v,.int .i64 w,.int .i64 y,.int .i64 e,.int .i64 g]),.d (.agg [.int .i64 k,.int .i64 z,.int .i64 B,.int .i64 u,.int .i64 c,.int .i64 j])] [] (.d (.bool E)) []:=by
 unfold b9O at h;refine zI Tryz.func135 ?_;refine zs (zA (nT (zs (zs ?_))));obtain ⟨C,a,h⟩:=a0a h;refine zN [2,3,35] [] 0 (fun τ=>τ=⟨[(2,(.lbox [zi i,zi v,zi w,zi y,zi e,zi g])),(3,(.lbox [zi k,zi z,zi B,zi u,zi c,zi j])),(35,.d (.bool C))],[],53⟩) ?_ ?_
 ·rcases tf (A.zeq e c) with l | l
  ·replace a:=cT l a;refine zB ?_;cases soI a;exact zO
  replace a:=cF l a;rcases tf (A.zeq e j) with m | m
  ·replace a:=cT m a;refine zB ?_;cases soI a;exact zO
  replace a:=cF m a;rcases tf (A.zeq g c) with o | o
  ·replace a:=cT o a;refine zB ?_;cases soI a;exact zO
  replace a:=cF o a;rcases tf (A.zeq g 0) with p | p
  ·replace a:=cT p a;refine zB ?_;cases soI a;exact zO
  replace a:=cF p a;refine zB ?_;cases soI a;exact zO
 rintro _ rfl;refine nT ?_;rcases tf C with q | q
 ·replace h:=cT q h;refine zT (zs ?_);refine zB (nT (zr (rT ?_)));cases soI h;exact zq
 replace h:=cF q h;refine zU (zk (nT (zs ?_)));obtain ⟨K,b,h⟩:=a0a h;refine zN [4] [] 0 (fun τ=>τ=⟨[(4,.d (.bool K))],[],53⟩) ?_ ?_
 ·refine zn ?_;rcases tf (A.zeq i k) with r | r
  ·replace b:=cT r b;obtain ⟨J,F,b⟩:=a0a b;refine zD (b7T hA F) ?_ { tk:=[52] };rcases tf J with s | s
   ·replace b:=cT s b;refine zF ?_ { tk:=[52] };cases soI b;exact zO
   replace b:=cF s b;obtain ⟨L,G,b⟩:=a0a b;refine zD (b7T hA G) ?_ { tk:=[52] };refine zF ?_ { tk:=[52] };cases soI b;exact zO
  replace b:=cF r b;refine zF ?_ { tk:=[52] };cases soI b;exact zO
 rintro _ rfl;refine nT (zr ?_);cases soI h;exact zq

theorem c5L {A:Ar} (hA:SA A) {i:List D} {L:Bool} (h:Z91 A i=some L):a0c Tryz.prog 91 [zl 6 i] [] (.d (.bool L)) []:=by
 unfold Z91 at h;refine zI Tryz.func91 ?_;refine zs (zA (nT (zs (zs ?_))));refine zA (nT ?_);rcases tf (A.zlt 8 (A.len i)) with v | v
 ·replace h:=cT v h;refine zT (zs ?_);refine zB (nT (zr (rT ?_)));cases soI h;exact zq
 replace h:=cF v h;refine zU (zk (nT (zs (zs ?_))));refine zB (nT (zb ?_));obtain ⟨e1,i0,R,o,g⟩:=a0z h;refine zM 0 [] [] 0 (fun τ=>R (.inl ())=some L/\τ=⟨[],[],80⟩) ?_ ?_
 ·refine zP i0 [0,3] [] 0 (fun j=>⟨[(0,zl 6 i),(3,zi j)],[],80⟩) ⟨rfl,zv⟩ ?_;rintro j e0 b;dsimp only [b3c] at b;refine zs (zs (zA (nT ?_)));rcases tf (A.zlt j (A.len i)) with w | w
  ·replace b:=cT w b;refine zT (zk (nT (zs (zb (zs ?_)))));obtain ⟨⟨p,q,r,l,s,m⟩,S,b⟩:=a0a b;obtain ⟨w0,y0⟩:=gtI S;refine zB (nT (zs (zs ?_))) { tk:=[18] };obtain ⟨O,a,b⟩:=a0a b;refine zN [0,3,4,46] [] 0 (fun τ=>τ=⟨[(0,zl 6 i),(3,zi j),(4,(.lbox [zi p,zi q,zi r,zi l,zi s,zi m])),(46,.d (.bool O))],[],80⟩) ?_ ?_
   ·refine zn ?_;obtain ⟨j0,U,a⟩:=a0a a;refine zD (b7a hA U) ?_;rcases tf j0 with y | y
    ·replace a:=cT y a;obtain ⟨k0,V,a⟩:=a0a a;refine zD (b7a hA V) ?_;rcases tf k0 with z | z
     ·replace a:=cT z a;obtain ⟨l0,W,a⟩:=a0a a;refine zD (b7a hA W) ?_;rcases tf l0 with B | B
      ·replace a:=cT B a;obtain ⟨m0,X,a⟩:=a0a a;refine zD (b7a hA X) ?_;rcases tf m0 with C | C
       ·replace a:=cT C a;obtain ⟨b1,Y,a⟩:=a0a a;refine zD (b7a hA Y) ?_;refine zF ?_;cases soI a;exact zO
       replace a:=cF C a;refine zF ?_;cases soI a;exact zO
      replace a:=cF B a;refine zF ?_;cases soI a;exact zO
     replace a:=cF z a;refine zF ?_;cases soI a;exact zO
    replace a:=cF y a;refine zF ?_;cases soI a;exact zO
   rintro _ rfl;refine nT ?_;rcases tf O with E | E
   ·replace b:=cT E b;refine zT (zs ?_);refine zB (nT (zr (rT (rB (rT (rT ?_))))));refine exL b ?_;rintro rfl;refine oxR ?_;replace g:=(eR (o _ g));refine rB (rT ?_);cases soI g;exact zq
   replace b:=cF E b;refine zU (zk (nT (zs (zs ?_))));obtain ⟨P,e,b⟩:=a0a b;refine zN [0,3,4,68] [] 0 (fun τ=>τ=⟨[(0,zl 6 i),(3,zi j),(4,(.lbox [zi p,zi q,zi r,zi l,zi s,zi m])),(68,.d (.bool P))],[],80⟩) ?_ ?_
   ·refine zn ?_;rcases tf (A.zeq m 0) with F | F
    ·replace e:=cT F e;rcases tf (A.zeq l 0) with G | G
     ·replace e:=cT G e;refine zF ?_;cases soI e;exact zO
     replace e:=cF G e;refine zF ?_;cases soI e;exact zO
    replace e:=cF F e;obtain ⟨c1,a0,e⟩:=a0a e;refine zD (b7a hA a0) ?_;refine zF ?_;cases soI e;exact zO
   rintro _ rfl;refine nT ?_;rcases tf P with J | J
   ·replace b:=cT J b;refine zT (zs ?_);refine zB (nT (zr (rT (rB (rT (rT ?_))))));refine exL b ?_;rintro rfl;refine oxR ?_;replace g:=(eR (o _ g));refine rB (rT ?_);cases soI g;exact zq
   replace b:=cF J b;refine zU (zk (nT (zs ?_)));refine zB (nT (zb ?_));obtain ⟨d1,g0,Q,N,k⟩:=a0z b;refine zM 2 [0,3] [] 0 (fun τ=>Q (.inl ())=some e0/\τ=⟨[(0,zl 6 i),(3,zi j)],[],80⟩) ?_ ?_
   ·refine zP g0 [0,3,4,5] [] 0 (fun M=>⟨[(0,zl 6 i),(3,zi j),(4,(.lbox [zi p,zi q,zi r,zi l,zi s,zi m])),(5,zi M)],[],80⟩) ⟨rfl,zv⟩ ?_;rintro M v0 c;dsimp only [b1T] at c;refine zs (zs (zA (nT ?_)));rcases tf (A.zlt M j) with K | K
    ·replace c:=cT K c;refine zT (zk (nT (zs (zb (zs ?_)))));refine zQ ?_;obtain ⟨⟨o0,p0,q0,r0,s0,u0⟩,b0,c⟩:=a0a c;obtain ⟨z0,a1⟩:=gtI b0;obtain ⟨n0,d0,c⟩:=a0a c;refine a1h.c0 hT hA {} rfl zu (c4f hA d0) rfl rfl (lb rfl) rfl rfl ?_;refine zJ ?_;refine nT ?_;rcases tf n0 with u | u
     ·replace c:=cT u c;refine zT (zs ?_);refine zB (nT (zr (rB (rT (rT ?_)))));refine exL c ?_;rintro rfl;refine oxR ?_;replace k:=(eR (N _ k));refine rB (rB (rT (rT ?_)));refine exL k ?_;rintro rfl;refine oxR ?_;replace g:=(eR (o _ g));refine rB (rT ?_);cases soI g;exact zq
     replace c:=cF u c;refine zU (zk (nB (nT ?_)));refine zB ?_;exact nT ⟨_,(soI c).symm,rfl,zv⟩
    replace c:=cF K c;refine zU (AWp.exit (xT (xT ?_)));refine exL c ?_;rintro rfl;exact oxI ⟨rfl,k,zv⟩
   rintro _ ⟨k,rfl⟩;have b:=(eL (N _ k));refine xB (nB (nT (zA ?_)));exact nT ⟨_,(soI b).symm,rfl,zc⟩
  replace b:=cF w b;refine zU (AWp.exit (xT (xT ?_)));refine exL b ?_;rintro rfl;exact oxI ⟨rfl,g,zv⟩
 rintro _ ⟨g,rfl⟩;have h:=(eL (o _ g));refine xB (nT (zs (zA (nT (zr ?_)))));cases soI h;exact zq
end Go.Am
