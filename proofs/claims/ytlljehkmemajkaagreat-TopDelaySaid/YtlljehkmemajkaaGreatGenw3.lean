import Derived.Test.YtlljehkmemajkaaGreatGenw2
set_option maxRecDepth 100000
set_option maxHeartbeats 2000000
set_option linter.unusedVariables false
set_option linter.unusedSimpArgs false
namespace Go.Am
open Go Go.Proofs
theorem c4H {A:Ar} (hA:SA A) {b j:List D} (h:N40 A b=some j):a0e Tryz.prog 40 [zl 3 b] [] (.own 3 j) []:=by
 unfold N40 at h;refine zI Tryz.func40 ?_;refine zs (zA (nT (zs ?_)));refine zA (nT (zs (zs ?_)));refine zA (nT (zb ?_));obtain ⟨E,q,l,p,e⟩:=a0m h;refine zM 0 [3] [] 0 (fun τ => ∃ i,l i=some j/\τ=⟨[(3,(.own 3 i))],[],18⟩) ?_ ?_
 ·refine zP q [3,6,7,8] [] 0 (fun (k,g)=>⟨[(3,(.own 3 k)),(6,zl 3 b),(7,(.d (.int .i64 (A.len b)))),(8,zi g)],[],18⟩) ⟨rfl,zc⟩ ?_;rintro ⟨k,g⟩ v a;dsimp only [b1x] at a;refine zs (zA (nT (zs ?_)));rcases tf (A.zlt g (A.len b)) with c | c
  ·replace a:=cT c a;refine zT (zk (nT (zs (zb (zs ?_)))));obtain ⟨⟨r,s,u⟩,m,a⟩:=a0a a;obtain ⟨w,y⟩:=gtI m;refine zB (nT ?_) { tk:=[11] };obtain ⟨C,o,a⟩:=a0a a;obtain ⟨z,B⟩:=apI o;refine zB (nB (nT ?_)) { tk:=[3,15] };refine zB ?_;exact nT ⟨_,(soI a).symm,rfl,zv⟩
  replace a:=cF c a;refine zU (AWp.exit (xT (xT ?_)));refine exL a ?_;rintro rfl;exact oxI ⟨rfl,_,e,zv⟩
 rintro _ ⟨i,e,rfl⟩;have h:=(p _ e);refine xB (nT (zs (zA (nT (zr ?_)) { tk:=[3,17] })));cases soI h;exact zq

theorem c4I {A:Ar} (hA:SA A) {e c:List D} {b:Int} (h:N15 A e=some (c,b)):a0e Tryz.prog 15 [zl 1 e] [] (.tuple [zl 3 c,zi b]) []:=by
 unfold N15 at h;refine zI Tryz.func15 ?_;refine zs (zA (nT (zs (zs (zn ?_)))));obtain ⟨k,g,h⟩:=a0a h;refine zC (c2f hA g) ?_;refine zE (nT ?_);rcases tf k with a | a
 ·replace h:=cT a h;refine zU (zk (nT (zs (zn ?_))));obtain ⟨l,i,h⟩:=a0a h;refine zD (c2h hA i) ?_;obtain ⟨m,j,h⟩:=a0a h;refine zD (c4H hA j) ?_;refine zF (nT (zr ?_));cases soI h;exact zq
 replace h:=cF a h;refine zT (zs ?_);refine zB (nT (zr (rT ?_)));cases soI h;exact zq

theorem c4J {A:Ar} (hA:SA A) {e g:List D} {c:Int} (h:N41 A e g=some c):a0e Tryz.prog 41 [zl 1 e,zl 1 g] [] (zi c) []:=by
 unfold N41 at h;refine zI Tryz.func41 ?_;refine zs (zA (nT (zs (zs (zn ?_)))));obtain ⟨k,i,h⟩:=a0a h;refine zC (c2B hA i) ?_;refine zE (nT ?_);rcases tf k with a | a
 ·replace h:=cT a h;refine zU (zk (nT (zs (zs (zn ?_)))));obtain ⟨l,j,h⟩:=a0a h;refine zD (c2C hA j) ?_;refine zF (nT ?_);rcases tf l with b | b
  ·replace h:=cT b h;refine zU (zk (nT (zs ?_)));refine zB (nT (zr ?_));cases soI h;exact zq
  replace h:=cF b h;refine zT (zs ?_);refine zB (nT (zr (rT ?_)));cases soI h;exact zq
 replace h:=cF a h;refine zT (zs ?_);refine zB (nT (zr (rT ?_)));cases soI h;exact zq

theorem b5e {A:Ar} (hA:SA A) {i:List D} {b j:Int} {k:Bool} (h:b4Z A i b j=some k):a0e Tryz.prog 116 [zl 1 i,zi b,zi j] [] (.d (.bool k)) []:=by
 unfold b4Z at h;refine zI Tryz.func116 ?_;refine zs (zA (nT (zs ?_)));obtain ⟨m,a,h⟩:=a0a h;refine zN [6] [] 0 (fun τ=>τ=⟨[(6,.d (.bool m))],[],28⟩) ?_ ?_
 ·rcases tf (A.zle 0 b) with c | c
  ·replace a:=cT c a;rcases tf (A.zlt b (A.len i)) with e | e
   ·replace a:=cT e a;rcases tf (A.zle 0 j) with g | g
    ·replace a:=cT g a;obtain ⟨o,l,a⟩:=a0a a;obtain ⟨q,p⟩:=gtI l;refine zB ?_ { tk:=[27] };cases soI a;exact zO
    replace a:=cF g a;refine zB ?_ { tk:=[27] };cases soI a;exact zO
   replace a:=cF e a;refine zB ?_ { tk:=[27] };cases soI a;exact zO
  replace a:=cF c a;refine zB ?_ { tk:=[27] };cases soI a;exact zO
 rintro _ rfl;refine nT (zr ?_);cases soI h;exact zq

theorem c0b {A:Ar} (hA:SA A) {k:List D} {l g i:Int} {j:Bool} (h:b6M A k l g i=some j):a0e Tryz.prog 115 [zl 1 k,.d (.agg [.int .i64 l,.int .i64 g,.int .i64 i])] [] (.d (.bool j)) []:=by
 unfold b6M at h;refine zI Tryz.func115 ?_;refine zs (zA (nT (zs ?_)));obtain ⟨v,a,h⟩:=a0a h;refine zN [4] [] 0 (fun τ=>τ=⟨[(4,.d (.bool v))],[],49⟩) ?_ ?_
 ·refine zQ ?_;obtain ⟨s,q,a⟩:=a0a a;refine a0W.c0 hT hA { tk:=[48] } rfl zc (b5e hA q) rfl rfl (lb rfl) rfl rfl ?_;rcases tf s with e | e
  ·replace a:=cT e a;obtain ⟨u,r,a⟩:=a0a a;refine a0W.c0 hT hA { tk:=[48] } rfl zu (b5e hA r) rfl rfl (lb rfl) rfl rfl ?_;rcases tf u with b | b
   ·replace a:=cT b a;rcases tf (A.zlt g i) with c | c
    ·replace a:=cT c a;obtain ⟨w,m,a⟩:=a0a a;obtain ⟨E,F⟩:=gtI m;obtain ⟨⟨y,z⟩,o,a⟩:=a0a a;obtain ⟨G,J⟩:=gtI o;obtain ⟨⟨B,C⟩,p,a⟩:=a0a a;obtain ⟨K,L⟩:=gtI p;refine zJ ?_ { tk:=[48] };cases soI a;exact zO
    replace a:=cF c a;refine zJ ?_ { tk:=[48] };cases soI a;exact zO
   replace a:=cF b a;refine zJ ?_ { tk:=[48] };cases soI a;exact zO
  replace a:=cF e a;refine zJ ?_ { tk:=[48] };cases soI a;exact zO
 rintro _ rfl;refine nT (zr ?_);cases soI h;exact zq

theorem c3U {A:Ar} (hA:SA A) {a E:List D} (h:N78 A a=some E):a0e Tryz.prog 78 [zl 1 a] [] (.own 3 E) []:=by
 unfold N78 at h;refine zI Tryz.func78 ?_;refine zs (zA (nT (zs ?_)));refine zA (nT (zs (zs ?_)));refine zA (nT (zb ?_));obtain ⟨m0,Y,M,V,w⟩:=a0m h;refine zM 0 [3] [] 0 (fun τ => ∃ C,M C=some E/\τ=⟨[(3,(.own 3 C))],[],46⟩) ?_ ?_
 ·refine zP Y [0,3,9,10,11] [] 0 (fun (G,c)=>⟨[(0,zl 1 a),(3,(.own 3 G)),(9,zl 1 a),(10,(.d (.int .i64 (A.len a)))),(11,zi c)],[],46⟩) ⟨rfl,zc⟩ ?_;rintro ⟨G,c⟩ R i;dsimp only [b1A] at i;refine zs (zA (nT (zs ?_)));rcases tf (A.zlt c (A.len a)) with r | r
  ·replace i:=cT r i;refine zT (zk (nT (zs (zb (zs ?_)))));obtain ⟨b,P,i⟩:=a0a i;obtain ⟨e0,g0⟩:=gtI P;refine zB (nT (zs ?_));refine zB (nT (zb ?_));obtain ⟨l0,X,L,U,v⟩:=a0m i;refine zM 2 [0,3,9,10,11] [] 0 (fun τ => ∃ B,L B=some R/\τ=⟨[(0,zl 1 a),(3,(.own 3 B)),(9,zl 1 a),(10,(.d (.int .i64 (A.len a)))),(11,zi c)],[],46⟩) ?_ ?_
   ·refine zP X [0,3,4,5,9,10,11,17,18] [] 0 (fun (J,e)=>⟨[(0,zl 1 a),(3,(.own 3 J)),(4,zi c),(5,zl 2 b),(9,zl 1 a),(10,(.d (.int .i64 (A.len a)))),(11,zi c),(17,(.d (.int .i64 (A.len b)))),(18,zi e)],[],46⟩) ⟨rfl,zv⟩ ?_;rintro ⟨J,e⟩ Q j;dsimp only [b1z] at j;refine zs (zA (nT (zs ?_)));rcases tf (A.zlt e (A.len b)) with s | s
    ·replace j:=cT s j;refine zT (zk (nT (zs (zb (zs ?_)))));refine zB (nT (zs ?_));refine zB (nT (zb ?_));obtain ⟨k0,W,K,S,u⟩:=a0m j;refine zM 4 [0,3,4,5,9,10,11,17,18] [] 0 (fun τ => ∃ z,K z=some Q/\τ=⟨[(0,zl 1 a),(3,(.own 3 z)),(4,zi c),(5,zl 2 b),(9,zl 1 a),(10,(.d (.int .i64 (A.len a)))),(11,zi c),(17,(.d (.int .i64 (A.len b)))),(18,zi e)],[],46⟩) ?_ ?_
     ·refine zP W [0,3,4,5,6,9,10,11,17,18,22,23] [] 0 (fun (y,m)=>⟨[(0,zl 1 a),(3,(.own 3 y)),(4,zi c),(5,zl 2 b),(6,zi e),(9,zl 1 a),(10,(.d (.int .i64 (A.len a)))),(11,zi c),(17,(.d (.int .i64 (A.len b)))),(18,zi e),(22,(.d (.int .i64 (A.len b)))),(23,zi m)],[],46⟩) ⟨rfl,zv⟩ ?_;rintro ⟨y,m⟩ b0 g;dsimp only [b1y] at g;refine zs (zA (nT (zs ?_)));rcases tf (A.zlt m (A.len b)) with o | o
      ·replace g:=cT o g;refine zT (zk (nT (zs (zb (zs ?_)))));refine zB (nT (zs ?_));refine zB (nT (zs ?_)) { tk:=[29] };obtain ⟨F,k,g⟩:=a0a g;refine zN [0,3,4,5,6,8,9,10,11,17,18,22,23,37] [] 0 (fun τ=>τ=⟨[(0,zl 1 a),(3,(.own 3 y)),(4,zi c),(5,zl 2 b),(6,zi e),(8,(.lbox [zi c,zi e,zi m])),(9,zl 1 a),(10,(.d (.int .i64 (A.len a)))),(11,zi c),(17,(.d (.int .i64 (A.len b)))),(18,zi e),(22,(.d (.int .i64 (A.len b)))),(23,zi m),(37,.d (.bool F))],[],46⟩) ?_ ?_
       ·refine zn ?_;rcases tf (A.zeq e m) with p | p
        ·replace k:=cT p k;refine zF ?_;cases soI k;exact zO
        replace k:=cF p k;obtain ⟨j0,N,k⟩:=a0a k;refine zD (c0b hA N) ?_;refine zF ?_;cases soI k;exact zO
       rintro _ rfl;refine nT ?_;obtain ⟨a0,l,g⟩:=a0a g;refine zN [0,3,4,5,6,9,10,11,17,18,22,23] [] 0 (fun τ=>τ=⟨[(0,zl 1 a),(3,(.own 3 a0)),(4,zi c),(5,zl 2 b),(6,zi e),(9,zl 1 a),(10,(.d (.int .i64 (A.len a)))),(11,zi c),(17,(.d (.int .i64 (A.len b)))),(18,zi e),(22,(.d (.int .i64 (A.len b)))),(23,zi m)],[],46⟩) ?_ ?_
       ·rcases tf F with q | q
        ·replace l:=cT q l;refine zT ?_;obtain ⟨i0,O,l⟩:=a0a l;obtain ⟨c0,d0⟩:=apI O;refine zB ?_ { tk:=[3,41] };cases soI l;exact zO
        replace l:=cF q l;refine zU (zk ?_);cases soI l;exact zO
       rintro _ rfl;refine nB (nT (zA ?_));exact nT ⟨_,(soI g).symm,rfl,zc⟩
      replace g:=cF o g;refine zU (AWp.exit (xT (xT ?_)));refine exL g ?_;rintro rfl;exact oxI ⟨rfl,_,u,zv⟩
     rintro _ ⟨z,u,rfl⟩;have j:=(S _ u);refine xB (nB (nT (zA ?_)));exact nT ⟨_,(soI j).symm,rfl,zc⟩
    replace j:=cF s j;refine zU (AWp.exit (xT (xT ?_)));refine exL j ?_;rintro rfl;exact oxI ⟨rfl,_,v,zv⟩
   rintro _ ⟨B,v,rfl⟩;have i:=(U _ v);refine xB (nB (nT (zA ?_)));exact nT ⟨_,(soI i).symm,rfl,zc⟩
  replace i:=cF r i;refine zU (AWp.exit (xT (xT ?_)));refine exL i ?_;rintro rfl;exact oxI ⟨rfl,_,w,zv⟩
 rintro _ ⟨C,w,rfl⟩;have h:=(V _ w);refine xB (nT (zs (zA (nT (zr ?_)) { tk:=[3,45] })));cases soI h;exact zq

theorem c0c {A:Ar} (hA:SA A) {k:List D} {g l i m:Int} {j:Bool} (h:b7K A k g l i m=some j):a0e Tryz.prog 113 [zl 1 k,zi g,zi l,zi i,zi m] [] (.d (.bool j)) []:=by
 unfold b7K at h;refine zI Tryz.func113 ?_;refine zs (zA (nT (zs ?_)));obtain ⟨w,a,h⟩:=a0a h;refine zN [10] [] 0 (fun τ=>τ=⟨[(10,.d (.bool w))],[],53⟩) ?_ ?_
 ·rcases tf (A.zeq g i) with e | e
  ·replace a:=cT e a;refine zH ?_ { tk:=[52] };cases soI a;exact zO
  replace a:=cF e a;obtain ⟨B,v,a⟩:=a0a a;obtain ⟨M,C⟩:=gtI v;obtain ⟨⟨o,p⟩,r,a⟩:=a0a a;obtain ⟨E,F⟩:=gtI r;obtain ⟨y,s,a⟩:=a0a a;obtain ⟨G,J⟩:=gtI s;obtain ⟨⟨q,z⟩,u,a⟩:=a0a a;obtain ⟨K,L⟩:=gtI u;rcases tf (A.zeq o q) with b | b
  ·replace a:=cT b a;rcases tf p with c | c
   ·replace a:=cT c a;refine zH ?_ { tk:=[52] };cases soI a;exact zO
   replace a:=cF c a;refine zH ?_ { tk:=[52] };cases soI a;exact zO
  replace a:=cF b a;refine zH ?_ { tk:=[52] };cases soI a;exact zO
 rintro _ rfl;refine nT (zr ?_);cases soI h;exact zq

theorem c0d {A:Ar} (hA:SA A) {i a:List D} {v:Bool} (h:b9t A i a=some v):a0e Tryz.prog 114 [zl 1 i,zl 3 a] [] (.d (.bool v)) []:=by
 unfold b9t at h;refine zI Tryz.func114 ?_;refine zs (zA (nT (zs (zs ?_))));obtain ⟨V,o,h⟩:=a0a h;refine zN [0,1,20] [] 0 (fun τ=>τ=⟨[(0,zl 1 i),(1,zl 3 a),(20,.d (.bool V))],[],99⟩) ?_ ?_
 ·rcases tf (A.zlt (A.len a) 2) with B | B
  ·replace o:=cT B o;refine zB ?_;cases soI o;exact zO
  replace o:=cF B o;refine zB ?_;cases soI o;exact zO
 rintro _ rfl;refine nT ?_;rcases tf V with G | G
 ·replace h:=cT G h;refine zT (zs ?_);refine zB (nT (zr (rT ?_)));cases soI h;exact zq
 replace h:=cF G h;refine zU (zk (nT (zs ?_)));refine zB (nT (zs (zs ?_)));refine zB (nT (zb ?_));obtain ⟨z1,q0,a0,N,j⟩:=a0m h;refine zM 0 [0,1,5] [] 0 (fun τ => ∃ q,a0 (.inl q)=some v/\τ=⟨[(0,zl 1 i),(1,zl 3 a),(5,.d (.bool q))],[],99⟩) ?_ ?_
 ·refine zP q0 [0,1,5,21,22,23] [] 0 (fun (w,k)=>⟨[(0,zl 1 i),(1,zl 3 a),(5,.d (.bool w)),(21,zl 3 a),(22,(.d (.int .i64 (A.len a)))),(23,zi k)],[],99⟩) ⟨rfl,zv⟩ ?_;rintro ⟨w,k⟩ n0 b;dsimp only [a5u] at b;refine zs (zA (nT (zs ?_)));rcases tf (A.zlt k (A.len a)) with C | C
  ·replace b:=cT C b;refine zT (zk (nT (zs (zb (zs ?_)))));obtain ⟨⟨r,s,u⟩,i0,b⟩:=a0a b;obtain ⟨m1,n1⟩:=gtI i0;refine zB (nT (zs (zs ?_))) { tk:=[27] };obtain ⟨W,e,b⟩:=a0a b;refine zN [0,1,5,6,7,21,22,23,47] [] 0 (fun τ=>τ=⟨[(0,zl 1 i),(1,zl 3 a),(5,.d (.bool w)),(6,zi k),(7,(.lbox [zi r,zi s,zi u])),(21,zl 3 a),(22,(.d (.int .i64 (A.len a)))),(23,zi k),(47,.d (.bool W))],[],99⟩) ?_ ?_
   ·refine zn ?_;obtain ⟨s0,j0,e⟩:=a0a e;refine zD (b5e hA j0) ?_;rcases tf s0 with E | E
    ·replace e:=cT E e;rcases tf (A.zeq s u) with F | F
     ·replace e:=cT F e;refine zF ?_;cases soI e;exact zO
     replace e:=cF F e;obtain ⟨v1,k0,e⟩:=a0a e;refine zD (c0b hA k0) ?_;refine zF ?_;cases soI e;exact zO
    replace e:=cF E e;refine zF ?_;cases soI e;exact zO
   rintro _ rfl;refine nT ?_;rcases tf W with J | J
   ·replace b:=cT J b;refine zT (zs ?_);refine zB (nT (zr (rT (rB (rT (rT ?_))))));refine exL b ?_;rintro rfl;refine oxR ?_;replace j:=(eR (N _ j));refine rB (rT ?_);cases soI j;exact zq
   replace b:=cF J b;refine zU (zk (nT (zs ?_)));obtain ⟨Q,p,b⟩:=a0a b;refine zN [0,1,5,6,7,21,22,23] [] 0 (fun τ=>τ=⟨[(0,zl 1 i),(1,zl 3 a),(5,.d (.bool Q)),(6,zi k),(7,(.lbox [zi r,zi s,zi u])),(21,zl 3 a),(22,(.d (.int .i64 (A.len a)))),(23,zi k)],[],99⟩) ?_ ?_
   ·rcases tf w with K | K
    ·replace p:=cT K p;refine zB ?_ { tk:=[55] };cases soI p;exact zO
    replace p:=cF K p;refine zB ?_ { tk:=[55] };cases soI p;exact zO
   rintro _ rfl;refine nT (zs ?_);obtain ⟨O,l0,b⟩:=a0a b;obtain ⟨o1,p1,q1,r1⟩:=slI l0;refine zB (nT (zb ?_));obtain ⟨y1,p0,Y,U,m⟩:=a0m b;refine zM 2 [0,1,5,21,22,23] [] 0 (fun τ=>Y (.inl ())=some n0/\τ=⟨[(0,zl 1 i),(1,zl 3 a),(5,.d (.bool Q)),(21,zl 3 a),(22,(.d (.int .i64 (A.len a)))),(23,zi k)],[],99⟩) ?_ ?_
   ·refine zP p0 [0,1,5,7,21,22,23,58,59,60] [] 0 (fun R=>⟨[(0,zl 1 i),(1,zl 3 a),(5,.d (.bool Q)),(7,(.lbox [zi r,zi s,zi u])),(21,zl 3 a),(22,(.d (.int .i64 (A.len a)))),(23,zi k),(58,zl 3 O),(59,(.d (.int .i64 (A.len O)))),(60,zi R)],[],99⟩) ⟨rfl,zc⟩ ?_;rintro R e1 g;dsimp only [a6y] at g;refine zs (zA (nT (zs ?_)));rcases tf (A.zlt R (A.len O)) with L | L
    ·replace g:=cT L g;refine zT (zk (nT (zs (zb (zs ?_)))));obtain ⟨⟨b0,b1,c1⟩,m0,g⟩:=a0a g;obtain ⟨s1,u1⟩:=gtI m0;refine zB (nT (zs ?_)) { tk:=[63] };refine zB (nT ?_);rcases tf (A.zeq b0 r) with M | M
     ·replace g:=cT M g;refine zT (zs ?_);refine zB (nT (zr (rB (rT (rT ?_)))));refine exL g ?_;rintro rfl;refine oxR ?_;replace m:=(eR (U _ m));refine rB (rB (rT (rT ?_)));refine exL m ?_;rintro rfl;refine oxR ?_;replace j:=(eR (N _ j));refine rB (rT ?_);cases soI j;exact zq
     replace g:=cF M g;refine zU (zk (nB (nT ?_)));refine zB ?_;exact nT ⟨_,(soI g).symm,rfl,zv⟩
    replace g:=cF L g;refine zU (AWp.exit (xT (xT ?_)));refine exL g ?_;rintro rfl;exact oxI ⟨rfl,m,zv⟩
   rintro _ ⟨m,rfl⟩;have b:=(eL (U _ m));refine xB (nB (nT (zA ?_)));exact nT ⟨_,(soI b).symm,rfl,zc⟩
  replace b:=cF C b;refine zU (AWp.exit (xT (xT ?_)));refine exL b ?_;rintro rfl;exact oxI ⟨rfl,_,j,zv⟩
 rintro _ ⟨q,j,rfl⟩;have h:=(eL (N _ j));refine xB (nT (zs (zs (zA (nT (zb ?_))))));obtain ⟨w1,o0,X,S,l⟩:=a0m h;refine zM 4 [5] [] 0 (fun τ=>X (.inl ())=some v/\τ=⟨[(5,.d (.bool q))],[],99⟩) ?_ ?_
 ·refine zP o0 [0,1,5,71,72,73] [] 0 (fun P=>⟨[(0,zl 1 i),(1,zl 3 a),(5,.d (.bool q)),(71,zl 3 a),(72,(.d (.int .i64 (A.len a)))),(73,zi P)],[],99⟩) ⟨rfl,zc⟩ ?_;rintro P d1 c;dsimp only [a5v] at c;refine zs (zA (nT (zs ?_)));rcases tf (A.zlt P (A.len a)) with y | y
  ·replace c:=cT y c;refine zT (zk (nT (zs (zb (zs ?_)))));obtain ⟨⟨u0,v0,w0⟩,c0,c⟩:=a0a c;obtain ⟨g1,i1⟩:=gtI c0;refine zB (nT (zs ?_)) { tk:=[77] };obtain ⟨_,d0,c⟩:=a0a c;have j1:=nkI d0;obtain ⟨⟨y0,z0,a1⟩,e0,c⟩:=a0a c;obtain ⟨k1,l1⟩:=gtI e0;refine zB (nT (zs (zn ?_))) { tk:=[85] };obtain ⟨r0,g0,c⟩:=a0a c;refine zD (c0c hA g0) ?_;refine zF (nT ?_);rcases tf r0 with z | z
   ·replace c:=cT z c;refine zU (zk (nB (nT ?_)));refine zB ?_;exact nT ⟨_,(soI c).symm,rfl,zv⟩
   replace c:=cF z c;refine zT (zs ?_);refine zB (nT (zr (rB (rT (rT ?_)))));refine exL c ?_;rintro rfl;refine oxR ?_;replace l:=(eR (S _ l));refine rB (rT ?_);cases soI l;exact zq
  replace c:=cF y c;refine zU (AWp.exit (xT (xT ?_)));refine exL c ?_;rintro rfl;exact oxI ⟨rfl,l,zv⟩
 rintro _ ⟨l,rfl⟩;have h:=(eL (S _ l));refine xB (nT (zs (zA (nT (zr ?_)) { tk:=[5,98] })));cases soI h;exact zq

theorem c4K {A:Ar} (hA:SA A) {i Q:List D} (h:N77 A i=some Q):a0e Tryz.prog 77 [zl 1 i] [] (.own 1 Q) []:=by
 unfold N77 at h;refine zI Tryz.func77 ?_;refine zs (zA (nT (zs ?_)));refine zA (nT (zs (zn ?_)));obtain ⟨a,e2,h⟩:=a0a h;refine zC (c3U hA e2) ?_;refine zE (nT (zs (zs ?_)));refine zA (nT (zb ?_));obtain ⟨u1,q0,Y,n0,L⟩:=a0m h;refine zM 0 [3] [] 0 (fun τ => ∃ P,Y P=some Q/\τ=⟨[(3,(.own 1 P))],[],76⟩) ?_ ?_
 ·refine zP q0 [0,3,4,15,16,17] [] 0 (fun (R,g)=>⟨[(0,zl 1 i),(3,(.own 1 R)),(4,zl 3 a),(15,zl 3 a),(16,(.d (.int .i64 (A.len a)))),(17,zi g)],[],76⟩) ⟨rfl,zc⟩ ?_;rintro ⟨R,g⟩ k0 e;dsimp only [b2w] at e;refine zs (zA (nT (zs ?_)));rcases tf (A.zlt g (A.len a)) with y | y
  ·replace e:=cT y e;refine zT (zk (nT (zs (zb (zs ?_)))));obtain ⟨⟨l,q,r⟩,a0,e⟩:=a0a e;obtain ⟨c1,d1⟩:=gtI a0;refine zB (nT (zs ?_)) { tk:=[20] };refine zB (nT (zb ?_));obtain ⟨s1,p0,X,m0,K⟩:=a0m e;refine zM 2 [0,3,4,15,16,17] [] 0 (fun τ => ∃ O,X O=some k0/\τ=⟨[(0,zl 1 i),(3,(.own 1 O)),(4,zl 3 a),(15,zl 3 a),(16,(.d (.int .i64 (A.len a)))),(17,zi g)],[],76⟩) ?_ ?_
   ·refine zP p0 [0,3,4,6,15,16,17,21,22,23] [] 0 (fun (M,k)=>⟨[(0,zl 1 i),(3,(.own 1 M)),(4,zl 3 a),(6,(.lbox [zi l,zi q,zi r])),(15,zl 3 a),(16,(.d (.int .i64 (A.len a)))),(17,zi g),(21,zl 3 a),(22,(.d (.int .i64 (A.len a)))),(23,zi k)],[],76⟩) ⟨rfl,zv⟩ ?_;rintro ⟨M,k⟩ b1 j;dsimp only [b2v] at j;refine zs (zA (nT (zs ?_)));rcases tf (A.zlt k (A.len a)) with z | z
    ·replace j:=cT z j;refine zT (zk (nT (zs ?_)));obtain ⟨V,b,j⟩:=a0a j;refine zN [0,3,4,6,15,16,17,21,22,23] [] 0 (fun τ=>τ=⟨[(0,zl 1 i),(3,(.own 1 V)),(4,zl 3 a),(6,(.lbox [zi l,zi q,zi r])),(15,zl 3 a),(16,(.d (.int .i64 (A.len a)))),(17,zi g),(21,zl 3 a),(22,(.d (.int .i64 (A.len a)))),(23,zi k)],[],76⟩) ?_ ?_
     ·refine zb (zs ?_);obtain ⟨⟨s,u,v⟩,b0,b⟩:=a0a b;obtain ⟨e1,g1⟩:=gtI b0;refine zB (nT (zs (zs ?_))) { tk:=[26] };obtain ⟨S,m,b⟩:=a0a b;refine zN [0,3,4,6,8,15,16,17,21,22,23,44] [] 0 (fun τ=>τ=⟨[(0,zl 1 i),(3,(.own 1 M)),(4,zl 3 a),(6,(.lbox [zi l,zi q,zi r])),(8,(.lbox [zi s,zi u,zi v])),(15,zl 3 a),(16,(.d (.int .i64 (A.len a)))),(17,zi g),(21,zl 3 a),(22,(.d (.int .i64 (A.len a)))),(23,zi k),(44,.d (.bool S))],[],76⟩) ?_ ?_
      ·refine zn ?_;rcases tf (A.zeq l s) with B | B
       ·replace m:=cT B m;refine zF ?_;cases soI m;exact zO
       replace m:=cF B m;obtain ⟨q1,c0,m⟩:=a0a m;refine zD (c0c hA c0) ?_;refine zF ?_;cases soI m;exact zO
      rintro _ rfl;refine nT ?_;rcases tf S with C | C
      ·replace b:=cT C b;refine zT (AWp.exit (xT (xB ?_)));cases soI b;exact zO
      replace b:=cF C b;refine zU (zk (nT (zs (zs ?_))));refine zB (nT (zs (zn ?_)));obtain ⟨r0,d0,b⟩:=a0a b;refine zD (c0d hA d0) ?_;refine zF (nT ?_);obtain ⟨u0,o,b⟩:=a0a b;refine zN [0,3,4,6,8,15,16,17,21,22,23] [] 0 (fun τ=>τ=⟨[(0,zl 1 i),(3,(.own 1 u0)),(4,zl 3 a),(6,(.lbox [zi l,zi q,zi r])),(8,(.lbox [zi s,zi u,zi v])),(15,zl 3 a),(16,(.d (.int .i64 (A.len a)))),(17,zi g),(21,zl 3 a),(22,(.d (.int .i64 (A.len a)))),(23,zi k)],[],76⟩) ?_ ?_
      ·rcases tf r0 with E | E
       ·replace o:=cT E o;refine zT ?_;obtain ⟨o1,e0,o⟩:=a0a o;obtain ⟨i1,j1⟩:=apI e0;refine zB ?_ { tk:=[3,54] };cases soI o;exact zO
       replace o:=cF E o;refine zU (zk ?_);cases soI o;exact zO
      rintro _ rfl;refine nT (zs (zA (nT (zb ?_))));obtain ⟨r1,o0,W,l0,J⟩:=a0m b;refine zM 4 [0,3,4,6,15,16,17,21,22,23] [] 0 (fun τ => ∃ N,W N=some V/\τ=⟨[(0,zl 1 i),(3,(.own 1 N)),(4,zl 3 a),(6,(.lbox [zi l,zi q,zi r])),(15,zl 3 a),(16,(.d (.int .i64 (A.len a)))),(17,zi g),(21,zl 3 a),(22,(.d (.int .i64 (A.len a)))),(23,zi k)],[],76⟩) ?_ ?_
      ·refine zP o0 [0,3,4,6,8,15,16,17,21,22,23,55,56,57] [] 0 (fun (U,w)=>⟨[(0,zl 1 i),(3,(.own 1 U)),(4,zl 3 a),(6,(.lbox [zi l,zi q,zi r])),(8,(.lbox [zi s,zi u,zi v])),(15,zl 3 a),(16,(.d (.int .i64 (A.len a)))),(17,zi g),(21,zl 3 a),(22,(.d (.int .i64 (A.len a)))),(23,zi k),(55,zl 3 a),(56,(.d (.int .i64 (A.len a)))),(57,zi w)],[],76⟩) ⟨rfl,zc⟩ ?_;rintro ⟨U,w⟩ a1 c;dsimp only [b2u] at c;refine zs (zA (nT (zs ?_)));rcases tf (A.zlt w (A.len a)) with F | F
       ·replace c:=cT F c;refine zT (zk (nT (zs (zb (zs ?_)))));obtain ⟨⟨w0,y0,z0⟩,g0,c⟩:=a0a c;obtain ⟨k1,l1⟩:=gtI g0;refine zB (nT (zs ?_)) { tk:=[60] };refine zB (nT (zs (zn ?_)));obtain ⟨s0,i0,c⟩:=a0a c;refine zD (c0d hA i0) ?_;refine zF (nT ?_);obtain ⟨v0,p,c⟩:=a0a c;refine zN [0,3,4,6,8,15,16,17,21,22,23,55,56,57] [] 0 (fun τ=>τ=⟨[(0,zl 1 i),(3,(.own 1 v0)),(4,zl 3 a),(6,(.lbox [zi l,zi q,zi r])),(8,(.lbox [zi s,zi u,zi v])),(15,zl 3 a),(16,(.d (.int .i64 (A.len a)))),(17,zi g),(21,zl 3 a),(22,(.d (.int .i64 (A.len a)))),(23,zi k),(55,zl 3 a),(56,(.d (.int .i64 (A.len a)))),(57,zi w)],[],76⟩) ?_ ?_
        ·rcases tf s0 with G | G
         ·replace p:=cT G p;refine zT ?_;obtain ⟨p1,j0,p⟩:=a0a p;obtain ⟨m1,n1⟩:=apI j0;refine zB ?_ { tk:=[3,71] };cases soI p;exact zO
         replace p:=cF G p;refine zU (zk ?_);cases soI p;exact zO
        rintro _ rfl;refine nB (nT (zA ?_));exact nT ⟨_,(soI c).symm,rfl,zc⟩
       replace c:=cF F c;refine zU (AWp.exit (xT (xT ?_)));refine exL c ?_;rintro rfl;exact oxI ⟨rfl,_,J,zv⟩
      rintro _ ⟨N,J,rfl⟩;have b:=(l0 _ J);refine xB (nB ?_);cases soI b;exact zO
     rintro _ rfl;refine nT (zA ?_);exact nT ⟨_,(soI j).symm,rfl,zc⟩
    replace j:=cF z j;refine zU (AWp.exit (xT (xT ?_)));refine exL j ?_;rintro rfl;exact oxI ⟨rfl,_,K,zv⟩
   rintro _ ⟨O,K,rfl⟩;have e:=(m0 _ K);refine xB (nB (nT (zA ?_)));exact nT ⟨_,(soI e).symm,rfl,zc⟩
  replace e:=cF y e;refine zU (AWp.exit (xT (xT ?_)));refine exL e ?_;rintro rfl;exact oxI ⟨rfl,_,L,zv⟩
 rintro _ ⟨P,L,rfl⟩;have h:=(n0 _ L);refine xB (nT (zs (zA (nT (zr ?_)) { tk:=[3,75] })));cases soI h;exact zq

theorem c4L {A:Ar} (hA:SA A) {O M:List D} (h:N42 A O=some M):a0e Tryz.prog 42 [zl 1 O] [] (.own 3 M) []:=by
 unfold N42 at h;refine zI Tryz.func42 ?_;refine zs (zA (nT (zs ?_)));refine zA (nT (zs (zn ?_)));obtain ⟨a,e2,h⟩:=a0a h;refine zC (c4K hA e2) ?_;refine zE (nT (zs (zs (zn ?_))));obtain ⟨b,e4,h⟩:=a0a h;refine zC (c3U hA e4) ?_;refine zE (nT (zb ?_));obtain ⟨b1,k0,R,g0,G⟩:=a0m h;refine zM 0 [3] [] 0 (fun τ => ∃ L,R L=some M/\τ=⟨[(3,(.own 3 L))],[],55⟩) ?_ ?_
 ·refine zP k0 [3,4,15,16,17] [] 0 (fun (l,j)=>⟨[(3,(.own 3 l)),(4,zl 1 a),(15,(.own 3 b)),(16,(.d (.int .i64 (A.len b)))),(17,zi j)],[],55⟩) ⟨rfl,zc⟩ ?_;rintro ⟨l,j⟩ c0 c;dsimp only [b2x] at c;refine zs (zA (nT (zs ?_)));rcases tf (A.zlt j (A.len b)) with C | C
  ·replace c:=cT C c;refine zT (zk (nT (zs (zb (zs ?_)))));obtain ⟨⟨m,o,p⟩,a0,c⟩:=a0a c;obtain ⟨v0,w0⟩:=gtI a0;refine zB (nT (zs ?_)) { tk:=[20] };refine zB (nT (zs (zs ?_)));refine zB (nT (zb ?_));obtain ⟨a1,j0,Q,e0,F⟩:=a0m c;refine zM 2 [3,4,6,7,15,16,17] [] 0 (fun τ => ∃ u,Q u=some c0/\τ=⟨[(3,(.own 3 l)),(4,zl 1 a),(6,(.lbox [zi m,zi o,zi p])),(7,.d (.bool u)),(15,(.own 3 b)),(16,(.d (.int .i64 (A.len b)))),(17,zi j)],[],55⟩) ?_ ?_
   ·refine zP j0 [3,4,6,7,15,16,17,21,22,23] [] 0 (fun (N,q)=>⟨[(3,(.own 3 l)),(4,zl 1 a),(6,(.lbox [zi m,zi o,zi p])),(7,.d (.bool N)),(15,(.own 3 b)),(16,(.d (.int .i64 (A.len b)))),(17,zi j),(21,zl 1 a),(22,(.d (.int .i64 (A.len a)))),(23,zi q)],[],55⟩) ⟨rfl,zv⟩ ?_;rintro ⟨N,q⟩ b0 g;dsimp only [b1C] at g;refine zs (zA (nT (zs ?_)));rcases tf (A.zlt q (A.len a)) with v | v
    ·replace g:=cT v g;refine zT (zk (nT (zs (zb (zs ?_)))));obtain ⟨r,W,g⟩:=a0a g;obtain ⟨o0,p0⟩:=gtI W;refine zB (nT (zs ?_));refine zB (nT (zb ?_));obtain ⟨z0,i0,P,d0,E⟩:=a0m g;refine zM 4 [3,4,6,7,15,16,17,21,22,23] [] 0 (fun τ => ∃ K,P K=some b0/\τ=⟨[(3,(.own 3 l)),(4,zl 1 a),(6,(.lbox [zi m,zi o,zi p])),(7,.d (.bool K)),(15,(.own 3 b)),(16,(.d (.int .i64 (A.len b)))),(17,zi j),(21,zl 1 a),(22,(.d (.int .i64 (A.len a)))),(23,zi q)],[],55⟩) ?_ ?_
     ·refine zP i0 [3,4,6,7,15,16,17,21,22,23,27,28,29] [] 0 (fun (J,s)=>⟨[(3,(.own 3 l)),(4,zl 1 a),(6,(.lbox [zi m,zi o,zi p])),(7,.d (.bool J)),(15,(.own 3 b)),(16,(.d (.int .i64 (A.len b)))),(17,zi j),(21,zl 1 a),(22,(.d (.int .i64 (A.len a)))),(23,zi q),(27,zl 3 r),(28,(.d (.int .i64 (A.len r)))),(29,zi s)],[],55⟩) ⟨rfl,zv⟩ ?_;rintro ⟨J,s⟩ n0 e;dsimp only [b1B] at e;refine zs (zA (nT (zs ?_)));rcases tf (A.zlt s (A.len r)) with w | w
      ·replace e:=cT w e;refine zT (zk (nT (zs (zb (zs ?_)))));obtain ⟨⟨S,U,V⟩,X,e⟩:=a0a e;obtain ⟨q0,r0⟩:=gtI X;refine zB (nT ?_) { tk:=[32] };obtain ⟨l0,i,e⟩:=a0a e;refine zN [3,4,6,7,15,16,17,21,22,23,27,28,29] [] 0 (fun τ=>τ=⟨[(3,(.own 3 l)),(4,zl 1 a),(6,(.lbox [zi m,zi o,zi p])),(7,.d (.bool l0)),(15,(.own 3 b)),(16,(.d (.int .i64 (A.len b)))),(17,zi j),(21,zl 1 a),(22,(.d (.int .i64 (A.len a)))),(23,zi q),(27,zl 3 r),(28,(.d (.int .i64 (A.len r)))),(29,zi s)],[],55⟩) ?_ ?_
       ·rcases tf J with y | y
        ·replace i:=cT y i;refine zB ?_;cases soI i;exact zO
        replace i:=cF y i;rcases tf (A.deq [.int .i64 S,.int .i64 U,.int .i64 V] [.int .i64 m,.int .i64 o,.int .i64 p]) with z | z
        ·replace i:=cT z i;refine zB ?_;cases soI i;exact zO
        replace i:=cF z i;refine zB ?_;cases soI i;exact zO
       rintro _ rfl;refine nB (nT (zA ?_));exact nT ⟨_,(soI e).symm,rfl,zc⟩
      replace e:=cF w e;refine zU (AWp.exit (xT (xT ?_)));refine exL e ?_;rintro rfl;exact oxI ⟨rfl,_,E,zv⟩
     rintro _ ⟨K,E,rfl⟩;have g:=(d0 _ E);refine xB (nB (nT (zA ?_)));exact nT ⟨_,(soI g).symm,rfl,zc⟩
    replace g:=cF v g;refine zU (AWp.exit (xT (xT ?_)));refine exL g ?_;rintro rfl;exact oxI ⟨rfl,_,F,zv⟩
   rintro _ ⟨u,F,rfl⟩;have c:=(e0 _ F);refine xB (nT (zs (zA (nT ?_))));obtain ⟨m0,k,c⟩:=a0a c;refine zN [3,4,15,16,17] [] 0 (fun τ=>τ=⟨[(3,(.own 3 m0)),(4,zl 1 a),(15,(.own 3 b)),(16,(.d (.int .i64 (A.len b)))),(17,zi j)],[],55⟩) ?_ ?_
   ·rcases tf u with B | B
    ·replace k:=cT B k;refine zT ?_;obtain ⟨y0,Y,k⟩:=a0a k;obtain ⟨s0,u0⟩:=apI Y;refine zB ?_ { tk:=[3,52] };cases soI k;exact zO
    replace k:=cF B k;refine zU (zk ?_);cases soI k;exact zO
   rintro _ rfl;refine nB (nT (zA ?_));exact nT ⟨_,(soI c).symm,rfl,zc⟩
  replace c:=cF C c;refine zU (AWp.exit (xT (xT ?_)));refine exL c ?_;rintro rfl;exact oxI ⟨rfl,_,G,zv⟩
 rintro _ ⟨L,G,rfl⟩;have h:=(g0 _ G);refine xB (nT (zs (zA (nT (zr ?_)) { tk:=[3,54] })));cases soI h;exact zq

theorem c3V {A:Ar} (hA:SA A) {c p:List D} (h:N19 A c=some p):a0e Tryz.prog 19 [zl 1 c] [] (.own 2 p) []:=by
 unfold N19 at h;refine zI Tryz.func19 ?_;refine zs (zA (nT (zs ?_)));refine zA (nT (zs (zs ?_)));refine zA (nT (zb ?_));obtain ⟨P,F,v,C,k⟩:=a0m h;refine zM 0 [3] [] 0 (fun τ => ∃ o,v o=some p/\τ=⟨[(3,(.own 2 o))],[],30⟩) ?_ ?_
 ·refine zP F [3,7,8,9] [] 0 (fun (r,e)=>⟨[(3,(.own 2 r)),(7,zl 1 c),(8,(.d (.int .i64 (A.len c)))),(9,zi e)],[],30⟩) ⟨rfl,zc⟩ ?_;rintro ⟨r,e⟩ z a;dsimp only [b5b] at a;refine zs (zA (nT (zs ?_)));rcases tf (A.zlt e (A.len c)) with g | g
  ·replace a:=cT g a;refine zT (zk (nT (zs (zb (zs ?_)))));obtain ⟨q,w,a⟩:=a0a a;obtain ⟨J,K⟩:=gtI w;refine zB (nT (zs ?_));refine zB (nT (zb ?_));obtain ⟨O,E,u,B,j⟩:=a0m a;refine zM 2 [3,7,8,9] [] 0 (fun τ => ∃ m,u m=some z/\τ=⟨[(3,(.own 2 m)),(7,zl 1 c),(8,(.d (.int .i64 (A.len c)))),(9,zi e)],[],30⟩) ?_ ?_
   ·refine zP E [3,4,7,8,9,17,18] [] 0 (fun (s,l)=>⟨[(3,(.own 2 s)),(4,zi e),(7,zl 1 c),(8,(.d (.int .i64 (A.len c)))),(9,zi e),(17,(.d (.int .i64 (A.zmax (A.wrp .i64 (A.zsub (A.len q) 1)) 0)))),(18,zi l)],[],30⟩) ⟨rfl,zv⟩ ?_;rintro ⟨s,l⟩ G b;dsimp only [b5a] at b;refine zs (zA (nT (zs ?_)));rcases tf (A.zlt l (A.zmax (A.wrp .i64 (A.zsub (A.len q) 1)) 0)) with i | i
    ·replace b:=cT i b;refine zT (zk (nT (zs (zb (zs ?_)))));refine zB (nT ?_);obtain ⟨N,y,b⟩:=a0a b;obtain ⟨L,M⟩:=apI y;refine zB (nB (nT ?_)) { tk:=[3,26] };refine zB ?_;exact nT ⟨_,(soI b).symm,rfl,zv⟩
    replace b:=cF i b;refine zU (AWp.exit (xT (xT ?_)));refine exL b ?_;rintro rfl;exact oxI ⟨rfl,_,j,zv⟩
   rintro _ ⟨m,j,rfl⟩;have a:=(B _ j);refine xB (nB (nT (zA ?_)));exact nT ⟨_,(soI a).symm,rfl,zc⟩
  replace a:=cF g a;refine zU (AWp.exit (xT (xT ?_)));refine exL a ?_;rintro rfl;exact oxI ⟨rfl,_,k,zv⟩
 rintro _ ⟨o,k,rfl⟩;have h:=(C _ k);refine xB (nT (zs (zA (nT (zr ?_)) { tk:=[3,29] })));cases soI h;exact zq

theorem c4M {A:Ar} (hA:SA A) {e g i j l:Int} {k:Bool} (h:N43 A e g i j l=some k):a0e Tryz.prog 43 [.d (.agg [.int .i64 e,.int .i64 g]),.d (.agg [.int .i64 i,.int .i64 j,.int .i64 l])] [] (.d (.bool k)) []:=by
 unfold N43 at h;refine zI Tryz.func43 ?_;refine zs (zA (nT (zs ?_)));obtain ⟨m,a,h⟩:=a0a h;refine zN [4] [] 0 (fun τ=>τ=⟨[(4,.d (.bool m))],[],24⟩) ?_ ?_
 ·rcases tf (A.zeq e i) with b | b
  ·replace a:=cT b a;rcases tf (A.zle j g) with c | c
   ·replace a:=cT c a;refine zB ?_ { tk:=[23] };cases soI a;exact zO
   replace a:=cF c a;refine zB ?_ { tk:=[23] };cases soI a;exact zO
  replace a:=cF b a;refine zB ?_ { tk:=[23] };cases soI a;exact zO
 rintro _ rfl;refine nT (zr ?_);cases soI h;exact zq

theorem c4N {A:Ar} (hA:SA A) {u k c:List D} {i:Int} {y:Bool} {z:Int} (h:N16 A u k c i=some (y,z)):a0e Tryz.prog 16 [zl 1 u,zl 1 k,zl 1 c,zi i] [] (.tuple [.d (.bool y),zi z]) []:=by
 unfold N16 at h;refine zI Tryz.func16 ?_;refine zs (zA (nT (zs (zs (zn ?_)))));obtain ⟨r6,e5,h⟩:=a0a h;refine zC (c4J hA e5) ?_;refine zE (nT (zs ?_));refine zA (nT ?_);rcases tf (A.zeq r6 0) with Q | Q
 ·replace h:=cT Q h;refine zU (zk (nT (zs (zn ?_))));obtain ⟨e,e8,h⟩:=a0a h;refine zD (c4L hA e8) ?_;refine zF (nT (zs (zs ?_)));obtain ⟨a0,j,h⟩:=a0a h;refine zN [0,1,2,3,11,40] [] 0 (fun τ=>τ=⟨[(0,zl 1 u),(1,zl 1 k),(2,zl 1 c),(3,zi i),(11,zl 3 e),(40,.d (.bool a0))],[],96⟩) ?_ ?_
  ·rcases tf (A.zeq (A.len c) (A.len e)) with F | F
   ·replace j:=cT F j;rcases tf (A.zlt i 0) with G | G
    ·replace j:=cT G j;refine zB ?_;cases soI j;exact zO
    replace j:=cF G j;refine zB ?_;cases soI j;exact zO
   replace j:=cF F j;refine zB ?_;cases soI j;exact zO
  rintro _ rfl;refine nT ?_;rcases tf a0 with L | L
  ·replace h:=cT L h;refine zT (zs ?_);refine zB (nT (zr (rT ?_)));cases soI h;exact zq
  replace h:=cF L h;refine zU (zk (nT (zs ?_)));refine zB (nT (zs (zs ?_)));refine zB (nT (zb ?_));obtain ⟨y1,v0,e0,X,q⟩:=a0m h;refine zM 0 [0,1,2,3,11,12] [] 0 (fun τ => ∃ o,e0 (.inl o)=some (y,z)/\τ=⟨[(0,zl 1 u),(1,zl 1 k),(2,zl 1 c),(3,zi i),(11,zl 3 e),(12,zi o)],[],96⟩) ?_ ?_
  ·refine zP v0 [0,1,2,3,11,12,41,42,43] [] 0 (fun (U,B)=>⟨[(0,zl 1 u),(1,zl 1 k),(2,zl 1 c),(3,zi i),(11,zl 3 e),(12,zi U),(41,zl 1 c),(42,(.d (.int .i64 (A.len c)))),(43,zi B)],[],96⟩) ⟨rfl,zv⟩ ?_;rintro ⟨U,B⟩ g1 b;dsimp only [b1D] at b;refine zs (zA (nT (zs ?_)));rcases tf (A.zlt B (A.len c)) with N | N
   ·replace b:=cT N b;refine zT (zk (nT (zs (zb (zs ?_)))));obtain ⟨V,n0,b⟩:=a0a b;obtain ⟨q1,r1⟩:=gtI n0;refine zB (nT (zs (zs ?_)));obtain ⟨b0,r,b⟩:=a0a b;refine zN [0,1,2,3,11,12,14,41,42,43,52] [] 0 (fun τ=>τ=⟨[(0,zl 1 u),(1,zl 1 k),(2,zl 1 c),(3,zi i),(11,zl 3 e),(12,zi U),(14,zi V),(41,zl 1 c),(42,(.d (.int .i64 (A.len c)))),(43,zi B),(52,.d (.bool b0))],[],96⟩) ?_ ?_
    ·rcases tf (A.zlt V 0) with O | O
     ·replace r:=cT O r;refine zB ?_;cases soI r;exact zO
     replace r:=cF O r;refine zB ?_;cases soI r;exact zO
    rintro _ rfl;refine nT ?_;rcases tf b0 with P | P
    ·replace b:=cT P b;refine zT (zs ?_);refine zB (nT (zr (rT (rB (rT (rT ?_))))));refine exL b ?_;rintro rfl;refine oxR ?_;replace q:=(eR (X _ q));refine rB (rT ?_);cases soI q;exact zq
    replace b:=cF P b;refine zU (zk (nT ?_));refine zB (nB (nT ?_));refine zB ?_;exact nT ⟨_,(soI b).symm,rfl,zv⟩
   replace b:=cF N b;refine zU (AWp.exit (xT (xT ?_)));refine exL b ?_;rintro rfl;exact oxI ⟨rfl,_,q,zv⟩
  rintro _ ⟨o,q,rfl⟩;have h:=(eL (X _ q));refine xB (nT (zs (zs (zn ?_))));obtain ⟨l,o0,h⟩:=a0a h;refine zC (c3V hA o0) ?_;refine zE (nT (zb ?_));obtain ⟨w1,u0,d0,W,p⟩:=a0m h;refine zM 2 [3,12] [] 0 (fun τ=>d0 (.inl ())=some (y,z)/\τ=⟨[(3,zi i),(12,zi o)],[],96⟩) ?_ ?_
  ·refine zP u0 [1,2,3,11,12,58,59,60] [] 0 (fun s=>⟨[(1,zl 1 k),(2,zl 1 c),(3,zi i),(11,zl 3 e),(12,zi o),(58,(.own 2 l)),(59,(.d (.int .i64 (A.len l)))),(60,zi s)],[],96⟩) ⟨rfl,zc⟩ ?_;rintro s q0 a;dsimp only [b2y] at a;refine zs (zA (nT (zs ?_)));rcases tf (A.zlt s (A.len l)) with R | R
   ·replace a:=cT R a;refine zT (zk (nT (zs (zb (zs ?_)))));obtain ⟨⟨C,E⟩,p0,a⟩:=a0a a;obtain ⟨s1,u1⟩:=gtI p0;refine zB (nT (zs ?_)) { tk:=[63] };refine zB (nT (zs (zs ?_)));refine zB (nT (zb ?_));obtain ⟨v1,s0,c0,r0,S⟩:=a0m a;refine zM 4 [1,2,3,11,12,16,17,58,59,60] [] 0 (fun τ => ∃ w,c0 w=some q0/\τ=⟨[(1,zl 1 k),(2,zl 1 c),(3,zi i),(11,zl 3 e),(12,zi o),(16,(.lbox [zi C,zi E])),(17,zi w),(58,(.own 2 l)),(59,(.d (.int .i64 (A.len l)))),(60,zi s)],[],96⟩) ?_ ?_
    ·refine zP s0 [1,2,3,11,12,16,17,58,59,60,64,65,66] [] 0 (fun (Y,v)=>⟨[(1,zl 1 k),(2,zl 1 c),(3,zi i),(11,zl 3 e),(12,zi o),(16,(.lbox [zi C,zi E])),(17,zi Y),(58,(.own 2 l)),(59,(.d (.int .i64 (A.len l)))),(60,zi s),(64,zl 3 e),(65,(.d (.int .i64 (A.len e)))),(66,zi v)],[],96⟩) ⟨rfl,zv⟩ ?_;rintro ⟨Y,v⟩ e1 g;dsimp only [b1E] at g;refine zs (zA (nT (zs ?_)));rcases tf (A.zlt v (A.len e)) with J | J
     ·replace g:=cT J g;refine zT (zk (nT (zs (zb (zs ?_)))));obtain ⟨⟨z0,a1,b1⟩,i0,g⟩:=a0a g;obtain ⟨i1,j1⟩:=gtI i0;refine zB (nT (zs (zn ?_))) { tk:=[70] };obtain ⟨w0,j0,g⟩:=a0a g;refine zD (c4M hA j0) ?_;refine zF (nT ?_);obtain ⟨y0,m,g⟩:=a0a g;refine zN [1,2,3,11,12,16,17,58,59,60,64,65,66] [] 0 (fun τ=>τ=⟨[(1,zl 1 k),(2,zl 1 c),(3,zi i),(11,zl 3 e),(12,zi o),(16,(.lbox [zi C,zi E])),(17,zi y0),(58,(.own 2 l)),(59,(.d (.int .i64 (A.len l)))),(60,zi s),(64,zl 3 e),(65,(.d (.int .i64 (A.len e)))),(66,zi v)],[],96⟩) ?_ ?_
      ·rcases tf w0 with K | K
       ·replace m:=cT K m;refine zT ?_;obtain ⟨c1,k0,m⟩:=a0a m;obtain ⟨k1,l1⟩:=gtI k0;refine zB ?_;cases soI m;exact zO
       replace m:=cF K m;refine zU (zk ?_);cases soI m;exact zO
      rintro _ rfl;refine nB (nT (zA ?_));exact nT ⟨_,(soI g).symm,rfl,zc⟩
     replace g:=cF J g;refine zU (AWp.exit (xT (xT ?_)));refine exL g ?_;rintro rfl;exact oxI ⟨rfl,_,S,zv⟩
    rintro _ ⟨w,S,rfl⟩;have a:=(r0 _ S);refine xB (nT (zs ?_));obtain ⟨d1,l0,a⟩:=a0a a;obtain ⟨m1,n1⟩:=gtI l0;obtain ⟨g0,m0,a⟩:=a0a a;obtain ⟨o1,p1⟩:=gtI m0;refine zH ?_;refine nT ?_;rcases tf (A.zlt g0 w) with M | M
    ·replace a:=cT M a;refine zT (zs ?_);refine zB (nT (zr (rB (rT (rT ?_)))));refine exL a ?_;rintro rfl;refine oxR ?_;replace p:=(eR (W _ p));refine rB (rT ?_);cases soI p;exact zq
    replace a:=cF M a;refine zU (zk (nB (nT ?_)));refine zB ?_;exact nT ⟨_,(soI a).symm,rfl,zv⟩
   replace a:=cF R a;refine zU (AWp.exit (xT (xT ?_)));refine exL a ?_;rintro rfl;exact oxI ⟨rfl,p,zv⟩
  rintro _ ⟨p,rfl⟩;have h:=(eL (W _ p));refine xB (nT (zs (zA (nT (zr ?_)))));cases soI h;exact zq
 replace h:=cF Q h;refine zT (zs ?_);refine zB (nT (zr (rT ?_)));cases soI h;exact zq
end Go.Am
