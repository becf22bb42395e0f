import Derived.Test.YtlljehkmemajkaaGenw2
set_option maxRecDepth 100000
set_option maxHeartbeats 2000000
set_option linter.unusedVariables false
set_option linter.unusedSimpArgs false
namespace Go.Am
open Go Go.Proofs
theorem b7b {A:Ar} (hA:SA A) {c:List D} {j:Int} (h:b3p A c=some j):a0j Try.prog 104 [zl 3 c,(.func 110 [] [])] [] (zi j) []:=by
 unfold b3p at h;refine zI Try.func104 ?_;refine zs (zA (nT (zs (zs ?_))));refine zA (nT (zb ?_));obtain ⟨z,p,l,k,b⟩:=a1a h;refine zM 0 [] [] 0 (fun τ=>l (.inl ())=some j/\τ=⟨[],[],19⟩) ?_ ?_
 ·refine zP p [0,1,7,8] [] 0 (fun i=>⟨[(0,zl 3 c),(1,(.func 110 [] [])),(7,(.d (.int .i64 (A.len c)))),(8,zi i)],[],19⟩) ⟨rfl,zc⟩ ?_;rintro i v a;dsimp only [a8F] at a;refine zs (zA (nT (zs ?_)));rcases tf (A.zlt i (A.len c)) with e | e
  ·replace a:=cT e a;refine zT (zk (nT (zs (zb (zs ?_)))));refine zB (nT (zs (zn ?_))) { tk:=[8,10] };obtain ⟨⟨r,s,u⟩,m,a⟩:=a0a a;obtain ⟨w,y⟩:=gtI m;obtain ⟨q,o,a⟩:=a0a a;refine zD (b3r hA o) ?_;refine zF (nT ?_);rcases tf q with g | g
   ·replace a:=cT g a;refine zT (zs ?_);refine zB (nT (zr (rB (rT (rT ?_))))) { tk:=[5,17] };refine exL a ?_;rintro rfl;refine oxR ?_;replace b:=(eR (k _ b));refine rB (rT ?_);cases soI b;exact zq
   replace a:=cF g a;refine zU (zk (nB (nT ?_)));refine zB ?_ { tk:=[18] };exact nT ⟨_,(soI a).symm,rfl,zv⟩
  replace a:=cF e a;refine zU (AWp.exit (xT (xT ?_)));refine exL a ?_;rintro rfl;exact oxI ⟨rfl,b,zv⟩
 rintro _ ⟨b,rfl⟩;have h:=(eL (k _ b));refine xB (nT (zs (zA (nT (zr ?_)))));cases soI h;exact zq

theorem b7c {A:Ar} (hA:SA A) {b l:List D} (h:b3q A b=some l):a0j Try.prog 109 [zl 3 b,(.func 110 [] [])] [] (zl 3 l) []:=by
 unfold b3q at h;refine zI Try.func109 ?_;refine zs (zA (nT (zs (zn ?_))));obtain ⟨j,o,h⟩:=a0a h;refine zC (b7b hA o) ?_;refine zE (nT (zs (zs ?_)));refine zA (nT ?_);rcases tf (A.zeq j (-1)) with g | g
 ·replace h:=cT g h;refine zT (zs ?_);refine zB (nT (zr (rT ?_))) { tk:=[0,13] };cases soI h;exact zq
 replace h:=cF g h;refine zU (zk (nT (zs (zs ?_))));refine zB (nT (zb ?_));obtain ⟨S,v,m,u,i⟩:=a1a h;refine zM 0 [0,5] [] 0 (fun τ=>m ()=some l/\τ=⟨[(0,zl 3 b),(5,zi j)],[],42⟩) ?_ ?_
 ·refine zP v [0,1,5,6] [] 0 (fun k=>⟨[(0,zl 3 b),(1,(.func 110 [] [])),(5,zi j),(6,zi k)],[],42⟩) ⟨rfl,zv⟩ ?_;rintro k G a;dsimp only [b1c] at a;refine zs (zs (zA (nT ?_)));rcases tf (A.zlt k (A.len b)) with c | c
  ·replace a:=cT c a;refine zT (zk (nT (zs (zb (zs ?_)))));obtain ⟨⟨y,z,B⟩,p,a⟩:=a0a a;obtain ⟨J,K⟩:=gtI p;refine zB (nT (zs (zn ?_))) { tk:=[25] };obtain ⟨w,q,a⟩:=a0a a;refine zD (b3r hA q) ?_;refine zF (nT ?_);rcases tf w with e | e
   ·replace a:=cT e a;refine zU (zk (nB (nT ?_)));refine zB ?_;exact nT ⟨_,(soI a).symm,rfl,zv⟩
   replace a:=cF e a;refine zT (zs ?_);obtain ⟨⟨C,E,F⟩,r,a⟩:=a0a a;obtain ⟨L,M⟩:=gtI r;cases a
  replace a:=cF c a;refine zU (AWp.exit (xT (xT ?_)));refine exL a ?_;rintro rfl;exact oxI ⟨rfl,i,zv⟩
 rintro _ ⟨i,rfl⟩;have h:=(u _ i);refine xB (nT (zs ?_));obtain ⟨R,s,h⟩:=a0a h;obtain ⟨N,O,P,Q⟩:=slI s;cases h

theorem c0f {A:Ar} (hA:SA A) {e c:List D} (h:M90 A e=some c):a0j Try.prog 90 [zl 3 e] [] (zl 3 c) []:=by
 unfold M90 at h;refine zI Try.func90 ?_;refine zs (zA (nT (zs (zn ?_))));obtain ⟨o,b,h⟩:=a0a h;rcases tf (A.zlt 0 (A.len o)) with a | a
 ·replace h:=cT a h;obtain ⟨_,k,h⟩:=a0a h;refine zC (a0j.thaw (b9k hA b) rfl rfl (neL hA a) (ckI k) (H:=[]) rfl (c0h hA)) ?_ { tk:=[5] };obtain ⟨⟨r,u,v⟩,l,h⟩:=a0a h;refine zD (b9m hA l) ?_ { tk:=[5] };refine zF (nT ?_) { tk:=[5] };obtain ⟨p,j,h⟩:=a0a h;obtain ⟨m,n⟩:=fzI hA j;refine AWp.freeze (s:=2) (i:=0) rfl rfl m n ?_;refine zr ?_;cases soI h;exact zq
 replace h:=cF a h;refine zC (b9k hA b) ?_ { tk:=[5] };obtain ⟨q,g,h⟩:=a0a h;refine zD (b7c hA g) ?_ { tk:=[5] };refine zF (nT (zr ?_)) { tk:=[5] };cases soI h;exact zq

theorem c0E {A:Ar} (hA:SA A) {o l:List D} (h:M89 A o=some l):a0j Try.prog 89 [zl 3 o] [] (.own 3 l) []:=by
 unfold M89 at h;refine zI Try.func89 ?_;refine zs (zA (nT (zs ?_)));refine zA (nT (zs (zs (zn ?_))));obtain ⟨c,u,h⟩:=a0a h;refine zC (c0f hA u) ?_;refine zE (nT (zb ?_));obtain ⟨P,B,p,z,j⟩:=a1a h;refine zM 0 [3] [] 0 (fun τ => ∃ k,p k=some l/\τ=⟨[(3,(.own 3 k))],[],26⟩) ?_ ?_
 ·refine zP B [3,7,8,9] [] 0 (fun (m,e)=>⟨[(3,(.own 3 m)),(7,zl 3 c),(8,(.d (.int .i64 (A.len c)))),(9,zi e)],[],26⟩) ⟨rfl,zc⟩ ?_;rintro ⟨m,e⟩ E a;dsimp only [a8G] at a;refine zs (zA (nT (zs ?_)));rcases tf (A.zlt e (A.len c)) with g | g
  ·replace a:=cT g a;refine zT (zk (nT (zs (zb (zs ?_)))));obtain ⟨⟨q,r,s⟩,v,a⟩:=a0a a;obtain ⟨F,G⟩:=gtI v;refine zB (nT (zs (zs ?_))) { tk:=[13] };refine zB (nT ?_);obtain ⟨C,b,a⟩:=a0a a;refine zN [3,5,7,8,9] [] 0 (fun τ=>τ=⟨[(3,(.own 3 C)),(5,(.lbox [zi q,zi r,zi s])),(7,zl 3 c),(8,(.d (.int .i64 (A.len c)))),(9,zi e)],[],26⟩) ?_ ?_
   ·rcases tf (A.zlt 0 e) with i | i
    ·replace b:=cT i b;refine zT ?_;obtain ⟨N,w,b⟩:=a0a b;obtain ⟨J,K⟩:=apI w;refine zB ?_ { tk:=[3,19] };cases soI b;exact zO
    replace b:=cF i b;refine zU (zk ?_);cases soI b;exact zO
   rintro _ rfl;refine nT ?_;obtain ⟨O,y,a⟩:=a0a a;obtain ⟨L,M⟩:=apI y;refine zB (nB (nT ?_)) { tk:=[3,23] };refine zA ?_;exact nT ⟨_,(soI a).symm,rfl,zc⟩
  replace a:=cF g a;refine zU (AWp.exit (xT (xT ?_)));refine exL a ?_;rintro rfl;exact oxI ⟨rfl,_,j,zv⟩
 rintro _ ⟨k,j,rfl⟩;have h:=(z _ j);refine xB (nT (zs (zA (nT (zr ?_)) { tk:=[3,25] })));cases soI h;exact zq

theorem b9n {A:Ar} (hA:SA A) {b k:List D} {l:Int} (h:b8v A b=some (k,l)):a0j Try.prog 84 [zl 1 b,(.func 89 [] [])] [] (.tuple [zl 1 k,zi l]) []:=by
 unfold b8v at h;refine zI Try.func84 ?_;refine zs (zA (nT (zs (zs (zn ?_)))));obtain ⟨B,q,h⟩:=a0a h;refine zC (b8X hA q) ?_;refine zE (nT ?_);rcases tf B with e | e
 ·replace h:=cT e h;refine zU (zk (nT (zs ?_)));obtain ⟨_,v,h⟩:=a0a h;have L:=ckI v;obtain ⟨_,w,h⟩:=a0a h;have M:=ckI w;obtain ⟨_,p,h⟩:=a0a h;have N:=ckI p;refine zB (nT (zs (zs ?_))) { tk:=[14],gr:=[14],th:=[14] };refine zB (nT (zb ?_));obtain ⟨Q,z,o,y,g⟩:=a1a h;refine AWp.cutXW 0 (fun τ => ∃ j,o j=some (k,l)/\τ=⟨[(6,.gref 0 1)],[.gro 1 j,.dead,.dead],29⟩) ?_ ?_
  ·refine AWp.iterW z (fun (i,m)=>⟨[(1,(.func 89 [] [])),(6,.gref 0 1),(15,zl 1 b),(16,(.d (.int .i64 (A.len b)))),(17,zi i)],[.gro 1 m,.dead,.dead],29⟩) ⟨_,zR [some 0,some 1,some 2] [1,6,15,16,17],rfl⟩ ?_;rintro ⟨i,m⟩ E a;dsimp only [a5V] at a;refine zs (zA (nT (zs ?_)));rcases tf (A.zlt i (A.len b)) with c | c
   ·replace a:=cT c a;refine zT (zk (nT (zs (zb (zs ?_)))));obtain ⟨C,r,a⟩:=a0a a;obtain ⟨F,G⟩:=gtI r;refine zB (nT (zn ?_));obtain ⟨P,s,a⟩:=a0a a;refine zD (c0E hA s) ?_ { tk:=[6,26] };obtain ⟨O,u,a⟩:=a0a a;obtain ⟨J,K⟩:=apI u;refine zF (nB (nT ?_)) { tk:=[6,26],gr:=[26] };refine zB ?_;exact nT ⟨_,(soI a).symm,_,zR [some 3,some 4,some 5] [1,6,15,16,17],rfl⟩
   replace a:=cF c a;refine zU (AWp.exit (xT (xT ?_)));refine exL a ?_;rintro rfl;exact b5j ⟨_,zR [some 0,some 1,some 2] [6],_,g,rfl⟩
  rintro _ ⟨j,g,rfl⟩;have h:=(y _ g);refine xB (nT (zs (zA (nT ?_))));refine AWp.weak (Wk.freezeS 4 rfl rfl) ?_;refine zr ?_;cases soI h;exact zq
 replace h:=cF e h;refine zT (zs ?_);refine zB (nT (zr (rT ?_)));cases soI h;exact zq

theorem c0F {A:Ar} (hA:SA A) {c a:List D} {b:Int} (h:M45 A c=some (a,b)):a0j Try.prog 45 [zl 1 c] [] (.tuple [zl 1 a,zi b]) []:=by
 unfold M45 at h;refine zI Try.func45 ?_;refine zs (zA (nT (zs (zn ?_))));obtain ⟨⟨g,i⟩,e,h⟩:=a0a h;refine zC (b9n hA e) ?_;refine zE (nT (zr ?_));cases soI h;exact zq

theorem b9o {A:Ar} (hA:SA A) {b k:List D} {l:Int} (h:b8w A b=some (k,l)):a0j Try.prog 84 [zl 1 b,(.func 90 [] [])] [] (.tuple [zl 1 k,zi l]) []:=by
 unfold b8w at h;refine zI Try.func84 ?_;refine zs (zA (nT (zs (zs (zn ?_)))));obtain ⟨B,q,h⟩:=a0a h;refine zC (b8X hA q) ?_;refine zE (nT ?_);rcases tf B with e | e
 ·replace h:=cT e h;refine zU (zk (nT (zs ?_)));obtain ⟨_,v,h⟩:=a0a h;have L:=ckI v;obtain ⟨_,w,h⟩:=a0a h;have M:=ckI w;obtain ⟨_,p,h⟩:=a0a h;have N:=ckI p;refine zB (nT (zs (zs ?_))) { tk:=[14],gr:=[14],th:=[14] };refine zB (nT (zb ?_));obtain ⟨Q,z,o,y,g⟩:=a1a h;refine AWp.cutXW 0 (fun τ => ∃ j,o j=some (k,l)/\τ=⟨[(6,.gref 0 1)],[.gro 1 j,.dead,.dead],29⟩) ?_ ?_
  ·refine AWp.iterW z (fun (i,m)=>⟨[(1,(.func 90 [] [])),(6,.gref 0 1),(15,zl 1 b),(16,(.d (.int .i64 (A.len b)))),(17,zi i)],[.gro 1 m,.dead,.dead],29⟩) ⟨_,zR [some 0,some 1,some 2] [1,6,15,16,17],rfl⟩ ?_;rintro ⟨i,m⟩ E a;dsimp only [a5W] at a;refine zs (zA (nT (zs ?_)));rcases tf (A.zlt i (A.len b)) with c | c
   ·replace a:=cT c a;refine zT (zk (nT (zs (zb (zs ?_)))));obtain ⟨C,r,a⟩:=a0a a;obtain ⟨F,G⟩:=gtI r;refine zB (nT (zn ?_));obtain ⟨P,s,a⟩:=a0a a;refine zD (c0f hA s) ?_ { tk:=[6,26] };obtain ⟨O,u,a⟩:=a0a a;obtain ⟨J,K⟩:=apI u;refine zF (nB (nT ?_)) { tk:=[6,26],gr:=[26] };refine zB ?_;exact nT ⟨_,(soI a).symm,_,zR [some 3,some 4,some 5] [1,6,15,16,17],rfl⟩
   replace a:=cF c a;refine zU (AWp.exit (xT (xT ?_)));refine exL a ?_;rintro rfl;exact b5j ⟨_,zR [some 0,some 1,some 2] [6],_,g,rfl⟩
  rintro _ ⟨j,g,rfl⟩;have h:=(y _ g);refine xB (nT (zs (zA (nT ?_))));refine AWp.weak (Wk.freezeS 4 rfl rfl) ?_;refine zr ?_;cases soI h;exact zq
 replace h:=cF e h;refine zT (zs ?_);refine zB (nT (zr (rT ?_)));cases soI h;exact zq

theorem c0G {A:Ar} (hA:SA A) {c a:List D} {b:Int} (h:M46 A c=some (a,b)):a0j Try.prog 46 [zl 1 c] [] (.tuple [zl 1 a,zi b]) []:=by
 unfold M46 at h;refine zI Try.func46 ?_;refine zs (zA (nT (zs (zn ?_))));obtain ⟨⟨g,i⟩,e,h⟩:=a0a h;refine zC (b9o hA e) ?_;refine zE (nT (zr ?_));cases soI h;exact zq

theorem c0H {A:Ar} (hA:SA A) {e:List D} {X:Int} {O:List D} {P:Int} (h:M43 A e X=some (O,P)):a0j Try.prog 43 [zl 1 e,zi X] [] (.tuple [zl 2 O,zi P]) []:=by
 unfold M43 at h;refine zI Try.func43 ?_;refine zs (zA (nT (zs (zn ?_))));obtain ⟨⟨G,r5⟩,e3,h⟩:=a0a h;refine zC (b8Y hA e3) ?_;refine zE (nT (zs (zs ?_)));refine zA (nT ?_);rcases tf (A.zeq r5 0) with m | m
 ·replace h:=cT m h;refine zU ?_ (hb:=(by first | rfl | simp only [m,zqa,zqb,zqc,zqd]))
  refine zk (nT (zs (zn ?_)));obtain ⟨a7,e8,h⟩:=a0a h;have R:=gcI e8;obtain ⟨⟨p1,E,q1⟩,b0,h⟩:=a0a h;refine zC (b6Z hA b0) ?_ (h:=(by (repeat (cbv;simp only [m,R]));try cbv))
  refine zE ?_ (h:=(by (repeat (cbv;simp only [m,R]));try cbv))
  refine nT (zs ?_);refine zA ?_ (h:=(by (repeat (cbv;simp only [m]));try cbv))
  refine nT (zs (zs ?_));refine zA ?_ (h:=(by (repeat (cbv;simp only [m]));try cbv))
  refine nT (zb ?_);refine AWp.weak (Wk.ren [] [0,6,8,9,31,32,33] rfl rfl) ?_;obtain ⟨u1,w0,a0,u0,L⟩:=a1a h;refine zM 0 [9] [] 0 (fun τ => ∃ N,a0 N=some (O,P)/\τ=⟨[(9,(.own 2 N))],[],77⟩) ?_ ?_
  ·refine zP w0 [0,6,8,9,31,32,33] [] 0 (fun (W,c)=>⟨[(0,zl 1 e),(6,zl 1 G),(8,zi E),(9,(.own 2 W)),(31,zl 1 e),(32,(.d (.int .i64 (A.len e)))),(33,zi c)],[],77⟩) ⟨rfl,(by first | (cbv;done) | ((repeat (cbv;simp only [m]));try cbv))⟩ ?_
   rintro ⟨W,c⟩ l0 r;dsimp only [b0h] at r;refine zs (zA (nT (zs ?_)));rcases tf (A.zlt c (A.len e)) with s | s
   ·replace r:=cT s r;refine zT ?_ (hb:=(by first | rfl | simp only [s,zqa,zqb,zqc,zqd]))
    refine zk (nT (zs (zb (zs ?_))));obtain ⟨B,j0,r⟩:=a0a r;obtain ⟨q0,r0⟩:=gtI j0;refine zA ?_ (h:=(by (repeat (cbv;simp only [s,q0,r0]));try cbv))
    refine nT (zs ?_);refine zA ?_ (h:=(by (repeat (cbv;simp only [s]));try cbv))
    refine nT (zb ?_);obtain ⟨s1,v0,Y,s0,K⟩:=a1a r;refine zM 2 [0,6,8,9,31,32,33] [] 0 (fun τ => ∃ M,Y M=some l0/\τ=⟨[(0,zl 1 e),(6,zl 1 G),(8,zi E),(9,(.own 2 M)),(31,zl 1 e),(32,(.d (.int .i64 (A.len e)))),(33,zi c)],[],77⟩) ?_ ?_
    ·refine zP v0 [0,6,8,9,10,31,32,33,38,39,40] [] 0 (fun (V,C)=>⟨[(0,zl 1 e),(6,zl 1 G),(8,zi E),(9,(.own 2 V)),(10,zi c),(31,zl 1 e),(32,(.d (.int .i64 (A.len e)))),(33,zi c),(38,zl 3 B),(39,(.d (.int .i64 (A.len B)))),(40,zi C)],[],77⟩) ⟨rfl,(by first | (cbv;done) | ((repeat (cbv;simp only [s]));try cbv))⟩ ?_
     rintro ⟨V,C⟩ l1 u;dsimp only [b0g] at u;refine zs (zA (nT (zs ?_)));rcases tf (A.zlt C (A.len B)) with a | a
     ·replace u:=cT a u;refine zT ?_ (hb:=(by first | rfl | simp only [a,zqa,zqb,zqc,zqd]))
      refine zk (nT (zs ?_));obtain ⟨e1,b,u⟩:=a0a u;refine zN [0,6,8,9,10,31,32,33,38,39,40] [] 0 (fun τ=>τ=⟨[(0,zl 1 e),(6,zl 1 G),(8,zi E),(9,(.own 2 e1)),(10,zi c),(31,zl 1 e),(32,(.d (.int .i64 (A.len e)))),(33,zi c),(38,zl 3 B),(39,(.d (.int .i64 (A.len B)))),(40,zi C)],[],77⟩) ?_ ?_
      ·refine zb (zs ?_);obtain ⟨⟨g1,i1,j1⟩,c0,b⟩:=a0a b;obtain ⟨m0,n0⟩:=gtI c0;refine zA ?_ { tk:=[44] } (h:=(by (repeat (cbv;simp only [a,m0,n0]));try cbv))
       refine nT (zs (zs (zn ?_)));obtain ⟨z0,d0,b⟩:=a0a b;refine zC (b8W hA d0) ?_ (h:=(by (repeat (cbv;simp only [a]));try cbv))
       refine zE ?_ (h:=(by (repeat (cbv;simp only [a]));try cbv))
       refine nT ?_;rcases tf z0 with j | j
       ·replace b:=cT j b;refine zT ?_ (hb:=(by first | rfl | simp only [a,j,zqa,zqb,zqc,zqd]))
        refine AWp.exit (xT (xB ?_));cases soI b;exact (zO (g:=(by first | (cbv;done) | ((repeat (cbv;simp only [a,j]));try cbv))))
       replace b:=cF j b;refine zU ?_ (hb:=(by first | rfl | simp only [a,j,zqa,zqb,zqc,zqd]))
       refine zk (nT (zs (zn ?_)));obtain ⟨a1,p,b⟩:=a0a b;obtain ⟨rJ,eJ,p⟩:=a0a p;obtain ⟨aJ,eg,p⟩:=a0a p;obtain ⟨F,J⟩:=gtI eg;obtain ⟨_,ek,p⟩:=a0a p;have g3:=ckI ek;obtain ⟨⟨q9,n1,o1⟩,k0,p⟩:=a0a p;obtain ⟨y0,ez,p⟩:=a0a p;obtain ⟨g4,g5⟩:=fzI hA ez;refine zC (b9l hA eJ) ?_ (h:=(by (repeat (cbv;simp only [a,j]));try cbv))
       refine zE ?_ (h:=(by (repeat (cbv;simp only [a,j]));try cbv))
       refine nT ?_;have S:A.zlt c (A.len rJ)=true:=b9V hA F J;have U:A.zeq c c=true:=b6z hA c;refine AWp.weak (Wk.openR 0 c (k:=3) (l:=rJ) (y:=aJ) (n:=A.len aJ) rfl (b8r hA F) (b8s hA J) (b9T hA g3) (b9U hA)) ?_;refine zs (zn ?_);refine zC (a0j.emb (args':=[.mref 3 3 0 (A.len aJ),zi C,(.d (.int .i64 (A.wrp .i64 (A.zadd C 1))))]) (c0D hA k0) [some 3] [(.jag 3 rJ (some (c,.mref 3 3 0 (A.len aJ)))),.dead,.dead,(.arr 3 aJ),.dead,.dead] rfl rfl rfl rfl rfl rfl rfl) ?_ (h:=(by (repeat (cbv;simp only [a,j,F,S,U]));try cbv))
       refine zE ?_ (h:=(by (repeat (cbv;simp only [a,j,F,S,U]));try cbv))
       refine nT ?_;refine AWp.weak (Wk.frzE 0 (q:=3) (k:=3) (z:=c) (l:=rJ) rfl rfl (b5k hA F J) g4 g5) ?_;refine AWp.weak (Wk.frzJ 14 (i:=0) (k:=3) (l:=rJ) (l':=a1) (o:=some (c,.d (.list 3 y0))) rfl rfl (b8t hA p)) ?_;refine AWp.weak (Wk.ren [] [0,6,8,9,10,12,14,31,32,33,38,39,40] rfl rfl) ?_;refine zs (zn ?_);obtain ⟨k1,e0,b⟩:=a0a b;have Q:=gcI e0;obtain ⟨⟨r1,b1,c1⟩,g0,b⟩:=a0a b;refine zC (b6Z hA g0) ?_ (h:=(by (repeat (cbv;simp only [a,j,Q]));try cbv))
       refine zE ?_ (h:=(by (repeat (cbv;simp only [a,j,Q]));try cbv))
       refine nT ?_;obtain ⟨d1,w,b⟩:=a0a b;refine zN [0,6,8,9,10,31,32,33,38,39,40] [] 1 (fun τ=>τ=⟨[(0,zl 1 e),(6,zl 1 G),(8,zi E),(9,(.own 2 d1)),(10,zi c),(31,zl 1 e),(32,(.d (.int .i64 (A.len e)))),(33,zi c),(38,zl 3 B),(39,(.d (.int .i64 (A.len B)))),(40,zi C)],[(.arr 1 c1)],77⟩) ?_ ?_
       ·rcases tf (A.zlt E b1) with v | v
        ·replace w:=cT v w;refine zT ?_ (hb:=(by first | rfl | simp only [a,j,v,zqa,zqb,zqc,zqd]))
         obtain ⟨m1,i0,w⟩:=a0a w;obtain ⟨o0,p0⟩:=apI i0;refine zA ?_ { tk:=[9,73] } (h:=(by (repeat (cbv;simp only [a,j,v,o0,p0]));try cbv))
         cases soI w;exact (zO (g:=(by first | (cbv;done) | ((repeat (cbv;simp only [a,j,v]));try cbv))))
        replace w:=cF v w;refine zU ?_ (hb:=(by first | rfl | simp only [a,j,v,zqa,zqb,zqc,zqd]))
        refine zk ?_;cases soI w;exact (zO (g:=(by first | (cbv;done) | ((repeat (cbv;simp only [a,j,v]));try cbv))))
       rintro _ rfl;refine nB ?_;cases soI b;exact zO
      rintro _ rfl;refine nT (zA ?_);exact nT ⟨_,(soI u).symm,rfl,zc⟩
     replace u:=cF a u;refine zU ?_ (hb:=(by first | rfl | simp only [a,zqa,zqb,zqc,zqd]))
     refine AWp.exit (xT (xT ?_));refine exL u ?_;rintro rfl;exact oxI ⟨rfl,_,K,(by first | (cbv;done) | ((repeat (cbv;simp only [a]));try cbv))⟩
    rintro _ ⟨M,K,rfl⟩;have r:=(s0 _ K);refine xB (nB (nT (zA ?_)));exact nT ⟨_,(soI r).symm,rfl,zc⟩
   replace r:=cF s r;refine zU ?_ (hb:=(by first | rfl | simp only [s,zqa,zqb,zqc,zqd]))
   refine AWp.exit (xT (xT ?_));refine exL r ?_;rintro rfl;exact oxI ⟨rfl,_,L,(by first | (cbv;done) | ((repeat (cbv;simp only [s]));try cbv))⟩
  rintro _ ⟨N,L,rfl⟩;have h:=(u0 _ L);refine xB (nT (zs (zA (nT (zr ?_)))));cases soI h;exact zq
 replace h:=cF m h;refine zT ?_ (hb:=(by first | rfl | simp only [m,zqa,zqb,zqc,zqd]))
 refine zs ?_;refine zA ?_ (h:=(by (repeat (cbv;simp only [m]));try cbv))
 refine nT (zr (rT ?_));cases soI h;exact zq

theorem c0I {A:Ar} (hA:SA A) {w:List D} {z:Bool} (h:M11 A w=some z):a0j Try.prog 11 [zl 1 w] [] (.d (.bool z)) []:=by
 unfold M11 at h;refine zI Try.func11 ?_;refine zs (zA (nT (zs (zs ?_))));obtain ⟨B,q,h⟩:=a0a h;refine zN [0,21] [] 0 (fun τ=>τ=⟨[(0,zl 1 w),(21,.d (.bool B))],[],103⟩) ?_ ?_
 ·refine zn ?_;obtain ⟨r3,G,q⟩:=a0a q;refine zC (c0n hA G) ?_;rcases tf r3 with r | r
  ·replace q:=cT r q;refine zE ?_ (h:=(by (repeat (cbv;simp only [r]));try cbv))
   cases soI q;exact (zO (g:=(by first | (cbv;done) | ((repeat (cbv;simp only [r]));try cbv))))
  replace q:=cF r q;obtain ⟨r6,Q,q⟩:=a0a q;refine zC (c0p hA Q) ?_ (h:=(by (repeat (cbv;simp only [r]));try cbv))
  refine zE ?_ (h:=(by (repeat (cbv;simp only [r]));try cbv))
  cases soI q;exact (zO (g:=(by first | (cbv;done) | ((repeat (cbv;simp only [r]));try cbv))))
 rintro _ rfl;refine nT ?_;rcases tf B with m | m
 ·replace h:=cT m h;refine zT ?_ (hb:=(by first | rfl | simp only [m,zqa,zqb,zqc,zqd]))
  refine zs (zn ?_);obtain ⟨j0,C,h⟩:=a0a h;refine zC (c0c hA C) ?_ { tk:=[22] } (h:=(by (repeat (cbv;simp only [m]));try cbv))
  refine zE ?_ { tk:=[22] } (h:=(by (repeat (cbv;simp only [m]));try cbv))
  refine nT (zr (rT ?_));cases soI h;exact zq
 replace h:=cF m h;refine zU ?_ (hb:=(by first | rfl | simp only [m,zqa,zqb,zqc,zqd]))
 refine zk (nT (zs (zn ?_)));obtain ⟨⟨S,U⟩,E,h⟩:=a0a h;refine zC (c0F hA E) ?_ (h:=(by (repeat (cbv;simp only [m]));try cbv))
 refine zE ?_ (h:=(by (repeat (cbv;simp only [m]));try cbv))
 refine nT (zs (zn ?_));obtain ⟨⟨V,k0⟩,F,h⟩:=a0a h;refine zC (c0G hA F) ?_ (h:=(by (repeat (cbv;simp only [m]));try cbv))
 refine zE ?_ (h:=(by (repeat (cbv;simp only [m]));try cbv))
 refine nT (zs (zs ?_));obtain ⟨y,v,h⟩:=a0a h;refine zN [0,3,5,38] [] 0 (fun τ=>τ=⟨[(0,zl 1 w),(3,zl 1 S),(5,zl 1 V),(38,.d (.bool y))],[],103⟩) ?_ ?_
 ·rcases tf (A.zeq U 0) with u | u
  ·replace v:=cT u v;refine zA ?_ (h:=(by (repeat (cbv;simp only [m,u]));try cbv))
   cases soI v;exact (zO (g:=(by first | (cbv;done) | ((repeat (cbv;simp only [m,u]));try cbv))))
  replace v:=cF u v;refine zA ?_ (h:=(by (repeat (cbv;simp only [m,u]));try cbv))
  cases soI v;exact (zO (g:=(by first | (cbv;done) | ((repeat (cbv;simp only [m,u]));try cbv))))
 rintro _ rfl;refine nT ?_;rcases tf y with b | b
 ·replace h:=cT b h;refine zT ?_ (hb:=(by first | rfl | simp only [b,zqa,zqb,zqc,zqd]))
  refine zs ?_;refine zA ?_ (h:=(by (repeat (cbv;simp only [b]));try cbv))
  refine nT (zr (rT ?_));cases soI h;exact zq
 replace h:=cF b h;refine zU ?_ (hb:=(by first | rfl | simp only [b,zqa,zqb,zqc,zqd]))
 refine zk (nT (zs (zn ?_)));obtain ⟨⟨W,X⟩,J,h⟩:=a0a h;refine zC (c0C hA J) ?_ (h:=(by (repeat (cbv;simp only [b]));try cbv))
 refine zE ?_ (h:=(by (repeat (cbv;simp only [b]));try cbv))
 refine nT (zs (zn ?_));obtain ⟨⟨l0,Y⟩,K,h⟩:=a0a h;refine zC (b8A hA K) ?_ (h:=(by (repeat (cbv;simp only [b]));try cbv))
 refine zE ?_ (h:=(by (repeat (cbv;simp only [b]));try cbv))
 refine nT (zs (zn ?_));obtain ⟨⟨m0,a0⟩,L,h⟩:=a0a h;refine zC (b8A hA L) ?_ (h:=(by (repeat (cbv;simp only [b]));try cbv))
 refine zE ?_ (h:=(by (repeat (cbv;simp only [b]));try cbv))
 refine nT (zs (zn ?_));obtain ⟨⟨n0,b0⟩,M,h⟩:=a0a h;refine zC (b8A hA M) ?_ (h:=(by (repeat (cbv;simp only [b]));try cbv))
 refine zE ?_ (h:=(by (repeat (cbv;simp only [b]));try cbv))
 refine nT (zs (zn ?_));obtain ⟨⟨c0,d0⟩,N,h⟩:=a0a h;refine zC (c0H hA N) ?_ (h:=(by (repeat (cbv;simp only [b]));try cbv))
 refine zE ?_ (h:=(by (repeat (cbv;simp only [b]));try cbv))
 refine nT (zs ?_);obtain ⟨i0,a,h⟩:=a0a h;refine zN [2] [] 0 (fun τ=>τ=⟨[(2,.d (.bool i0))],[],103⟩) ?_ ?_
 ·refine zn ?_;rcases tf (A.zeq X 0) with c | c
  ·replace a:=cT c a;rcases tf (A.zeq Y 0) with e | e
   ·replace a:=cT e a;rcases tf (A.zeq a0 0) with i | i
    ·replace a:=cT i a;rcases tf (A.zeq b0 0) with j | j
     ·replace a:=cT j a;rcases tf (A.zeq d0 0) with k | k
      ·replace a:=cT k a;rcases tf W with l | l
       ·replace a:=cT l a;obtain ⟨e0,O,a⟩:=a0a a;refine zC (c0e hA O) ?_ { tk:=[102] } (h:=(by (repeat (cbv;simp only [b,c,e,i,j,k,l]));try cbv))
        rcases tf e0 with o | o
        ·replace a:=cT o a;obtain ⟨g0,P,a⟩:=a0a a;refine zC (c0e hA P) ?_ { tk:=[102] } (h:=(by (repeat (cbv;simp only [b,c,e,i,j,k,l,o]));try cbv))
         rcases tf g0 with p | p
         ·replace a:=cT p a;rcases tf (A.zeq (A.len c0) 0) with s | s
          ·replace a:=cT s a;obtain ⟨o0,R,a⟩:=a0a a;refine zC (c0c hA R) ?_ { tk:=[102] } (h:=(by (repeat (cbv;simp only [b,c,e,i,j,k,l,o,p,s]));try cbv))
           refine zE ?_ { tk:=[102] } (h:=(by (repeat (cbv;simp only [b,c,e,i,j,k,l,o,p,s]));try cbv))
           cases soI a;exact (zO (g:=(by first | (cbv;done) | ((repeat (cbv;simp only [b,c,e,i,j,k,l,o,p,s]));try cbv))))
          replace a:=cF s a;refine zE ?_ { tk:=[102] } (h:=(by (repeat (cbv;simp only [b,c,e,i,j,k,l,o,p,s]));try cbv))
          cases soI a;exact (zO (g:=(by first | (cbv;done) | ((repeat (cbv;simp only [b,c,e,i,j,k,l,o,p,s]));try cbv))))
         replace a:=cF p a;refine zE ?_ { tk:=[102] } (h:=(by (repeat (cbv;simp only [b,c,e,i,j,k,l,o,p]));try cbv))
         cases soI a;exact (zO (g:=(by first | (cbv;done) | ((repeat (cbv;simp only [b,c,e,i,j,k,l,o,p]));try cbv))))
        replace a:=cF o a;refine zE ?_ { tk:=[102] } (h:=(by (repeat (cbv;simp only [b,c,e,i,j,k,l,o]));try cbv))
        cases soI a;exact (zO (g:=(by first | (cbv;done) | ((repeat (cbv;simp only [b,c,e,i,j,k,l,o]));try cbv))))
       replace a:=cF l a;refine zE ?_ { tk:=[102] } (h:=(by (repeat (cbv;simp only [b,c,e,i,j,k,l]));try cbv))
       cases soI a;exact (zO (g:=(by first | (cbv;done) | ((repeat (cbv;simp only [b,c,e,i,j,k,l]));try cbv))))
      replace a:=cF k a;refine zE ?_ { tk:=[102] } (h:=(by (repeat (cbv;simp only [b,c,e,i,j,k]));try cbv))
      cases soI a;exact (zO (g:=(by first | (cbv;done) | ((repeat (cbv;simp only [b,c,e,i,j,k]));try cbv))))
     replace a:=cF j a;refine zE ?_ { tk:=[102] } (h:=(by (repeat (cbv;simp only [b,c,e,i,j]));try cbv))
     cases soI a;exact (zO (g:=(by first | (cbv;done) | ((repeat (cbv;simp only [b,c,e,i,j]));try cbv))))
    replace a:=cF i a;refine zE ?_ { tk:=[102] } (h:=(by (repeat (cbv;simp only [b,c,e,i]));try cbv))
    cases soI a;exact (zO (g:=(by first | (cbv;done) | ((repeat (cbv;simp only [b,c,e,i]));try cbv))))
   replace a:=cF e a;refine zE ?_ { tk:=[102] } (h:=(by (repeat (cbv;simp only [b,c,e]));try cbv))
   cases soI a;exact (zO (g:=(by first | (cbv;done) | ((repeat (cbv;simp only [b,c,e]));try cbv))))
  replace a:=cF c a;refine zE ?_ { tk:=[102] } (h:=(by (repeat (cbv;simp only [b,c]));try cbv))
  cases soI a;exact (zO (g:=(by first | (cbv;done) | ((repeat (cbv;simp only [b,c]));try cbv))))
 rintro _ rfl;refine nT (zr ?_);cases soI h;exact zq
end Go.Am
