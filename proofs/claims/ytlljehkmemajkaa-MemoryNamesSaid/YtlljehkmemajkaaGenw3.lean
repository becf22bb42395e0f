import Derived.Test.YtlljehkmemajkaaGenw2
set_option maxRecDepth 100000
set_option maxHeartbeats 2000000
set_option linter.unusedVariables false
set_option linter.unusedSimpArgs false
namespace Go.Am
open Go Go.Proofs
theorem c0b {A:Ar} (hA:SA A) {g c r:List D} {s:Int} (h:M39 A g c=some (r,s)):a0m Try.prog 39 [zl 1 g,zl 1 c] [] (.tuple [zl 1 r,zi s]) []:=by
 unfold M39 at h;refine zI Try.func39 ?_;refine zs (zA (nT (zs (zs (zn ?_)))));obtain ⟨M,z,h⟩:=a0a h;refine zC (b6E hA z) ?_;refine zE (nT ?_);rcases tf M with m | m
 ·replace h:=cT m h;refine zU (zk (nT (zs ?_)));refine zB (nT (zs (zs ?_)));refine zB (nT (zb ?_));obtain ⟨i0,L,w,u,e⟩:=a0S h;refine zM 0 [0,6] [] 0 (fun τ => ∃ j,w (.inl j)=some (r,s)/\τ=⟨[(0,zl 1 g),(6,(.own 1 j))],[],47⟩) ?_ ?_
  ·refine zP L [0,1,6,12,13,14] [] 0 (fun (q,i)=>⟨[(0,zl 1 g),(1,zl 1 c),(6,(.own 1 q)),(12,zl 1 c),(13,(.d (.int .i64 (A.len c)))),(14,zi i)],[],47⟩) ⟨rfl,zv⟩ ?_;rintro ⟨q,i⟩ P a;dsimp only [a8w] at a;refine zs (zA (nT (zs ?_)));rcases tf (A.zlt i (A.len c)) with k | k
   ·replace a:=cT k a;refine zT (zk (nT (zs (zb (zs ?_)))));obtain ⟨y,B,a⟩:=a0a a;obtain ⟨Q,R⟩:=gtI B;refine zB (nT (zs (zs ?_)));obtain ⟨v,b,a⟩:=a0a a;refine zN [0,1,6,8,12,13,14,31] [] 0 (fun τ=>τ=⟨[(0,zl 1 g),(1,zl 1 c),(6,(.own 1 q)),(8,zi y),(12,zl 1 c),(13,(.d (.int .i64 (A.len c)))),(14,zi i),(31,.d (.bool v))],[],47⟩) ?_ ?_
    ·refine zn ?_;obtain ⟨N,C,b⟩:=a0a b;refine zD (b4W hA C) ?_;rcases tf N with l | l
     ·replace b:=cT l b;obtain ⟨c0,E,b⟩:=a0a b;obtain ⟨S,U,V,W⟩:=slI E;obtain ⟨e0,F,b⟩:=a0a b;refine zD (b9Z hA F) ?_;refine zF ?_;cases soI b;exact zO
     replace b:=cF l b;refine zF ?_;cases soI b;exact zO
    rintro _ rfl;refine nT ?_;rcases tf v with o | o
    ·replace a:=cT o a;refine zT (zs ?_);refine zB (nT (zr (rT (rB (rT (rT ?_))))));refine exL a ?_;rintro rfl;refine oxR ?_;replace e:=(eR (u _ e));refine rB (rT ?_);cases soI e;exact zq
    replace a:=cF o a;refine zU (zk (nT (zn ?_)));obtain ⟨O,G,a⟩:=a0a a;obtain ⟨X,Y⟩:=gtI G;obtain ⟨g0,J,a⟩:=a0a a;refine zD (b8P hA J) ?_ { tk:=[6,39] };obtain ⟨d0,K,a⟩:=a0a a;obtain ⟨a0,b0⟩:=apI K;refine zF (nB (nT ?_)) { tk:=[6,39] };refine zB ?_;exact nT ⟨_,(soI a).symm,rfl,zv⟩
   replace a:=cF k a;refine zU (AWp.exit (xT (xT ?_)));refine exL a ?_;rintro rfl;exact oxI ⟨rfl,_,e,zv⟩
  rintro _ ⟨j,e,rfl⟩;have h:=(eL (u _ e));refine xB (nT (zs (zs (zA (nT ?_)))));rcases tf (A.zeq (A.len j) (A.len g)) with p | p
  ·replace h:=cT p h;refine zU (zk (nT (zs ?_)));refine zB (nT (zr ?_));cases soI h;exact zq
  replace h:=cF p h;refine zT (zs ?_);refine zB (nT (zr (rT ?_)));cases soI h;exact zq
 replace h:=cF m h;refine zT (zs ?_);refine zB (nT (zr (rT ?_)));cases soI h;exact zq

theorem c0c {A:Ar} (hA:SA A) {O:List D} {e g:Int} {q:List D} (h:M85 A O e g=some q):a0m Try.prog 85 [zl 3 O,.ptr 0 0,.ptr 1 0] [.cells [zi e],.cells [zi g]] (zl 3 q) [.cells [zi e],.cells [zi g]]:=by
 unfold M85 at h;refine zI Try.func85 ?_;refine zs (zA (nT (zs (zn ?_))));obtain ⟨a,M,h⟩:=a0a h;rcases tf (A.zlt 0 (A.len a)) with p | p
 ·replace h:=cT p h;obtain ⟨_,e7,h⟩:=a0a h;refine zC (a0m.thaw (b8P hA M) rfl rfl (neL hA p) (ckI e7) (H:=[.cells [zi e],.cells [zi g]]) rfl (b9B hA)) ?_ { tk:=[9] };refine zF (nT (zs (zs ?_))) { tk:=[9] };refine zB (nT (zb ?_));obtain ⟨m1,l0,Q,j0,G⟩:=a0S h;refine zM 0 [5] [] 3 (fun τ => ∃ J,Q J=some q/\τ=⟨[(5,.mref 2 3 0 (A.len a))],[.cells [zi e],.cells [zi g],(.arr 3 J)],43⟩) ?_ ?_
  ·refine zP l0 [1,2,5,10,11,12] [] 3 (fun (o,N)=>⟨[(1,.ptr 0 0),(2,.ptr 1 0),(5,.mref 2 3 0 (A.len a)),(10,.mref 2 3 0 (A.len a)),(11,(.d (.int .i64 (A.len a)))),(12,zi o)],[.cells [zi e],.cells [zi g],(.arr 3 N)],43⟩) ⟨rfl,zv⟩ ?_;rintro ⟨o,N⟩ y0 b;dsimp only [a9V] at b;refine zs (zA (nT (zs ?_)));rcases tf (A.zlt o (A.len a)) with u | u
   ·replace b:=cT u b;refine zT (zk (nT (zs (zb (zs ?_)))));obtain ⟨_,R,b⟩:=a0a b;have z0:=ckI R;obtain ⟨_,S,b⟩:=a0a b;have a1:=ckI S;obtain ⟨⟨r0,K,s0⟩,U,b⟩:=a0a b;have b1:=gcI U;refine zB (nT (zb (zs (zn ?_)))) { tk:=[16] };obtain ⟨m0,V,b⟩:=a0a b;refine zD (b8C hA V) ?_;refine zF (nT ?_);obtain ⟨q0,m,b⟩:=a0a b;refine zN [1,2,5,10,11,12] [] 3 (fun τ=>τ=⟨[(1,.ptr 0 0),(2,.ptr 1 0),(5,.mref 2 3 0 (A.len a)),(10,.mref 2 3 0 (A.len a)),(11,(.d (.int .i64 (A.len a)))),(12,zi o)],[.cells [zi e],.cells [zi g],(.arr 3 q0)],43⟩) ?_ ?_
    ·rcases tf m0 with v | v
     ·replace m:=cT v m;refine zU (zs ?_);refine zB (nT ?_);obtain ⟨p0,k,m⟩:=a0a m;refine zN [1,2,5,10,11,12] [] 3 (fun τ=>τ=⟨[(1,.ptr 0 0),(2,.ptr 1 0),(5,.mref 2 3 0 (A.len a)),(10,.mref 2 3 0 (A.len a)),(11,(.d (.int .i64 (A.len a)))),(12,zi o)],[.cells [zi e],.cells [zi g],(.arr 3 p0)],43⟩) ?_ ?_
      ·rcases tf (A.zeq K e) with w | w
       ·replace k:=cT w k;refine zT ?_;obtain ⟨_,W,k⟩:=a0a k;have c1:=ckI W;obtain ⟨_,X,k⟩:=a0a k;have d1:=ckI X;refine zB ?_;cases soI k;exact zO
       replace k:=cF w k;refine zU (zs ?_);refine zB (nT ?_);obtain ⟨o0,l,k⟩:=a0a k;refine zN [1,2,5,10,11,12] [] 3 (fun τ=>τ=⟨[(1,.ptr 0 0),(2,.ptr 1 0),(5,.mref 2 3 0 (A.len a)),(10,.mref 2 3 0 (A.len a)),(11,(.d (.int .i64 (A.len a)))),(12,zi o)],[.cells [zi e],.cells [zi g],(.arr 3 o0)],43⟩) ?_ ?_
       ·rcases tf (A.zeq K g) with y | y
        ·replace l:=cT y l;refine zT ?_;obtain ⟨_,Y,l⟩:=a0a l;have e1:=ckI Y;obtain ⟨_,a0,l⟩:=a0a l;have g1:=ckI a0;refine zB ?_;cases soI l;exact zO
        replace l:=cF y l;refine zU (zk ?_);cases soI l;exact zO
       rintro _ rfl;cases soI k;exact zO
      rintro _ rfl;cases soI m;exact zO
     replace m:=cF v m;refine zT (zk ?_);cases soI m;exact zO
    rintro _ rfl;refine nB (nB (nT (zA ?_)));exact nT ⟨_,(soI b).symm,rfl,zc⟩
   replace b:=cF u b;refine zU (AWp.exit (xT (xT ?_)));refine exL b ?_;rintro rfl;exact oxI ⟨rfl,_,G,zv⟩
  rintro _ ⟨J,G,rfl⟩;have h:=(j0 _ G);refine xB (nT (zs (zA (nT ?_) { tk:=[5,42] })));obtain ⟨k1,b0,h⟩:=a0a h;obtain ⟨e0,g0⟩:=fzI hA b0;refine AWp.freeze (s:=4) (i:=2) rfl rfl e0 g0 ?_;refine zr ?_;cases soI h;exact zq
 replace h:=cF p h;refine zC (b8P hA M) ?_ { tk:=[9] };refine zF (nT (zs (zs ?_))) { tk:=[9] };refine zB (nT (zb ?_));obtain ⟨l1,k0,P,i0,F⟩:=a0S h;refine zM 0 [5] [] 2 (fun τ=>P ()=some q/\τ=⟨[(5,(.own 3 a))],[.cells [zi e],.cells [zi g]],43⟩) ?_ ?_
 ·refine zP k0 [1,2,5,10,11,12] [] 2 (fun r=>⟨[(1,.ptr 0 0),(2,.ptr 1 0),(5,(.own 3 a)),(10,zl 3 a),(11,(.d (.int .i64 (A.len a)))),(12,zi r)],[.cells [zi e],.cells [zi g]],43⟩) ⟨rfl,zv⟩ ?_;rintro r w0 j;dsimp only [b4U] at j;refine zs (zA (nT (zs ?_)));rcases tf (A.zlt r (A.len a)) with z | z
  ·replace j:=cT z j;refine zT (zk (nT (zs (zb (zs ?_)))));obtain ⟨⟨u0,L,v0⟩,c0,j⟩:=a0a j;obtain ⟨i1,j1⟩:=gtI c0;refine zB (nT (zb (zs (zn ?_)))) { tk:=[16] };obtain ⟨n0,d0,j⟩:=a0a j;refine zD (b8C hA d0) ?_;refine zF (nT ?_);obtain ⟨_,c,j⟩:=a0a j;refine zN [1,2,5,10,11,12] [] 2 (fun τ=>τ=⟨[(1,.ptr 0 0),(2,.ptr 1 0),(5,(.own 3 a)),(10,zl 3 a),(11,(.d (.int .i64 (A.len a)))),(12,zi r)],[.cells [zi e],.cells [zi g]],43⟩) ?_ ?_
   ·rcases tf n0 with B | B
    ·replace c:=cT B c;refine zU (zs ?_);refine zB (nT ?_);rcases tf (A.zeq L e) with C | C
     ·replace c:=cT C c;refine zT ?_;cases c
     replace c:=cF C c;refine zU (zs ?_);refine zB (nT ?_);rcases tf (A.zeq L g) with E | E
     ·replace c:=cT E c;refine zT ?_;cases c
     replace c:=cF E c;refine zU (zk ?_);cases soI c;exact zO
    replace c:=cF B c;refine zT (zk ?_);cases soI c;exact zO
   rintro _ rfl;refine nB (nB (nT (zA ?_)));exact nT ⟨_,(soI j).symm,rfl,zc⟩
  replace j:=cF z j;refine zU (AWp.exit (xT (xT ?_)));refine exL j ?_;rintro rfl;exact oxI ⟨rfl,F,zv⟩
 rintro _ ⟨F,rfl⟩;have h:=(i0 _ F);refine xB (nT (zs (zA (nT ?_) { tk:=[5,42] })));refine AWp.softR [4] ?_;refine zr ?_;cases soI h;exact zq

theorem c0d {A:Ar} (hA:SA A) {b:List D} {c e:Int} {m:List D} {o:Int} (h:M84 A b c e=some (m,o)):a0m Try.prog 84 [zl 1 b,(.func 85 [] [.ptr 0 0,.ptr 1 0])] [.cells [zi c],.cells [zi e]] (.tuple [zl 1 m,zi o]) [.cells [zi c],.cells [zi e]]:=by
 unfold M84 at h;refine zI Try.func84 ?_;refine zs (zA (nT (zs (zs (zn ?_)))));obtain ⟨E,z,h⟩:=a0a h;refine zC (b6E hA z) ?_;refine zE (nT ?_);rcases tf E with i | i
 ·replace h:=cT i h;refine zU (zk (nT (zs ?_)));obtain ⟨_,r,h⟩:=a0a h;have N:=ckI r;obtain ⟨_,s,h⟩:=a0a h;have O:=ckI s;obtain ⟨_,u,h⟩:=a0a h;have P:=ckI u;refine zB (nT (zs (zs ?_))) { tk:=[14],gr:=[14],th:=[14] };refine zB (nT (zb ?_));obtain ⟨S,C,q,B,j⟩:=a0S h;refine AWp.cutXW 0 (fun τ => ∃ l,q l=some (m,o)/\τ=⟨[(6,.gref 2 1)],[.cells [zi c],.cells [zi e],.gro 1 l,.dead,.dead],29⟩) ?_ ?_
  ·refine AWp.iterW C (fun (k,p)=>⟨[(1,(.func 85 [] [.ptr 0 0,.ptr 1 0])),(6,.gref 2 1),(15,zl 1 b),(16,(.d (.int .i64 (A.len b)))),(17,zi k)],[.cells [zi c],.cells [zi e],.gro 1 p,.dead,.dead],29⟩) ⟨_,zR [some 0,some 1,some 2,some 3,some 4] [1,6,15,16,17],rfl⟩ ?_;rintro ⟨k,p⟩ G a;dsimp only [a9W] at a;refine zs (zA (nT (zs ?_)));rcases tf (A.zlt k (A.len b)) with g | g
   ·replace a:=cT g a;refine zT (zk (nT (zs (zb (zs ?_)))));obtain ⟨F,v,a⟩:=a0a a;obtain ⟨J,K⟩:=gtI v;refine zB (nT (zn ?_));obtain ⟨R,w,a⟩:=a0a a;refine zD (c0c hA w) ?_ { tk:=[6,26] };obtain ⟨Q,y,a⟩:=a0a a;obtain ⟨L,M⟩:=apI y;refine zF (nB (nT ?_)) { tk:=[6,26],gr:=[26] };refine zB ?_;exact nT ⟨_,(soI a).symm,_,zR [some 0,some 1,some 5,some 6,some 7] [1,6,15,16,17],rfl⟩
   replace a:=cF g a;refine zU (AWp.exit (xT (xT ?_)));refine exL a ?_;rintro rfl;exact b6h ⟨_,zR [some 0,some 1,some 2,some 3,some 4] [6],_,j,rfl⟩
  rintro _ ⟨l,j,rfl⟩;have h:=(B _ j);refine xB (nT (zs (zA (nT ?_))));refine AWp.weak (Wk.freezeS 4 rfl rfl) ?_;refine zr ?_;cases soI h;exact zq
 replace h:=cF i h;refine zT (zs ?_);refine zB (nT (zr (rT ?_)));cases soI h;exact zq

theorem c0e {A:Ar} (hA:SA A) {g:List D} {i j:Int} {l:List D} {m:Int} (h:M40 A g i j=some (l,m)):a0m Try.prog 40 [zl 1 g,zi i,zi j] [] (.tuple [zl 1 l,zi m]) []:=by
 unfold M40 at h;refine zI Try.func40 ?_;refine zs (zA (nT (zs (zb (zs (zn ?_))))) { esc:=[4,5] });obtain ⟨s,q,h⟩:=a0a h;refine zC (b6E hA q) ?_;refine zE (nT ?_);rcases tf s with c | c
 ·replace h:=cT c h;refine zU (zs ?_);obtain ⟨k,a,h⟩:=a0a h;refine zN [0,4,5,12] [] 2 (fun τ=>τ=⟨[(0,zl 1 g),(4,.ptr 0 0),(5,.ptr 1 0),(12,.d (.bool k))],[.cells [zi i],.cells [zi j]],26⟩) ?_ ?_
  ·refine zn ?_;obtain ⟨u,r,a⟩:=a0a a;refine zD (b4W hA r) ?_;rcases tf u with e | e
   ·replace a:=cT e a;obtain ⟨v,o,a⟩:=a0a a;refine zD (b4W hA o) ?_;refine zF ?_;cases soI a;exact zO
   replace a:=cF e a;refine zF ?_;cases soI a;exact zO
  rintro _ rfl;refine nT ?_;rcases tf k with b | b
  ·replace h:=cT b h;refine zT (zs ?_);refine zB (nT (zr (rB (rT ?_))));cases soI h;exact zq
  replace h:=cF b h;refine zU (zk (nB (nT (zs (zn ?_)))));obtain ⟨⟨w,y⟩,p,h⟩:=a0a h;refine zD (c0d hA p) ?_;refine zF (nT (zr ?_));cases soI h;exact zq
 replace h:=cF c h;refine zT (zs ?_);refine zB (nT (zr (rB (rT ?_))));cases soI h;exact zq

theorem b9z {A:Ar} (hA:SA A) {e i:List D} {s:Bool} (h:M41 A e i=some s):a0m Try.prog 41 [zl 1 e,zl 1 i] [] (.d (.bool s)) []:=by
 unfold M41 at h;refine zI Try.func41 ?_;refine zs (zA (nT (zs (zs ?_))));refine zA (nT ?_);rcases tf (A.zeq (A.len e) (A.len i)) with k | k
 ·replace h:=cT k h;refine zU (zk (nT (zs (zs ?_))));refine zB (nT (zb ?_));obtain ⟨d0,Q,y,q,c⟩:=a0S h;refine zM 0 [] [] 0 (fun τ=>y (.inl ())=some s/\τ=⟨[],[],53⟩) ?_ ?_
  ·refine zP Q [0,1,5] [] 0 (fun j=>⟨[(0,zl 1 e),(1,zl 1 i),(5,zi j)],[],53⟩) ⟨rfl,zv⟩ ?_;rintro j O a;dsimp only [b0P] at a;refine zs (zs (zA (nT ?_)));rcases tf (A.zlt j (A.len e)) with l | l
   ·replace a:=cT l a;refine zT (zk (nT (zs (zb (zs (zs ?_))))));obtain ⟨u,K,a⟩:=a0a a;obtain ⟨S,U⟩:=gtI K;obtain ⟨z,L,a⟩:=a0a a;obtain ⟨V,W⟩:=gtI L;refine zH ?_;refine nT ?_;rcases tf (A.zeq (A.len u) (A.len z)) with m | m
    ·replace a:=cT m a;refine zU (zk (nT (zs ?_)));refine zB (nT (zb ?_));obtain ⟨c0,P,w,v,g⟩:=a0S a;refine zM 2 [0,1,5] [] 0 (fun τ=>w (.inl ())=some O/\τ=⟨[(0,zl 1 e),(1,zl 1 i),(5,zi j)],[],53⟩) ?_ ?_
     ·refine zP P [0,1,5,6] [] 0 (fun r=>⟨[(0,zl 1 e),(1,zl 1 i),(5,zi j),(6,zi r)],[],53⟩) ⟨rfl,zv⟩ ?_;rintro r R b;dsimp only [b0O] at b;refine zs (zs (zB (nT ?_)));rcases tf (A.zlt r (A.len u)) with o | o
      ·replace b:=cT o b;refine zT (zk (nT (zs (zb (zs ?_)))));obtain ⟨⟨B,C,E⟩,M,b⟩:=a0a b;obtain ⟨X,Y⟩:=gtI M;obtain ⟨⟨F,G,J⟩,N,b⟩:=a0a b;obtain ⟨a0,b0⟩:=gtI N;refine zH ?_;refine nT ?_;rcases tf (A.deq [.int .i64 B,.int .i64 C,.int .i64 E] [.int .i64 F,.int .i64 G,.int .i64 J]) with p | p
       ·replace b:=cT p b;refine zU (zk (nB (nT ?_)));refine zB ?_;exact nT ⟨_,(soI b).symm,rfl,zv⟩
       replace b:=cF p b;refine zT (zs ?_);refine zB (nT (zr (rB (rT (rT ?_)))));refine exL b ?_;rintro rfl;refine oxR ?_;replace g:=(eR (v _ g));refine rB (rB (rT (rT ?_)));refine exL g ?_;rintro rfl;refine oxR ?_;replace c:=(eR (q _ c));refine rB (rT ?_);cases soI c;exact zq
      replace b:=cF o b;refine zU (AWp.exit (xT (xT ?_)));refine exL b ?_;rintro rfl;exact oxI ⟨rfl,g,zv⟩
     rintro _ ⟨g,rfl⟩;have a:=(eL (v _ g));refine xB (nB (nT (zA ?_)));exact nT ⟨_,(soI a).symm,rfl,zc⟩
    replace a:=cF m a;refine zT (zs ?_);refine zB (nT (zr (rT (rB (rT (rT ?_))))));refine exL a ?_;rintro rfl;refine oxR ?_;replace c:=(eR (q _ c));refine rB (rT ?_);cases soI c;exact zq
   replace a:=cF l a;refine zU (AWp.exit (xT (xT ?_)));refine exL a ?_;rintro rfl;exact oxI ⟨rfl,c,zv⟩
  rintro _ ⟨c,rfl⟩;have h:=(eL (q _ c));refine xB (nT (zs (zA (nT (zr ?_)))));cases soI h;exact zq
 replace h:=cF k h;refine zT (zs ?_);refine zB (nT (zr (rT ?_)));cases soI h;exact zq

theorem c0f {A:Ar} (hA:SA A) {c g p:List D} {q:Int} (h:M52 A c g=some (p,q)):a0m Try.prog 52 [zl 1 c,zl 1 g] [] (.tuple [zl 1 p,zi q]) []:=by
 unfold M52 at h;refine zI Try.func52 ?_;refine zs (zA (nT (zs (zs (zn ?_)))));obtain ⟨V,F,h⟩:=a0a h;refine zC (b8A hA F) ?_;refine zE (nT ?_);rcases tf V with j | j
 ·replace h:=cT j h;refine zU (zk (nT (zs (zs ?_))));refine zB (nT ?_);rcases tf (A.zeq (A.len g) (A.len c)) with l | l
  ·replace h:=cT l h;refine zU (zk (nT (zs ?_)));refine zB (nT (zs ?_));obtain ⟨_,B,h⟩:=a0a h;have f7:=ckI B;obtain ⟨_,C,h⟩:=a0a h;have f8:=ckI C;obtain ⟨_,E,h⟩:=a0a h;have f9:=ckI E;refine zB (nT (zs (zs ?_)));refine zB (nT (zb ?_));obtain ⟨a1,U,z,w,e⟩:=a0S h;refine zM 0 [6] [] 1 (fun τ => ∃ u v,z (.inl (u,v))=some (p,q)/\τ=⟨[(6,(.own 1 u))],[(.arr 1 v)],63⟩) ?_ ?_
   ·refine zP U [0,1,6,7,8] [] 1 (fun (r,i,s)=>⟨[(0,zl 1 c),(1,zl 1 g),(6,(.own 1 r)),(7,.mref 0 1 0 (A.len c)),(8,zi i)],[(.arr 1 s)],63⟩) ⟨rfl,zv⟩ ?_;rintro ⟨r,i,s⟩ e0 a;dsimp only [a7l] at a;refine zs (zs (zA (nT ?_)));rcases tf (A.zlt i (A.len g)) with k | k
    ·replace a:=cT k a;refine zT (zk (nT (zs (zb (zs (zs ?_))))));obtain ⟨y,b,a⟩:=a0a a;refine zN [0,1,6,7,8,43] [] 1 (fun τ=>τ=⟨[(0,zl 1 c),(1,zl 1 g),(6,(.own 1 r)),(7,.mref 0 1 0 (A.len c)),(8,zi i),(43,.d (.bool y))],[(.arr 1 s)],63⟩) ?_ ?_
     ·refine zn ?_;obtain ⟨X,G,b⟩:=a0a b;obtain ⟨g0,i0⟩:=gtI G;obtain ⟨W,J,b⟩:=a0a b;refine zD (b4V hA J) ?_;rcases tf W with m | m
      ·replace b:=cT m b;obtain ⟨_,K,b⟩:=a0a b;have j0:=ckI K;obtain ⟨_,L,b⟩:=a0a b;have k0:=ckI L;obtain ⟨Y,M,b⟩:=a0a b;have l0:=gcI M;refine zF ?_;cases soI b;exact zO
      replace b:=cF m b;refine zF ?_;cases soI b;exact zO
     rintro _ rfl;refine nT ?_;rcases tf y with o | o
     ·replace a:=cT o a;refine zT (zs ?_);refine zB (nT (zr (rT (rB (rT (rT ?_))))));refine exL a ?_;rintro rfl;refine oxR ?_;replace e:=(eR (w _ e));refine rB (rT ?_);cases soI e;exact zq
     replace a:=cF o a;refine zU (zk (nT (zs ?_)));obtain ⟨a0,N,a⟩:=a0a a;obtain ⟨m0,n0⟩:=gtI N;obtain ⟨_,O,a⟩:=a0a a;have o0:=ckI O;obtain ⟨_,P,a⟩:=a0a a;have p0:=ckI P;obtain ⟨c0,d0,a⟩:=a0a a;refine zB (nT ?_);obtain ⟨b0,Q,a⟩:=a0a a;obtain ⟨q0,r0⟩:=gtI Q;obtain ⟨y0,R,a⟩:=a0a a;obtain ⟨s0,u0⟩:=apI R;obtain ⟨z0,S,a⟩:=a0a a;obtain ⟨v0,w0⟩:=apI S;refine zB (nB (nT ?_)) { tk:=[6,61] };refine zB ?_;exact nT ⟨_,(soI a).symm,rfl,zv⟩
    replace a:=cF k a;refine zU (AWp.exit (xT (xT ?_)));refine exL a ?_;rintro rfl;exact oxI ⟨rfl,_,_,e,zv⟩
   rintro _ ⟨u,v,e,rfl⟩;have h:=(eL (w _ e));refine xB (nT (zs (zA (nT (zr ?_)))));cases soI h;exact zq
  replace h:=cF l h;refine zT (zs ?_);refine zB (nT (zr (rT ?_)));cases soI h;exact zq
 replace h:=cF j h;refine zT (zs ?_);refine zB (nT (zr (rT ?_)));cases soI h;exact zq

theorem c0g {A:Ar} (hA:SA A) {c:List D} {G:Bool} {J:Int} (h:M54 A c=some (G,J)):a0m Try.prog 54 [zl 1 c] [] (.tuple [.d (.bool G),zi J]) []:=by
 unfold M54 at h;refine zI Try.func54 ?_;refine zs (zA (nT (zs (zs (zn ?_)))));obtain ⟨r3,Y,h⟩:=a0a h;refine zC (b8A hA Y) ?_;refine zE (nT ?_);rcases tf r3 with z | z
 ·replace h:=cT z h;refine zU (zk (nT (zs (zs ?_))));refine zB (nT (zb ?_));obtain ⟨m1,n0,U,N,r⟩:=a0S h;refine zM 0 [] [] 0 (fun τ=>U (.inl ())=some (G,J)/\τ=⟨[],[],85⟩) ?_ ?_
  ·refine zP n0 [0,4] [] 0 (fun e=>⟨[(0,zl 1 c),(4,zi e)],[],85⟩) ⟨rfl,zv⟩ ?_;rintro e j0 k;dsimp only [b0U] at k;refine zs (zs (zA (nT ?_)));rcases tf (A.zlt e (A.len c)) with u | u
   ·replace k:=cT u k;refine zT (zk (nT (zs (zb (zs ?_)))));refine zB (nT (zb ?_));obtain ⟨l1,m0,S,M,q⟩:=a0S k;refine zM 2 [0,4] [] 0 (fun τ=>S (.inl ())=some j0/\τ=⟨[(0,zl 1 c),(4,zi e)],[],85⟩) ?_ ?_
    ·refine zP m0 [0,4,5] [] 0 (fun i=>⟨[(0,zl 1 c),(4,zi e),(5,zi i)],[],85⟩) ⟨rfl,zv⟩ ?_;rintro i i0 j;dsimp only [b0T] at j;refine zs (zs (zA (nT ?_)));rcases tf (A.zlt i (A.len c)) with v | v
     ·replace j:=cT v j;refine zT (zk (nT (zs (zb (zs ?_)))));refine zB (nT (zb ?_));obtain ⟨k1,l0,R,L,p⟩:=a0S j;refine zM 4 [0,4,5] [] 0 (fun τ=>R (.inl ())=some i0/\τ=⟨[(0,zl 1 c),(4,zi e),(5,zi i)],[],85⟩) ?_ ?_
      ·refine zP l0 [0,4,5,6] [] 0 (fun m=>⟨[(0,zl 1 c),(4,zi e),(5,zi i),(6,zi m)],[],85⟩) ⟨rfl,zv⟩ ?_;rintro m g0 g;dsimp only [b0S] at g;refine zs (zs ?_);obtain ⟨V,a0,g⟩:=a0a g;obtain ⟨w0,y0⟩:=gtI a0;refine zB (nT ?_);rcases tf (A.zlt m (A.len V)) with w | w
       ·replace g:=cT w g;refine zT (zk (nT (zs (zb (zs ?_)))));refine zB (nT (zb ?_));obtain ⟨j1,k0,Q,K,o⟩:=a0S g;refine zM 6 [0,4,5,6] [] 0 (fun τ=>Q (.inl ())=some g0/\τ=⟨[(0,zl 1 c),(4,zi e),(5,zi i),(6,zi m)],[],85⟩) ?_ ?_
        ·refine zP k0 [0,4,5,6,7] [] 0 (fun s=>⟨[(0,zl 1 c),(4,zi e),(5,zi i),(6,zi m),(7,zi s)],[],85⟩) ⟨rfl,zv⟩ ?_;rintro s v0 b;dsimp only [b0R] at b;refine zs (zs ?_);obtain ⟨O,l,b⟩:=a0a b;refine zN [0,4,5,6,7,43] [] 0 (fun τ=>τ=⟨[(0,zl 1 c),(4,zi e),(5,zi i),(6,zi m),(7,zi s),(43,.d (.bool O))],[],85⟩) ?_ ?_
         ·rcases tf (A.zeq e i) with y | y
          ·replace l:=cT y l;refine zB ?_;cases soI l;exact zO
          replace l:=cF y l;obtain ⟨o0,b0,l⟩:=a0a l;obtain ⟨z0,a1⟩:=gtI b0;refine zB ?_;cases soI l;exact zO
         rintro _ rfl;refine nT ?_;rcases tf O with B | B
         ·replace b:=cT B b;refine zT (zk (nT (zs (zb (zs ?_)))));obtain ⟨P,a,b⟩:=a0a b;refine zN [0,4,5,6,7,84] [] 0 (fun τ=>τ=⟨[(0,zl 1 c),(4,zi e),(5,zi i),(6,zi m),(7,zi s),(84,.d (.bool P))],[],85⟩) ?_ ?_
          ·obtain ⟨⟨W,p0,q0⟩,c0,a⟩:=a0a a;obtain ⟨b1,c1⟩:=gtI c0;rcases tf (A.zeq W 2) with C | C
           ·replace a:=cT C a;obtain ⟨r0,d0,a⟩:=a0a a;obtain ⟨d1,e1⟩:=gtI d0;obtain ⟨⟨X,s0,u0⟩,e0,a⟩:=a0a a;obtain ⟨g1,i1⟩:=gtI e0;rcases tf (A.zeq X 3) with E | E
            ·replace a:=cT E a;refine zH ?_;cases soI a;exact zO
            replace a:=cF E a;refine zH ?_;cases soI a;exact zO
           replace a:=cF C a;refine zH ?_;cases soI a;exact zO
          rintro _ rfl;refine nT ?_;rcases tf P with F | F
          ·replace b:=cT F b;refine zT (zs ?_);refine zB (nT (zr (rB (rT (rT ?_)))));refine exL b ?_;rintro rfl;refine oxR ?_;replace o:=(eR (K _ o));refine rB (rB (rT (rT ?_)));refine exL o ?_;rintro rfl;refine oxR ?_;replace p:=(eR (L _ p));refine rB (rB (rT (rT ?_)));refine exL p ?_;rintro rfl;refine oxR ?_;replace q:=(eR (M _ q));refine rB (rB (rT (rT ?_)));refine exL q ?_;rintro rfl;refine oxR ?_;replace r:=(eR (N _ r));refine rB (rT ?_);cases soI r;exact zq
          replace b:=cF F b;refine zU (zk (nB (nT ?_)));refine zB ?_;exact nT ⟨_,(soI b).symm,rfl,zv⟩
         replace b:=cF B b;refine zU (AWp.exit (xT (xT ?_)));refine exL b ?_;rintro rfl;exact oxI ⟨rfl,o,zv⟩
        rintro _ ⟨o,rfl⟩;have g:=(eL (K _ o));refine xB (nB (nT (zA ?_)));exact nT ⟨_,(soI g).symm,rfl,zc⟩
       replace g:=cF w g;refine zU (AWp.exit (xT (xT ?_)));refine exL g ?_;rintro rfl;exact oxI ⟨rfl,p,zv⟩
      rintro _ ⟨p,rfl⟩;have j:=(eL (L _ p));refine xB (nB (nT (zA ?_)));exact nT ⟨_,(soI j).symm,rfl,zc⟩
     replace j:=cF v j;refine zU (AWp.exit (xT (xT ?_)));refine exL j ?_;rintro rfl;exact oxI ⟨rfl,q,zv⟩
    rintro _ ⟨q,rfl⟩;have k:=(eL (M _ q));refine xB (nB (nT (zA ?_)));exact nT ⟨_,(soI k).symm,rfl,zc⟩
   replace k:=cF u k;refine zU (AWp.exit (xT (xT ?_)));refine exL k ?_;rintro rfl;exact oxI ⟨rfl,r,zv⟩
  rintro _ ⟨r,rfl⟩;have h:=(eL (N _ r));refine xB (nT (zs (zA (nT (zr ?_)))));cases soI h;exact zq
 replace h:=cF z h;refine zT (zs ?_);refine zB (nT (zr (rT ?_)));cases soI h;exact zq

theorem c0h {A:Ar} (hA:SA A) {q u:List D} {r s:Int} {w:Bool} (h:M15 A q u r s=some w):a0m Try.prog 15 [zl 1 q,zl 1 u,.d (.agg [.int .i64 r,.int .i64 s])] [] (.d (.bool w)) []:=by
 unfold M15 at h;refine zI Try.func15 ?_;refine zs (zA (nT (zs (zs ?_))));obtain ⟨y,m,h⟩:=a0a h;refine zN [0,1,5,21] [] 0 (fun τ=>τ=⟨[(0,zl 1 q),(1,zl 1 u),(5,(.lbox [zi r,zi s])),(21,.d (.bool y))],[],93⟩) ?_ ?_
 ·refine zn ?_;obtain ⟨X,N,m⟩:=a0a m;refine zC (b9G hA N) ?_;rcases tf X with p | p
  ·replace m:=cT p m;refine zE ?_ (h:=(by (repeat (cbv;simp only [p]));try cbv))
   cases soI m;exact (zO (g:=(by first | (cbv;done) | ((repeat (cbv;simp only [p]));try cbv))))
  replace m:=cF p m;refine zE ?_ (h:=(by (repeat (cbv;simp only [p]));try cbv))
  cases soI m;exact (zO (g:=(by first | (cbv;done) | ((repeat (cbv;simp only [p]));try cbv))))
 rintro _ rfl;refine nT ?_;rcases tf y with c | c
 ·replace h:=cT c h;refine zT ?_ (hb:=(by first | rfl | simp only [c,zqa,zqb,zqc,zqd]))
  refine zs (zn ?_);obtain ⟨a0,z,h⟩:=a0a h;refine zC (b9x hA z) ?_ { tk:=[22] } (h:=(by (repeat (cbv;simp only [c]));try cbv))
  refine zE ?_ { tk:=[22] } (h:=(by (repeat (cbv;simp only [c]));try cbv))
  refine nT (zr (rT ?_));cases soI h;exact zq
 replace h:=cF c h;refine zU ?_ (hb:=(by first | rfl | simp only [c,zqa,zqb,zqc,zqd]))
 refine zk (nT (zs (zn ?_)));obtain ⟨⟨b0,c0⟩,B,h⟩:=a0a h;refine zC (c0b hA B) ?_ (h:=(by (repeat (cbv;simp only [c]));try cbv))
 refine zE ?_ (h:=(by (repeat (cbv;simp only [c]));try cbv))
 refine nT (zs (zn ?_));obtain ⟨⟨d0,e0⟩,C,h⟩:=a0a h;refine zC (c0f hA C) ?_ (h:=(by (repeat (cbv;simp only [c]));try cbv))
 refine zE ?_ (h:=(by (repeat (cbv;simp only [c]));try cbv))
 refine nT (zs (zs ?_));obtain ⟨v,l,h⟩:=a0a h;refine zN [0,5,43] [] 0 (fun τ=>τ=⟨[(0,zl 1 q),(5,(.lbox [zi r,zi s])),(43,.d (.bool v))],[],93⟩) ?_ ?_
 ·refine zn ?_;obtain ⟨O,E,l⟩:=a0a l;refine zC (b9z hA E) ?_ (h:=(by (repeat (cbv;simp only [c]));try cbv))
  rcases tf O with o | o
  ·replace l:=cT o l;refine zE ?_ (h:=(by (repeat (cbv;simp only [c,o]));try cbv))
   cases soI l;exact (zO (g:=(by first | (cbv;done) | ((repeat (cbv;simp only [c,o]));try cbv))))
  replace l:=cF o l;refine zE ?_ (h:=(by (repeat (cbv;simp only [c,o]));try cbv))
  cases soI l;exact (zO (g:=(by first | (cbv;done) | ((repeat (cbv;simp only [c,o]));try cbv))))
 rintro _ rfl;refine nT ?_;rcases tf v with a | a
 ·replace h:=cT a h;refine zT ?_ (hb:=(by first | rfl | simp only [a,zqa,zqb,zqc,zqd]))
  refine zs ?_;refine zA ?_ (h:=(by (repeat (cbv;simp only [a]));try cbv))
  refine nT (zr (rT ?_));cases soI h;exact zq
 replace h:=cF a h;refine zU ?_ (hb:=(by first | rfl | simp only [a,zqa,zqb,zqc,zqd]))
 refine zk (nT (zs (zn ?_)));obtain ⟨⟨g0,P⟩,F,h⟩:=a0a h;refine zC (c0e hA F) ?_ (h:=(by (repeat (cbv;simp only [a]));try cbv))
 refine zE ?_ (h:=(by (repeat (cbv;simp only [a]));try cbv))
 refine nT (zs (zn ?_));obtain ⟨⟨i0,Q⟩,G,h⟩:=a0a h;refine zC (b9Y hA G) ?_ (h:=(by (repeat (cbv;simp only [a]));try cbv))
 refine zE ?_ (h:=(by (repeat (cbv;simp only [a]));try cbv))
 refine nT (zs (zn ?_));obtain ⟨⟨R,S⟩,J,h⟩:=a0a h;refine zC (b9X hA J) ?_ (h:=(by (repeat (cbv;simp only [a]));try cbv))
 refine zE ?_ (h:=(by (repeat (cbv;simp only [a]));try cbv))
 refine nT (zs (zn ?_));obtain ⟨⟨U,V⟩,K,h⟩:=a0a h;refine zC (c0g hA K) ?_ (h:=(by (repeat (cbv;simp only [a]));try cbv))
 refine zE ?_ (h:=(by (repeat (cbv;simp only [a]));try cbv))
 refine nT (zs ?_);obtain ⟨Y,b,h⟩:=a0a h;refine zN [6] [] 0 (fun τ=>τ=⟨[(6,.d (.bool Y))],[],93⟩) ?_ ?_
 ·refine zn ?_;obtain ⟨W,L,b⟩:=a0a b;refine zC (b9z hA L) ?_ { tk:=[92] } (h:=(by (repeat (cbv;simp only [a]));try cbv))
  rcases tf W with e | e
  ·replace b:=cT e b;rcases tf (A.zeq P Q) with i | i
   ·replace b:=cT i b;rcases tf (A.beq R U) with j | j
    ·replace b:=cT j b;rcases tf (A.zeq S V) with k | k
     ·replace b:=cT k b;obtain ⟨j0,M,b⟩:=a0a b;refine zC (b9x hA M) ?_ { tk:=[92] } (h:=(by (repeat (cbv;simp only [a,e,i,j,k]));try cbv))
      refine zE ?_ { tk:=[92] } (h:=(by (repeat (cbv;simp only [a,e,i,j,k]));try cbv))
      cases soI b;exact (zO (g:=(by first | (cbv;done) | ((repeat (cbv;simp only [a,e,i,j,k]));try cbv))))
     replace b:=cF k b;refine zE ?_ { tk:=[92] } (h:=(by (repeat (cbv;simp only [a,e,i,j,k]));try cbv))
     cases soI b;exact (zO (g:=(by first | (cbv;done) | ((repeat (cbv;simp only [a,e,i,j,k]));try cbv))))
    replace b:=cF j b;refine zE ?_ { tk:=[92] } (h:=(by (repeat (cbv;simp only [a,e,i,j]));try cbv))
    cases soI b;exact (zO (g:=(by first | (cbv;done) | ((repeat (cbv;simp only [a,e,i,j]));try cbv))))
   replace b:=cF i b;refine zE ?_ { tk:=[92] } (h:=(by (repeat (cbv;simp only [a,e,i]));try cbv))
   cases soI b;exact (zO (g:=(by first | (cbv;done) | ((repeat (cbv;simp only [a,e,i]));try cbv))))
  replace b:=cF e b;refine zE ?_ { tk:=[92] } (h:=(by (repeat (cbv;simp only [a,e]));try cbv))
  cases soI b;exact (zO (g:=(by first | (cbv;done) | ((repeat (cbv;simp only [a,e]));try cbv))))
 rintro _ rfl;refine nT (zr ?_);cases soI h;exact zq
end Go.Am
