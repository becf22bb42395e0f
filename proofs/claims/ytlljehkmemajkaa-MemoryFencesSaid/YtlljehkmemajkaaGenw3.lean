import Derived.Test.YtlljehkmemajkaaGenw2
set_option maxRecDepth 100000
set_option maxHeartbeats 2000000
set_option linter.unusedVariables false
set_option linter.unusedSimpArgs false
namespace Go.Am
open Go Go.Proofs
theorem c0G {A:Ar} (hA:SA A) {C:List D} {m r:Int} {J:List D} {K:Int} (h:M47 A C m r=some (J,K)):a0l Try.prog 47 [zl 1 C,zi m,zi r] [] (.tuple [zl 1 J,zi K]) []:=by
 unfold M47 at h;refine zI Try.func47 ?_;refine zs (zA (nT (zs (zb (zs (zn ?_))))));obtain ⟨W,N,h⟩:=a0a h;refine zC (b8A hA N) ?_;refine zE (nT ?_);rcases tf W with c | c
 ·replace h:=cT c h;refine zU ?_ (hb:=(by first | rfl | simp only [c,zqa,zqb,zqc,zqd]))
  refine zs ?_;obtain ⟨G,b,h⟩:=a0a h;refine zN [0,1,2,13] [] 0 (fun τ=>τ=⟨[(0,zl 1 C),(1,zi m),(2,zi r),(13,.d (.bool G))],[],52⟩) ?_ ?_
  ·refine zn ?_;obtain ⟨X,O,b⟩:=a0a b;refine zC (b6D hA O) ?_ (h:=(by (repeat (cbv;simp only [c]));try cbv))
   rcases tf X with p | p
   ·replace b:=cT p b;obtain ⟨Y,L,b⟩:=a0a b;obtain ⟨v,w⟩:=gtI L;obtain ⟨V,M,b⟩:=a0a b;refine zC (b6D hA M) ?_ (h:=(by (repeat (cbv;simp only [c,p,v,w]));try cbv))
    rcases tf V with s | s
    ·replace b:=cT s b;refine zE ?_ (h:=(by (repeat (cbv;simp only [c,p,s,v,w]));try cbv))
     cases soI b;exact (zO (g:=(by first | (cbv;done) | ((repeat (cbv;simp only [c,p,s]));try cbv))))
    replace b:=cF s b;refine zE ?_ (h:=(by (repeat (cbv;simp only [c,p,s,v,w]));try cbv))
    cases soI b;exact (zO (g:=(by first | (cbv;done) | ((repeat (cbv;simp only [c,p,s]));try cbv))))
   replace b:=cF p b;refine zE ?_ (h:=(by (repeat (cbv;simp only [c,p]));try cbv))
   cases soI b;exact (zO (g:=(by first | (cbv;done) | ((repeat (cbv;simp only [c,p]));try cbv))))
  rintro _ rfl;refine nT ?_;rcases tf G with j | j
  ·replace h:=cT j h;refine zT ?_ (hb:=(by first | rfl | simp only [j,zqa,zqb,zqc,zqd]))
   refine zs ?_;refine zA ?_ (h:=(by (repeat (cbv;simp only [j]));try cbv))
   refine nT (zr (rB (rT ?_)));cases soI h;exact zq
  replace h:=cF j h;refine zU ?_ (hb:=(by first | rfl | simp only [j,zqa,zqb,zqc,zqd]))
  refine zk (nB (nT (zs (zn ?_))));obtain ⟨a0,e,h⟩:=a0a h;obtain ⟨rJ,eJ,e⟩:=a0a e;obtain ⟨aJ,eg,e⟩:=a0a e;obtain ⟨u,E⟩:=gtI eg;obtain ⟨_,ek,e⟩:=a0a e;have R:0<=r:=of_decide_eq_true (ckI ek);obtain ⟨_,P,e⟩:=a0a e;have S:r<=(aJ.length:Int):=of_decide_eq_true (ckI P);obtain ⟨_,Q,e⟩:=a0a e;have U:aJ.length<=1000000:=of_decide_eq_true (ckI Q);refine zC (b9b hA eJ) ?_ (h:=(by (repeat (cbv;simp only [j]));try cbv))
  refine zE ?_ (h:=(by (repeat (cbv;simp only [j]));try cbv))
  refine nT ?_;have B:A.zlt m (A.len rJ)=true:=b9W hA u E;have F:A.zeq m m=true:=b6x hA m;refine AWp.weak (Wk.openGA hA 0 m (k:=3) (l:=rJ) (y:=aJ) rfl u E) ?_;refine zs (zn ?_);have hI:a0l Try.prog 91 [.gref 3 3,.d (.int .i64 r),.gref 6 3] [.jag 3 rJ (some (m,.gref 3 3)),.dead,.dead,.gro 3 aJ,.dead,.dead,.gro 3 [.agg [.int .i64 3,.int .i64 0,.int .i64 0]],.dead,.dead] (.gref 9 3)
    [.jag 3 rJ (some (m,.gref 3 3)),.dead,.dead,.dead,.dead,.dead,.gro 3 [.agg [.int .i64 3,.int .i64 0,.int .i64 0]],.dead,.dead,.gro 3 (b6V aJ r),.dead,.dead] :=
   a0l.ins (a:=3) (q:=6) (y:=aJ) (z:=r) rfl rfl (by decide) R S U rfl
  obtain ⟨yJ,hyJ⟩ : ∃ yJ,yJ=b6V aJ r:=⟨_,rfl⟩;rw [<-hyJ] at hI e;refine a1F.cc hT hA { gr:=[48] } (by (repeat (cbv;simp only [j,u,B,F]));try cbv) (lb rfl) hI rfl (.inl rfl) rfl rfl rfl (lb rfl) rfl rfl ?_
  refine zE ?_ (h:=(by (repeat (cbv;simp only [j,u,B,F]));try cbv))
  refine nT ?_;refine AWp.weak (Wk.shutGA hA 0 (q:=9) (k:=3) (z:=m) (l:=rJ) (y:=yJ) rfl rfl u B) ?_;refine AWp.weak (Wk.frzJ 8 (i:=0) (k:=3) (o:=none) rfl rfl rfl) ?_;cases soI e;refine zs ?_;refine zA ?_ (h:=(by (repeat (cbv;simp only [j]));try cbv))
  refine nT (zr ?_);cases soI h;exact zq
 replace h:=cF c h;refine zT ?_ (hb:=(by first | rfl | simp only [c,zqa,zqb,zqc,zqd]))
 refine zs ?_;refine zA ?_ (h:=(by (repeat (cbv;simp only [c]));try cbv))
 refine nT (zr (rB (rT ?_)));cases soI h;exact zq

theorem c0H {A:Ar} (hA:SA A) {m:List D} {b p:Int} {s:List D} {u:Int} (h:M48 A m b p=some (s,u)):a0l Try.prog 48 [zl 1 m,zi b,zi p] [] (.tuple [zl 1 s,zi u]) []:=by
 unfold M48 at h;refine zI Try.func48 ?_;refine zs (zA (nT (zs (zs (zn ?_)))));obtain ⟨V,J,h⟩:=a0a h;refine zC (b9Y hA J) ?_;refine zE (nT ?_);rcases tf V with g | g
 ·replace h:=cT g h;refine zU (zk (nT (zs (zs ?_))));obtain ⟨r,a,h⟩:=a0a h;refine zN [0,1,2,36] [] 0 (fun τ=>τ=⟨[(0,zl 1 m),(1,zi b),(2,zi p),(36,.d (.bool r))],[],64⟩) ?_ ?_
  ·refine zn ?_;obtain ⟨W,O,a⟩:=a0a a;refine zD (b6C hA O) ?_;rcases tf W with j | j
   ·replace a:=cT j a;obtain ⟨X,v,a⟩:=a0a a;obtain ⟨a0,b0⟩:=gtI v;obtain ⟨S,w,a⟩:=a0a a;refine zD (b6C hA w) ?_;rcases tf S with c | c
    ·replace a:=cT c a;refine zF ?_;cases soI a;exact zO
    replace a:=cF c a;refine zF ?_;cases soI a;exact zO
   replace a:=cF j a;refine zF ?_;cases soI a;exact zO
  rintro _ rfl;refine nT ?_;rcases tf r with e | e
  ·replace h:=cT e h;refine zT (zs ?_);refine zB (nT (zr (rT ?_)));cases soI h;exact zq
  replace h:=cF e h;refine zU (zk (nT (zs (zn ?_))));obtain ⟨U,B,h⟩:=a0a h;refine zD (b9o hA B) ?_;refine zF (nT (zs ?_));refine zB (nT (zs ?_));obtain ⟨Y,C,h⟩:=a0a h;obtain ⟨c0,d0⟩:=gtI C;obtain ⟨v0,E,h⟩:=a0a h;obtain ⟨e0,g0,i0,j0⟩:=slI E;obtain ⟨w0,F,h⟩:=a0a h;obtain ⟨k0,l0⟩:=apI F;refine AWp.weak (Wk.settleS 9 rfl (lb rfl)) ?_;refine zB (nT (zs ?_)) { gr:=[46] };obtain ⟨y0,G,h⟩:=a0a h;obtain ⟨m0,n0⟩:=apI G;refine zB (nT (zs ?_)) { gr:=[50] };obtain ⟨z0,K,h⟩:=a0a h;obtain ⟨o0,p0,q0,r0⟩:=slI K;obtain ⟨R,L,h⟩:=a0a h;obtain ⟨s0,u0⟩:=apI L;refine zB (nT (zs ?_)) { gr:=[58] };obtain ⟨_,M,h⟩:=a0a h;have P:=ckI M;obtain ⟨_,N,h⟩:=a0a h;have Q:=ckI N;refine zB (nT ?_);refine AWp.weak (Wk.shutGA hA 0 (q:=12) (k:=3) (z:=b) (l:=U) (y:=R) rfl rfl P Q) ?_;refine AWp.weak (Wk.frzJ 8 (i:=0) (k:=3) (o:=none) rfl rfl rfl) ?_;refine zs (zB (nT (zr ?_)));cases soI h;exact zq
 replace h:=cF g h;refine zT (zs ?_);refine zB (nT (zr (rT ?_)));cases soI h;exact zq

theorem c0g {A:Ar} (hA:SA A) {e v:List D} {r:Int} (h:M49 A e=some (v,r)):a0l Try.prog 49 [zl 1 e] [] (.tuple [zl 1 v,zi r]) []:=by
 unfold M49 at h;refine zI Try.func49 ?_;refine zs (zA (nT (zs (zs (zn ?_)))));obtain ⟨Q,E,h⟩:=a0a h;refine zC (b9Y hA E) ?_;refine zE (nT ?_);rcases tf Q with k | k
 ·replace h:=cT k h;refine zU (zk (nT (zs ?_)));refine zB (nT (zs (zs ?_)));refine zB (nT (zb ?_));obtain ⟨k0,P,z,N,q⟩:=a0T h;refine zM 0 [4] [] 0 (fun τ => ∃ u,z u=some (v,r)/\τ=⟨[(4,(.own 1 u))],[],50⟩) ?_ ?_
  ·refine zP P [0,4,5] [] 0 (fun (i,g)=>⟨[(0,zl 1 e),(4,(.own 1 i)),(5,zi g)],[],50⟩) ⟨rfl,zv⟩ ?_;rintro ⟨i,g⟩ L b;dsimp only [b0e] at b;refine zs (zs (zA (nT ?_)));rcases tf (A.zlt g (A.len e)) with l | l
   ·replace b:=cT l b;refine zT (zk (nT (zs (zb (zs ?_)))));refine zB (nT (zs (zs ?_)));refine zB (nT (zb ?_));obtain ⟨j0,O,y,M,p⟩:=a0T b;refine zM 2 [0,4,5,6] [] 0 (fun τ => ∃ s,y s=some L/\τ=⟨[(0,zl 1 e),(4,(.own 1 i)),(5,zi g),(6,(.own 3 s))],[],50⟩) ?_ ?_
    ·refine zP O [0,4,5,6,7] [] 0 (fun (w,j)=>⟨[(0,zl 1 e),(4,(.own 1 i)),(5,zi g),(6,(.own 3 w)),(7,zi j)],[],50⟩) ⟨rfl,zv⟩ ?_;rintro ⟨w,j⟩ V a;dsimp only [b0d] at a;refine zs (zs ?_);obtain ⟨B,F,a⟩:=a0a a;obtain ⟨W,X⟩:=gtI F;refine zB (nT ?_);rcases tf (A.zlt j (A.len B)) with m | m
     ·replace a:=cT m a;refine zT (zk (nT (zs (zb (zs ?_)))));obtain ⟨⟨C,S,U⟩,G,a⟩:=a0a a;obtain ⟨Y,a0⟩:=gtI G;refine zB (nT ?_);obtain ⟨R,c,a⟩:=a0a a;refine zN [0,4,5,6,7] [] 0 (fun τ=>τ=⟨[(0,zl 1 e),(4,(.own 1 i)),(5,zi g),(6,(.own 3 R)),(7,zi j)],[],50⟩) ?_ ?_
      ·rcases tf (A.zeq C 3) with o | o
       ·replace c:=cT o c;refine zU (zk ?_);cases soI c;exact zO
       replace c:=cF o c;refine zT ?_;obtain ⟨g0,J,c⟩:=a0a c;obtain ⟨b0,c0⟩:=apI J;refine zB ?_ { tk:=[6,44] };cases soI c;exact zO
      rintro _ rfl;refine nB (nT (zA ?_));exact nT ⟨_,(soI a).symm,rfl,zc⟩
     replace a:=cF m a;refine zU (AWp.exit (xT (xT ?_)));refine exL a ?_;rintro rfl;exact oxI ⟨rfl,_,p,zv⟩
    rintro _ ⟨s,p,rfl⟩;have b:=(M _ p);refine xB (nT ?_);obtain ⟨i0,K,b⟩:=a0a b;obtain ⟨d0,e0⟩:=apI K;refine zB (nB (nT ?_)) { tk:=[4,48] };refine zA ?_;exact nT ⟨_,(soI b).symm,rfl,zc⟩
   replace b:=cF l b;refine zU (AWp.exit (xT (xT ?_)));refine exL b ?_;rintro rfl;exact oxI ⟨rfl,_,q,zv⟩
  rintro _ ⟨u,q,rfl⟩;have h:=(N _ q);refine xB (nT (zs (zA (nT (zr ?_)))));cases soI h;exact zq
 replace h:=cF k h;refine zT (zs ?_);refine zB (nT (zr (rT ?_)));cases soI h;exact zq

theorem c0I {A:Ar} (hA:SA A) {y s:List D} {u:Int} (h:M50 A y=some (s,u)):a0l Try.prog 50 [zl 1 y] [] (.tuple [zl 1 s,zi u]) []:=by
 unfold M50 at h;refine zI Try.func50 ?_;refine zs (zA (nT (zs (zn ?_))));obtain ⟨⟨g,R⟩,E,h⟩:=a0a h;refine zC (c0g hA E) ?_;refine zE (nT (zs (zs ?_)));refine zA (nT ?_);rcases tf (A.zeq R 0) with k | k
 ·replace h:=cT k h;refine zU (zk (nT (zs ?_)));refine zB (nT (zs (zs ?_)));refine zB (nT (zb ?_));obtain ⟨o0,P,z,N,p⟩:=a0T h;refine zM 0 [6] [] 0 (fun τ => ∃ r,z r=some (s,u)/\τ=⟨[(6,(.own 1 r))],[],54⟩) ?_ ?_
  ·refine zP P [4,6,7] [] 0 (fun (i,e)=>⟨[(4,zl 1 g),(6,(.own 1 i)),(7,zi e)],[],54⟩) ⟨rfl,zv⟩ ?_;rintro ⟨i,e⟩ M b;dsimp only [b0g] at b;refine zs (zs (zA (nT ?_)));rcases tf (A.zlt e (A.len g)) with l | l
   ·replace b:=cT l b;refine zT (zk (nT (zs (zb (zs ?_)))));refine zB (nT (zs (zs ?_)));refine zB (nT (zb ?_));obtain ⟨p0,Q,B,O,q⟩:=a0T b;refine zM 2 [4,6,7,8] [] 0 (fun τ => ∃ v,B v=some M/\τ=⟨[(4,zl 1 g),(6,(.own 1 i)),(7,zi e),(8,(.own 3 v))],[],54⟩) ?_ ?_
    ·refine zP Q [4,6,7,8,9] [] 0 (fun (w,j)=>⟨[(4,zl 1 g),(6,(.own 1 i)),(7,zi e),(8,(.own 3 w)),(9,zi j)],[],54⟩) ⟨rfl,zv⟩ ?_;rintro ⟨w,j⟩ X a;dsimp only [b0f] at a;refine zs (zs ?_);obtain ⟨C,F,a⟩:=a0a a;obtain ⟨b0,c0⟩:=gtI F;refine zB (nT ?_);rcases tf (A.zlt j (A.len C)) with m | m
     ·replace a:=cT m a;refine zT (zk (nT (zs (zb (zs (zs ?_))))));refine zB (nT ?_);obtain ⟨S,c,a⟩:=a0a a;refine zN [4,6,7,8,9] [] 0 (fun τ=>τ=⟨[(4,zl 1 g),(6,(.own 1 i)),(7,zi e),(8,(.own 3 S)),(9,zi j)],[],54⟩) ?_ ?_
      ·rcases tf (A.zlt 0 j) with o | o
       ·replace c:=cT o c;refine zT ?_;obtain ⟨l0,G,c⟩:=a0a c;obtain ⟨d0,e0⟩:=apI G;refine zB ?_ { tk:=[8,38] };cases soI c;exact zO
       replace c:=cF o c;refine zU (zk ?_);cases soI c;exact zO
      rintro _ rfl;refine nT ?_;obtain ⟨⟨U,V,W⟩,J,a⟩:=a0a a;obtain ⟨g0,i0⟩:=gtI J;obtain ⟨m0,K,a⟩:=a0a a;obtain ⟨j0,k0⟩:=apI K;refine zB (nB (nT ?_)) { tk:=[8,48] };refine zA ?_;exact nT ⟨_,(soI a).symm,rfl,zc⟩
     replace a:=cF m a;refine zU (AWp.exit (xT (xT ?_)));refine exL a ?_;rintro rfl;exact oxI ⟨rfl,_,q,zv⟩
    rintro _ ⟨v,q,rfl⟩;have b:=(O _ q);refine xB (nT ?_);obtain ⟨n0,L,b⟩:=a0a b;obtain ⟨Y,a0⟩:=apI L;refine zB (nB (nT ?_)) { tk:=[6,52] };refine zA ?_;exact nT ⟨_,(soI b).symm,rfl,zc⟩
   replace b:=cF l b;refine zU (AWp.exit (xT (xT ?_)));refine exL b ?_;rintro rfl;exact oxI ⟨rfl,_,p,zv⟩
  rintro _ ⟨r,p,rfl⟩;have h:=(N _ p);refine xB (nT (zs (zA (nT (zr ?_)))));cases soI h;exact zq
 replace h:=cF k h;refine zT (zs ?_);refine zB (nT (zr (rT ?_)));cases soI h;exact zq

theorem c0J {A:Ar} (hA:SA A) {o:List D} {r s:Int} {q:Bool} (h:M13 A o r s=some q):a0l Try.prog 13 [zl 1 o,zi r,zi s] [] (.d (.bool q)) []:=by
 unfold M13 at h;refine zI Try.func13 ?_;refine zs (zA (nT (zs (zs (zn ?_)))));obtain ⟨S,F,h⟩:=a0a h;refine zC (c0o hA F) ?_;refine zE (nT ?_);rcases tf S with c | c
 ·replace h:=cT c h;refine zT ?_ (hb:=(by first | rfl | simp only [c,zqa,zqb,zqc,zqd]))
  refine zs (zn ?_);obtain ⟨r8,J,h⟩:=a0a h;refine zC (c0e hA J) ?_ { tk:=[17] } (h:=(by (repeat (cbv;simp only [c]));try cbv))
  refine zE ?_ { tk:=[17] } (h:=(by (repeat (cbv;simp only [c]));try cbv))
  refine nT (zr (rT ?_));cases soI h;exact zq
 replace h:=cF c h;refine zU ?_ (hb:=(by first | rfl | simp only [c,zqa,zqb,zqc,zqd]))
 refine zk (nT (zs (zn ?_)));obtain ⟨⟨V,W⟩,K,h⟩:=a0a h;refine zC (c0G hA K) ?_ (h:=(by (repeat (cbv;simp only [c]));try cbv))
 refine zE ?_ (h:=(by (repeat (cbv;simp only [c]));try cbv))
 refine nT (zs (zn ?_));obtain ⟨⟨X,Y⟩,u,h⟩:=a0a h;refine zC (c0H hA u) ?_ (h:=(by (repeat (cbv;simp only [c]));try cbv))
 refine zE ?_ (h:=(by (repeat (cbv;simp only [c]));try cbv))
 refine nT (zs (zs ?_));obtain ⟨p,l,h⟩:=a0a h;refine zN [0,40] [] 0 (fun τ=>τ=⟨[(0,zl 1 o),(40,.d (.bool p))],[],82⟩) ?_ ?_
 ·refine zn ?_;obtain ⟨L,v,l⟩:=a0a l;refine zC (b9p hA v) ?_ (h:=(by (repeat (cbv;simp only [c]));try cbv))
  rcases tf L with m | m
  ·replace l:=cT m l;refine zE ?_ (h:=(by (repeat (cbv;simp only [c,m]));try cbv))
   cases soI l;exact (zO (g:=(by first | (cbv;done) | ((repeat (cbv;simp only [c,m]));try cbv))))
  replace l:=cF m l;refine zE ?_ (h:=(by (repeat (cbv;simp only [c,m]));try cbv))
  cases soI l;exact (zO (g:=(by first | (cbv;done) | ((repeat (cbv;simp only [c,m]));try cbv))))
 rintro _ rfl;refine nT ?_;rcases tf p with a | a
 ·replace h:=cT a h;refine zT ?_ (hb:=(by first | rfl | simp only [a,zqa,zqb,zqc,zqd]))
  refine zs ?_;refine zA ?_ (h:=(by (repeat (cbv;simp only [a]));try cbv))
  refine nT (zr (rT ?_));cases soI h;exact zq
 replace h:=cF a h;refine zU ?_ (hb:=(by first | rfl | simp only [a,zqa,zqb,zqc,zqd]))
 refine zk (nT (zs (zn ?_)));obtain ⟨⟨a0,M⟩,w,h⟩:=a0a h;refine zC (c0F hA w) ?_ (h:=(by (repeat (cbv;simp only [a]));try cbv))
 refine zE ?_ (h:=(by (repeat (cbv;simp only [a]));try cbv))
 refine nT (zs (zn ?_));obtain ⟨⟨b0,N⟩,y,h⟩:=a0a h;refine zC (c0g hA y) ?_ (h:=(by (repeat (cbv;simp only [a]));try cbv))
 refine zE ?_ (h:=(by (repeat (cbv;simp only [a]));try cbv))
 refine nT (zs (zn ?_));obtain ⟨⟨c0,O⟩,z,h⟩:=a0a h;refine zC (c0E hA z) ?_ (h:=(by (repeat (cbv;simp only [a]));try cbv))
 refine zE ?_ (h:=(by (repeat (cbv;simp only [a]));try cbv))
 refine nT (zs (zn ?_));obtain ⟨⟨d0,P⟩,B,h⟩:=a0a h;refine zC (c0I hA B) ?_ (h:=(by (repeat (cbv;simp only [a]));try cbv))
 refine zE ?_ (h:=(by (repeat (cbv;simp only [a]));try cbv))
 refine nT (zs ?_);obtain ⟨U,b,h⟩:=a0a h;refine zN [6] [] 0 (fun τ=>τ=⟨[(6,.d (.bool U))],[],82⟩) ?_ ?_
 ·refine zn ?_;obtain ⟨Q,C,b⟩:=a0a b;refine zC (b9p hA C) ?_ { tk:=[81] } (h:=(by (repeat (cbv;simp only [a]));try cbv))
  rcases tf Q with e | e
  ·replace b:=cT e b;rcases tf (A.zeq M N) with i | i
   ·replace b:=cT i b;obtain ⟨R,E,b⟩:=a0a b;refine zC (b9p hA E) ?_ { tk:=[81] } (h:=(by (repeat (cbv;simp only [a,e,i]));try cbv))
    rcases tf R with j | j
    ·replace b:=cT j b;rcases tf (A.zeq O P) with k | k
     ·replace b:=cT k b;obtain ⟨e0,G,b⟩:=a0a b;refine zC (c0e hA G) ?_ { tk:=[81] } (h:=(by (repeat (cbv;simp only [a,e,i,j,k]));try cbv))
      refine zE ?_ { tk:=[81] } (h:=(by (repeat (cbv;simp only [a,e,i,j,k]));try cbv))
      cases soI b;exact (zO (g:=(by first | (cbv;done) | ((repeat (cbv;simp only [a,e,i,j,k]));try cbv))))
     replace b:=cF k b;refine zE ?_ { tk:=[81] } (h:=(by (repeat (cbv;simp only [a,e,i,j,k]));try cbv))
     cases soI b;exact (zO (g:=(by first | (cbv;done) | ((repeat (cbv;simp only [a,e,i,j,k]));try cbv))))
    replace b:=cF j b;refine zE ?_ { tk:=[81] } (h:=(by (repeat (cbv;simp only [a,e,i,j]));try cbv))
    cases soI b;exact (zO (g:=(by first | (cbv;done) | ((repeat (cbv;simp only [a,e,i,j]));try cbv))))
   replace b:=cF i b;refine zE ?_ { tk:=[81] } (h:=(by (repeat (cbv;simp only [a,e,i]));try cbv))
   cases soI b;exact (zO (g:=(by first | (cbv;done) | ((repeat (cbv;simp only [a,e,i]));try cbv))))
  replace b:=cF e b;refine zE ?_ { tk:=[81] } (h:=(by (repeat (cbv;simp only [a,e]));try cbv))
  cases soI b;exact (zO (g:=(by first | (cbv;done) | ((repeat (cbv;simp only [a,e]));try cbv))))
 rintro _ rfl;refine nT (zr ?_);cases soI h;exact zq
end Go.Am
