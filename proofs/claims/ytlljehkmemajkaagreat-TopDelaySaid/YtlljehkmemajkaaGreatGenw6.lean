import Derived.Test.YtlljehkmemajkaaGreatGenw5
set_option maxRecDepth 100000
set_option maxHeartbeats 2000000
set_option linter.unusedVariables false
set_option linter.unusedSimpArgs false
namespace Go.Am
open Go Go.Proofs
theorem N9w {A:Ar} (hA:SA A) {e:List D} {g:Int} {b:List D} {c:Int} (h:N9 A e g=some (b,c)):a0e Tryz.prog 9 [zl 1 e,zi g] [] (.tuple [zl 1 b,zi c]) []:=by
 unfold N9 at h;refine zI Tryz.func9 ?_;refine zs (zA (nT (zs (zn ?_))));obtain ⟨⟨z,p⟩,l,h⟩:=a0a h;refine zC (c5c hA l) ?_;refine zE (nT (zs (zs ?_)));refine zA (nT ?_);rcases tf (A.zeq p 0) with a | a
 ·replace h:=cT a h;refine zU (zk (nT (zs (zn ?_))));obtain ⟨q,m,h⟩:=a0a h;have r:=gcI m;obtain ⟨⟨v,w,y⟩,j,h⟩:=a0a h;refine zD (c5j hA j) ?_;refine zF (nT ?_);obtain ⟨u,k,h⟩:=a0a h;obtain ⟨n,o⟩:=fzI hA k;refine AWp.freeze (s:=4) (i:=0) rfl rfl n o ?_;refine zr ?_;cases soI h;exact zq
 replace h:=cF a h;refine zT (zs ?_);refine zB (nT (zr (rT ?_)));cases soI h;exact zq

theorem c5k {A:Ar} (hA:SA A) {c e:List D} {l:Bool} (h:N46 A c e=some l):a0e Tryz.prog 46 [zl 1 c,zl 1 e] [] (.d (.bool l)) []:=by
 unfold N46 at h;refine zI Tryz.func46 ?_;refine zs (zA (nT (zs (zs ?_))));refine zA (nT ?_);rcases tf (A.zeq (A.len c) (A.len e)) with j | j
 ·replace h:=cT j h;refine zU (zk (nT (zs (zs ?_))));refine zB (nT (zb ?_));obtain ⟨C,u,o,m,b⟩:=a0m h;refine zM 0 [] [] 0 (fun τ=>o (.inl ())=some l/\τ=⟨[],[],26⟩) ?_ ?_
  ·refine zP u [0,1,12,13] [] 0 (fun k=>⟨[(0,zl 1 c),(1,zl 1 e),(12,(.d (.int .i64 (A.len c)))),(13,zi k)],[],26⟩) ⟨rfl,zv⟩ ?_;rintro k v a;dsimp only [b2G] at a;refine zs (zA (nT (zs ?_)));rcases tf (A.zlt k (A.len c)) with g | g
   ·replace a:=cT g a;refine zT (zk (nT (zs (zb (zs ?_)))));refine zB (nT (zs ?_));obtain ⟨p,r,a⟩:=a0a a;obtain ⟨w,y⟩:=gtI r;obtain ⟨q,s,a⟩:=a0a a;obtain ⟨z,B⟩:=gtI s;refine zH ?_;refine nT ?_;rcases tf (A.zeq p q) with i | i
    ·replace a:=cT i a;refine zU (zk (nB (nT ?_)));refine zB ?_;exact nT ⟨_,(soI a).symm,rfl,zv⟩
    replace a:=cF i a;refine zT (zs ?_);refine zB (nT (zr (rB (rT (rT ?_)))));refine exL a ?_;rintro rfl;refine oxR ?_;replace b:=(eR (m _ b));refine rB (rT ?_);cases soI b;exact zq
   replace a:=cF g a;refine zU (AWp.exit (xT (xT ?_)));refine exL a ?_;rintro rfl;exact oxI ⟨rfl,b,zv⟩
  rintro _ ⟨b,rfl⟩;have h:=(eL (m _ b));refine xB (nT (zs (zA (nT (zr ?_)))));cases soI h;exact zq
 replace h:=cF j h;refine zT (zs ?_);refine zB (nT (zr (rT ?_)));cases soI h;exact zq

theorem c3h {A:Ar} (hA:SA A) {c e:List D} {l:Bool} (h:N20 A c e=some l):a0e Tryz.prog 20 [zl 1 c,zl 1 e] [] (.d (.bool l)) []:=by
 unfold N20 at h;refine zI Tryz.func20 ?_;refine zs (zA (nT (zs (zs ?_))));refine zA (nT ?_);rcases tf (A.zeq (A.len c) (A.len e)) with j | j
 ·replace h:=cT j h;refine zU (zk (nT (zs (zs ?_))));refine zB (nT (zb ?_));obtain ⟨F,s,o,m,b⟩:=a0m h;refine zM 0 [] [] 0 (fun τ=>o (.inl ())=some l/\τ=⟨[],[],27⟩) ?_ ?_
  ·refine zP s [0,1,12,13] [] 0 (fun k=>⟨[(0,zl 1 c),(1,zl 1 e),(12,(.d (.int .i64 (A.len c)))),(13,zi k)],[],27⟩) ⟨rfl,zv⟩ ?_;rintro k y a;dsimp only [b2H] at a;refine zs (zA (nT (zs ?_)));rcases tf (A.zlt k (A.len c)) with g | g
   ·replace a:=cT g a;refine zT (zk (nT (zs (zb (zs ?_)))));refine zB (nT (zs ?_));refine zQ ?_;obtain ⟨v,p,a⟩:=a0a a;obtain ⟨z,B⟩:=gtI p;obtain ⟨w,q,a⟩:=a0a a;obtain ⟨C,E⟩:=gtI q;obtain ⟨u,r,a⟩:=a0a a;refine a0W.c0 hT hA {} rfl zu (c5k hA r) rfl rfl (lb rfl) rfl rfl ?_;refine zJ ?_;refine nT ?_;rcases tf u with i | i
    ·replace a:=cT i a;refine zU (zk (nB (nT ?_)));refine zB ?_;exact nT ⟨_,(soI a).symm,rfl,zv⟩
    replace a:=cF i a;refine zT (zs ?_);refine zB (nT (zr (rB (rT (rT ?_)))));refine exL a ?_;rintro rfl;refine oxR ?_;replace b:=(eR (m _ b));refine rB (rT ?_);cases soI b;exact zq
   replace a:=cF g a;refine zU (AWp.exit (xT (xT ?_)));refine exL a ?_;rintro rfl;exact oxI ⟨rfl,b,zv⟩
  rintro _ ⟨b,rfl⟩;have h:=(eL (m _ b));refine xB (nT (zs (zA (nT (zr ?_)))));cases soI h;exact zq
 replace h:=cF j h;refine zT (zs ?_);refine zB (nT (zr (rT ?_)));cases soI h;exact zq

theorem c3i {A:Ar} (hA:SA A) {m o k:List D} {l:Int} (h:N18 A m o=some (k,l)):a0e Tryz.prog 18 [zl 1 m,zl 2 o] [] (.tuple [zl 1 k,zi l]) []:=by
 unfold N18 at h;refine zI Tryz.func18 ?_;refine zs (zA (nT (zs (zn ?_))));obtain ⟨⟨C,w⟩,q,h⟩:=a0a h;refine zC (N8w hA q) ?_;refine zE (nT (zs (zn ?_)));obtain ⟨⟨y,z⟩,r,h⟩:=a0a h;refine zC (N9w hA r) ?_;refine zE (nT (zs (zn ?_)));obtain ⟨⟨B,u⟩,s,h⟩:=a0a h;refine zC (N9w hA s) ?_;refine zE (nT (zs (zs ?_)));obtain ⟨j,a,h⟩:=a0a h;refine zN [8,48] [] 0 (fun τ=>τ=⟨[(8,zl 1 y),(48,.d (.bool j))],[],50⟩) ?_ ?_
 ·refine zn ?_;rcases tf (A.zeq w 0) with b | b
  ·replace a:=cT b a;rcases tf (A.zeq z 0) with c | c
   ·replace a:=cT c a;rcases tf (A.zeq u 0) with e | e
    ·replace a:=cT e a;obtain ⟨v,p,a⟩:=a0a a;refine zD (c3h hA p) ?_;rcases tf v with g | g
     ·replace a:=cT g a;refine zF ?_;cases soI a;exact zO
     replace a:=cF g a;refine zF ?_;cases soI a;exact zO
    replace a:=cF e a;refine zF ?_;cases soI a;exact zO
   replace a:=cF c a;refine zF ?_;cases soI a;exact zO
  replace a:=cF b a;refine zF ?_;cases soI a;exact zO
 rintro _ rfl;refine nT ?_;rcases tf j with i | i
 ·replace h:=cT i h;refine zT (zs ?_);refine zB (nT (zr (rT ?_)));cases soI h;exact zq
 replace h:=cF i h;refine zU (zk (nT (zs ?_)));refine zB (nT (zr ?_));cases soI h;exact zq

theorem N4w {A:Ar} (hA:SA A) {F K:List D} {P:Bool} (h:N4 A F K=some P):a0e Tryz.prog 4 [zl 1 F,zl 1 K] [] (.d (.bool P)) []:=by
 unfold N4 at h;refine zI Tryz.func4 ?_;refine zs (zA (nT (zs (zs ?_))));obtain ⟨Q,u,h⟩:=a0a h;refine zN [0,1,27] [] 0 (fun τ=>τ=⟨[(0,zl 1 F),(1,zl 1 K),(27,.d (.bool Q))],[],144⟩) ?_ ?_
 ·refine zn ?_;obtain ⟨r4,X,u⟩:=a0a u;refine zC (N5w hA X) ?_;rcases tf r4 with y | y
  ·replace u:=cT y u;obtain ⟨r7,e6,u⟩:=a0a u;refine zC (c2C hA e6) ?_ (h:=(by (repeat (cbv;simp only [y]));try cbv))
   refine zE ?_ (h:=(by (repeat (cbv;simp only [y]));try cbv))
   cases soI u;exact (zO (g:=(by first | (cbv;done) | ((repeat (cbv;simp only [y]));try cbv))))
  replace u:=cF y u;refine zE ?_ (h:=(by (repeat (cbv;simp only [y]));try cbv))
  cases soI u;exact (zO (g:=(by first | (cbv;done) | ((repeat (cbv;simp only [y]));try cbv))))
 rintro _ rfl;refine nT ?_;rcases tf Q with a | a
 ·replace h:=cT a h;refine zT ?_ (hb:=(by first | rfl | simp only [a,zqa,zqb,zqc,zqd]))
  refine zs (zn ?_);obtain ⟨a1,R,h⟩:=a0a h;refine zC (N6w hA R) ?_ { tk:=[28] } (h:=(by (repeat (cbv;simp only [a]));try cbv))
  refine zE ?_ { tk:=[28] } (h:=(by (repeat (cbv;simp only [a]));try cbv))
  refine nT (zr (rT ?_));cases soI h;exact zq
 replace h:=cF a h;refine zU ?_ (hb:=(by first | rfl | simp only [a,zqa,zqb,zqc,zqd]))
 refine zk (nT (zs (zn ?_)));obtain ⟨⟨L,l0⟩,S,h⟩:=a0a h;refine zC (c4B hA S) ?_ (h:=(by (repeat (cbv;simp only [a]));try cbv))
 refine zE ?_ (h:=(by (repeat (cbv;simp only [a]));try cbv))
 refine nT (zs (zn ?_));obtain ⟨⟨G,m0⟩,U,h⟩:=a0a h;refine zC (c4C hA U) ?_ (h:=(by (repeat (cbv;simp only [a]));try cbv))
 refine zE ?_ (h:=(by (repeat (cbv;simp only [a]));try cbv))
 refine nT (zs (zn ?_));obtain ⟨⟨n0,o0⟩,V,h⟩:=a0a h;refine zC (c4G hA V) ?_ (h:=(by (repeat (cbv;simp only [a]));try cbv))
 refine zE ?_ (h:=(by (repeat (cbv;simp only [a]));try cbv))
 refine nT (zs (zn ?_));obtain ⟨⟨J,b1⟩,W,h⟩:=a0a h;refine zC (c4I hA W) ?_ (h:=(by (repeat (cbv;simp only [a]));try cbv))
 refine zE ?_ (h:=(by (repeat (cbv;simp only [a]));try cbv))
 refine nT (zs (zs ?_));obtain ⟨M,k,h⟩:=a0a h;refine zN [0,1,5,7,9,11,65] [] 0 (fun τ=>τ=⟨[(0,zl 1 F),(1,zl 1 K),(5,zl 2 L),(7,zi G),(9,zl 1 n0),(11,zl 3 J),(65,.d (.bool M))],[],144⟩) ?_ ?_
 ·rcases tf (A.zeq l0 0) with p | p
  ·replace k:=cT p k;rcases tf (A.zeq m0 0) with v | v
   ·replace k:=cT v k;rcases tf (A.zeq o0 0) with C | C
    ·replace k:=cT C k;refine zA ?_ (h:=(by (repeat (cbv;simp only [a,p,v,C]));try cbv))
     cases soI k;exact (zO (g:=(by first | (cbv;done) | ((repeat (cbv;simp only [a,p,v,C]));try cbv))))
    replace k:=cF C k;refine zA ?_ (h:=(by (repeat (cbv;simp only [a,p,v,C]));try cbv))
    cases soI k;exact (zO (g:=(by first | (cbv;done) | ((repeat (cbv;simp only [a,p,v,C]));try cbv))))
   replace k:=cF v k;refine zA ?_ (h:=(by (repeat (cbv;simp only [a,p,v]));try cbv))
   cases soI k;exact (zO (g:=(by first | (cbv;done) | ((repeat (cbv;simp only [a,p,v]));try cbv))))
  replace k:=cF p k;refine zA ?_ (h:=(by (repeat (cbv;simp only [a,p]));try cbv))
  cases soI k;exact (zO (g:=(by first | (cbv;done) | ((repeat (cbv;simp only [a,p]));try cbv))))
 rintro _ rfl;refine nT ?_;rcases tf M with i | i
 ·replace h:=cT i h;refine zT ?_ (hb:=(by first | rfl | simp only [i,zqa,zqb,zqc,zqd]))
  refine zs ?_;refine zA ?_ (h:=(by (repeat (cbv;simp only [i]));try cbv))
  refine nT (zr (rT ?_));cases soI h;exact zq
 replace h:=cF i h;refine zU ?_ (hb:=(by first | rfl | simp only [i,zqa,zqb,zqc,zqd]))
 refine zk (nT (zs (zn ?_)));obtain ⟨⟨p0,q0⟩,Y,h⟩:=a0a h;refine zC (c4N hA Y) ?_ (h:=(by (repeat (cbv;simp only [i]));try cbv))
 refine zE ?_ (h:=(by (repeat (cbv;simp only [i]));try cbv))
 refine nT (zs (zn ?_));obtain ⟨⟨c1,r0⟩,a0,h⟩:=a0a h;refine zC (c4R hA a0) ?_ (h:=(by (repeat (cbv;simp only [i]));try cbv))
 refine zE ?_ (h:=(by (repeat (cbv;simp only [i]));try cbv))
 refine nT (zs (zs ?_));obtain ⟨N,l,h⟩:=a0a h;refine zN [0,5,7,11,95] [] 0 (fun τ=>τ=⟨[(0,zl 1 F),(5,zl 2 L),(7,zi G),(11,zl 3 J),(95,.d (.bool N))],[],144⟩) ?_ ?_
 ·rcases tf (A.zeq q0 0) with q | q
  ·replace l:=cT q l;rcases tf (A.zeq r0 0) with w | w
   ·replace l:=cT w l;rcases tf p0 with E | E
    ·replace l:=cT E l;refine zA ?_ (h:=(by (repeat (cbv;simp only [i,q,w,E]));try cbv))
     cases soI l;exact (zO (g:=(by first | (cbv;done) | ((repeat (cbv;simp only [i,q,w,E]));try cbv))))
    replace l:=cF E l;refine zA ?_ (h:=(by (repeat (cbv;simp only [i,q,w,E]));try cbv))
    cases soI l;exact (zO (g:=(by first | (cbv;done) | ((repeat (cbv;simp only [i,q,w,E]));try cbv))))
   replace l:=cF w l;refine zA ?_ (h:=(by (repeat (cbv;simp only [i,q,w]));try cbv))
   cases soI l;exact (zO (g:=(by first | (cbv;done) | ((repeat (cbv;simp only [i,q,w]));try cbv))))
  replace l:=cF q l;refine zA ?_ (h:=(by (repeat (cbv;simp only [i,q]));try cbv))
  cases soI l;exact (zO (g:=(by first | (cbv;done) | ((repeat (cbv;simp only [i,q]));try cbv))))
 rintro _ rfl;refine nT ?_;rcases tf N with j | j
 ·replace h:=cT j h;refine zT ?_ (hb:=(by first | rfl | simp only [j,zqa,zqb,zqc,zqd]))
  refine zs ?_;refine zA ?_ (h:=(by (repeat (cbv;simp only [j]));try cbv))
  refine nT (zr (rT ?_));cases soI h;exact zq
 replace h:=cF j h;refine zU ?_ (hb:=(by first | rfl | simp only [j,zqa,zqb,zqc,zqd]))
 refine zk (nT (zs (zn ?_)));obtain ⟨d1,b0,h⟩:=a0a h;refine zC (c3V hA b0) ?_ (h:=(by (repeat (cbv;simp only [j]));try cbv))
 obtain ⟨⟨s0,u0⟩,c0,h⟩:=a0a h;refine zC (c3i hA c0) ?_ (h:=(by (repeat (cbv;simp only [j]));try cbv))
 refine zE ?_ (h:=(by (repeat (cbv;simp only [j]));try cbv))
 refine nT (zs (zn ?_));obtain ⟨⟨e1,v0⟩,d0,h⟩:=a0a h;refine zC (c3i hA d0) ?_ (h:=(by (repeat (cbv;simp only [j]));try cbv))
 refine zE ?_ (h:=(by (repeat (cbv;simp only [j]));try cbv))
 refine nT (zs (zs ?_));obtain ⟨O,o,h⟩:=a0a h;refine zN [0,7,11,15,120] [] 0 (fun τ=>τ=⟨[(0,zl 1 F),(7,zi G),(11,zl 3 J),(15,zl 1 s0),(120,.d (.bool O))],[],144⟩) ?_ ?_
 ·refine zn ?_;rcases tf (A.zeq u0 0) with s | s
  ·replace o:=cT s o;rcases tf (A.zeq v0 0) with z | z
   ·replace o:=cT z o;obtain ⟨g1,e0,o⟩:=a0a o;refine zC (c3h hA e0) ?_ (h:=(by (repeat (cbv;simp only [j,s,z]));try cbv))
    refine zE ?_ (h:=(by (repeat (cbv;simp only [j,s,z]));try cbv))
    cases soI o;exact (zO (g:=(by first | (cbv;done) | ((repeat (cbv;simp only [j,s,z]));try cbv))))
   replace o:=cF z o;refine zE ?_ (h:=(by (repeat (cbv;simp only [j,s,z]));try cbv))
   cases soI o;exact (zO (g:=(by first | (cbv;done) | ((repeat (cbv;simp only [j,s,z]));try cbv))))
  replace o:=cF s o;refine zE ?_ (h:=(by (repeat (cbv;simp only [j,s]));try cbv))
  cases soI o;exact (zO (g:=(by first | (cbv;done) | ((repeat (cbv;simp only [j,s]));try cbv))))
 rintro _ rfl;refine nT ?_;rcases tf O with b | b
 ·replace h:=cT b h;refine zT ?_ (hb:=(by first | rfl | simp only [b,zqa,zqb,zqc,zqd]))
  refine zs ?_;refine zA ?_ (h:=(by (repeat (cbv;simp only [b]));try cbv))
  refine nT (zr (rT ?_));cases soI h;exact zq
 replace h:=cF b h;refine zU ?_ (hb:=(by first | rfl | simp only [b,zqa,zqb,zqc,zqd]))
 refine zk (nT (zs (zs ?_)));refine zA ?_ (h:=(by (repeat (cbv;simp only [b]));try cbv))
 refine nT ?_;rcases tf (A.zeq (A.len J) 0) with e | e
 ·replace h:=cT e h;refine zT ?_ (hb:=(by first | rfl | simp only [b,e,zqa,zqb,zqc,zqd]))
  refine zs (zn ?_);obtain ⟨⟨i1,w0⟩,g0,h⟩:=a0a h;refine zC (c3i hA g0) ?_ (h:=(by (repeat (cbv;simp only [b,e]));try cbv))
  refine zE ?_ (h:=(by (repeat (cbv;simp only [b,e]));try cbv))
  refine nT (zs ?_);obtain ⟨z0,c,h⟩:=a0a h;refine zN [4] [] 0 (fun τ=>τ=⟨[(4,.d (.bool z0))],[],144⟩) ?_ ?_
  ·refine zn ?_;rcases tf (A.zeq w0 0) with m | m
   ·replace c:=cT m c;rcases tf (A.zeq G 0) with r | r
    ·replace c:=cT r c;obtain ⟨y0,i0,c⟩:=a0a c;refine zC (c3h hA i0) ?_ { tk:=[142] } (h:=(by (repeat (cbv;simp only [b,e,m,r]));try cbv))
     rcases tf y0 with B | B
     ·replace c:=cT B c;obtain ⟨j1,j0,c⟩:=a0a c;refine zC (N6w hA j0) ?_ { tk:=[142] } (h:=(by (repeat (cbv;simp only [b,e,m,r,B]));try cbv))
      refine zE ?_ { tk:=[142] } (h:=(by (repeat (cbv;simp only [b,e,m,r,B]));try cbv))
      cases soI c;exact (zO (g:=(by first | (cbv;done) | ((repeat (cbv;simp only [b,e,m,r,B]));try cbv))))
     replace c:=cF B c;refine zE ?_ { tk:=[142] } (h:=(by (repeat (cbv;simp only [b,e,m,r,B]));try cbv))
     cases soI c;exact (zO (g:=(by first | (cbv;done) | ((repeat (cbv;simp only [b,e,m,r,B]));try cbv))))
    replace c:=cF r c;refine zE ?_ { tk:=[142] } (h:=(by (repeat (cbv;simp only [b,e,m,r]));try cbv))
    cases soI c;exact (zO (g:=(by first | (cbv;done) | ((repeat (cbv;simp only [b,e,m,r]));try cbv))))
   replace c:=cF m c;refine zE ?_ { tk:=[142] } (h:=(by (repeat (cbv;simp only [b,e,m]));try cbv))
   cases soI c;exact (zO (g:=(by first | (cbv;done) | ((repeat (cbv;simp only [b,e,m]));try cbv))))
  rintro _ rfl;refine nT (zr (rT ?_));cases soI h;exact zq
 replace h:=cF e h;refine zU ?_ (hb:=(by first | rfl | simp only [b,e,zqa,zqb,zqc,zqd]))
 refine zk (nT (zs (zn ?_)));obtain ⟨k1,k0,h⟩:=a0a h;refine zC (N6w hA k0) ?_ { tk:=[143] } (h:=(by (repeat (cbv;simp only [b,e]));try cbv))
 refine zE ?_ { tk:=[143] } (h:=(by (repeat (cbv;simp only [b,e]));try cbv))
 refine nT (zr ?_);cases soI h;exact zq
end Go.Am
