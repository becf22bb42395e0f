import Derived.Test.YtlljehkmemajkaaGenw2
set_option maxRecDepth 100000
set_option maxHeartbeats 2000000
set_option linter.unusedVariables false
set_option linter.unusedSimpArgs false
namespace Go.Am
open Go Go.Proofs
theorem b7j {A:Ar} (hA:SA A) : ∀ (n:Nat) {e g i:List D} {j:List (D×D)} {a:List D} {b:Bool} {c:List (D×D)},b6R A n e g i j=some (a,b,c)->a0n Try.prog 70 [(.agg [zl 1 e,zl 1 g,(.map 0)]),.d (.agg i)] [(.map true (.int .u8 :: .int .u8 :: .int .u8 :: .int .i8 :: .int .i8 :: .int .i8 :: .int .i8 :: .int .i8 :: .int .i8 :: .int .i8 :: .int .i8 :: .int .i8 :: .int .i8 :: .int .i8 :: .int .i8 :: .int .i8 :: .int .i8 :: .int .i8 :: .int .i8 :: .int .i8 :: .int .i8 :: .int .i8 :: .int .i8 :: .int .i8 :: .int .i8 :: .int .i8 :: .int .i8 :: .int .i8 :: .int .i8 :: .int .i8 :: .int .i8 :: .int .i8 :: .int .i8 :: .int .i8 :: .int .i8 :: .int .i8 :: .int .i8 :: .int .i8 :: .int .i64 :: .int .i64 :: .int .i64::[]) j)] (.tuple [zl 1 a,.d (.bool b)]) [(.map true (.int .u8 :: .int .u8 :: .int .u8 :: .int .i8 :: .int .i8 :: .int .i8 :: .int .i8 :: .int .i8 :: .int .i8 :: .int .i8 :: .int .i8 :: .int .i8 :: .int .i8 :: .int .i8 :: .int .i8 :: .int .i8 :: .int .i8 :: .int .i8 :: .int .i8 :: .int .i8 :: .int .i8 :: .int .i8 :: .int .i8 :: .int .i8 :: .int .i8 :: .int .i8 :: .int .i8 :: .int .i8 :: .int .i8 :: .int .i8 :: .int .i8 :: .int .i8 :: .int .i8 :: .int .i8 :: .int .i8 :: .int .i8 :: .int .i8 :: .int .i8 :: .int .i64 :: .int .i64 :: .int .i64::[]) c)]
 | 0,_,_,_,_,_,_,_,h=>by cases h
 | n+1,_,_,_,_,_,_,_,h=>b9i hA (fun h=>b7j hA n h) h

theorem c0x {A:Ar} (hA:SA A) {e g i:List D} {j:List (D×D)} {a:List D} {b:Bool} {c:List (D×D)} (h:M70 A e g i j=some (a,b,c)):a0n Try.prog 70 [(.agg [zl 1 e,zl 1 g,(.map 0)]),.d (.agg i)] [(.map true (.int .u8 :: .int .u8 :: .int .u8 :: .int .i8 :: .int .i8 :: .int .i8 :: .int .i8 :: .int .i8 :: .int .i8 :: .int .i8 :: .int .i8 :: .int .i8 :: .int .i8 :: .int .i8 :: .int .i8 :: .int .i8 :: .int .i8 :: .int .i8 :: .int .i8 :: .int .i8 :: .int .i8 :: .int .i8 :: .int .i8 :: .int .i8 :: .int .i8 :: .int .i8 :: .int .i8 :: .int .i8 :: .int .i8 :: .int .i8 :: .int .i8 :: .int .i8 :: .int .i8 :: .int .i8 :: .int .i8 :: .int .i8 :: .int .i8 :: .int .i8 :: .int .i64 :: .int .i64 :: .int .i64::[]) j)] (.tuple [zl 1 a,.d (.bool b)]) [(.map true (.int .u8 :: .int .u8 :: .int .u8 :: .int .i8 :: .int .i8 :: .int .i8 :: .int .i8 :: .int .i8 :: .int .i8 :: .int .i8 :: .int .i8 :: .int .i8 :: .int .i8 :: .int .i8 :: .int .i8 :: .int .i8 :: .int .i8 :: .int .i8 :: .int .i8 :: .int .i8 :: .int .i8 :: .int .i8 :: .int .i8 :: .int .i8 :: .int .i8 :: .int .i8 :: .int .i8 :: .int .i8 :: .int .i8 :: .int .i8 :: .int .i8 :: .int .i8 :: .int .i8 :: .int .i8 :: .int .i8 :: .int .i8 :: .int .i8 :: .int .i8 :: .int .i64 :: .int .i64 :: .int .i64::[]) c)]:=b7j hA fuel h

theorem c0y {A:Ar} (hA:SA A) {g i c:List D} {e:Int} (h:M28 A g i=some (c,e)):a0n Try.prog 28 [zl 1 g,zl 1 i] [] (.tuple [zl 1 c,zi e]) []:=by
 unfold M28 at h;refine zI Try.func28 ?_;refine zs (zA (nT (zs (zs (zn ?_)))));obtain ⟨l,j,h⟩:=a0a h;refine zC (b9R hA j) ?_;refine zE (nT ?_);rcases tf l with b | b
 ·replace h:=cT b h;refine zU (zk (nT (zs (zn ?_))));obtain ⟨⟨n,m,o⟩,k,h⟩:=a0a h;refine zD (c0x hA k) ?_;refine zF (nT (zs (zs ?_)));refine zB (nT ?_);rcases tf m with a | a
  ·replace h:=cT a h;refine zU (zk (nT (zs ?_)));refine zB (nT (zr ?_));cases soI h;exact zq
  replace h:=cF a h;refine zT (zs ?_);refine zB (nT (zr (rT ?_)));cases soI h;exact zq
 replace h:=cF b h;refine zT (zs ?_);refine zB (nT (zr (rT ?_)));cases soI h;exact zq

theorem c0z {A:Ar} (hA:SA A) {l m V:List D} {W:Int} (h:M29 A l m=some (V,W)):a0n Try.prog 29 [zl 1 l,zl 1 m] [] (.tuple [zl 1 V,zi W]) []:=by
 unfold M29 at h;refine zI Try.func29 ?_;refine zs (zA (nT (zs (zs (zn ?_)))));obtain ⟨r4,e3,h⟩:=a0a h;refine zC (c0j hA e3) ?_;refine zE (nT ?_);rcases tf r4 with a | a
 ·replace h:=cT a h;refine zU ?_ (hb:=(by first | rfl | simp only [a,zqa,zqb,zqc,zqd]))
  refine zk (nT (zs (zn ?_)));obtain ⟨⟨r7,r8,r9⟩,e6,h⟩:=a0a h;refine zC (c0g hA e6) ?_ (h:=(by (repeat (cbv;simp only [a]));try cbv))
  refine zE ?_ (h:=(by (repeat (cbv;simp only [a]));try cbv))
  refine nT (zs (zs (zn ?_)));obtain ⟨z0,l0,h⟩:=a0a h;refine zC (b9Y hA l0) ?_ (h:=(by (repeat (cbv;simp only [a]));try cbv))
  refine zE ?_ (h:=(by (repeat (cbv;simp only [a]));try cbv))
  refine nT ?_;rcases tf z0 with g | g
  ·replace h:=cT g h;refine zU ?_ (hb:=(by first | rfl | simp only [a,g,zqa,zqb,zqc,zqd]))
   refine zk (nT (zs ?_));refine zA ?_ (h:=(by (repeat (cbv;simp only [a,g]));try cbv))
   refine nT (zs (zs ?_));refine zA ?_ (h:=(by (repeat (cbv;simp only [a,g]));try cbv))
   refine nT (zb ?_);obtain ⟨i2,y0,k0,v0,G⟩:=a1m h;refine AWp.cutXW 0 (fun τ => ∃ U,k0 U=some (V,W)/\τ=⟨[(7,(.own 1 U))],[],47⟩) ?_ ?_
   ·refine AWp.iterW y0 (fun (X,K,Y,a0,b0,c0,d0,e0)=>⟨[(0,zl 1 l),(1,zl 1 m),(6,.ptr 0 0),(7,(.own 1 X)),(8,.d (.bool K))],[.cells [zl 1 Y,.gref 1 1,.gref 4 1,zi a0,zi b0,zi c0],.gro 1 d0,.dead,.dead,.gro 1 e0,.dead,.dead],47⟩) ⟨_,zR [some 0,some 1,some 2,some 3,some 4,some 5,some 6] [0,1,6,7,8] (h:=(by first | (cbv;done) | ((repeat (cbv;simp only [a,g]));try cbv))),rfl⟩ ?_
    rintro ⟨X,K,Y,a0,b0,c0,d0,e0⟩ q0 k;dsimp only [a8M] at k;refine zs (zs (zA (nT ?_)));rcases tf K with i | i
    ·replace k:=cT i k;refine zT ?_ (hb:=(by first | rfl | simp only [i,zqa,zqb,zqc,zqd]))
     refine zk (nT (zb (zs ?_)));refine zA ?_ (h:=(by (repeat (cbv;simp only [i]));try cbv))
     refine nT (zs ?_);refine zA ?_ (h:=(by (repeat (cbv;simp only [i]));try cbv))
     refine nT (zb ?_);obtain ⟨g2,w0,j0,u0,F⟩:=a1m k;refine AWp.cutXW 2 (fun τ => ∃ L M N O P Q R S,j0 (L,M,N,O,P,Q,R,S)=some q0/\τ=⟨[(0,zl 1 l),(1,zl 1 m),(6,.ptr 0 0),(7,(.own 1 L)),(8,.d (.bool M))],[.cells [zl 1 N,.gref 1 1,.gref 4 1,zi O,zi P,zi Q],.gro 1 R,.dead,.dead,.gro 1 S,.dead,.dead],47⟩) ?_ ?_
     ·refine AWp.iterW w0 (fun (C,E,r,u,v,w,y,z,B)=>⟨[(0,zl 1 l),(1,zl 1 m),(6,.ptr 0 0),(7,(.own 1 C)),(8,.d (.bool E)),(9,zi r)],[.cells [zl 1 u,.gref 1 1,.gref 4 1,zi v,zi w,zi y],.gro 1 z,.dead,.dead,.gro 1 B,.dead,.dead],47⟩) ⟨_,zR [some 0,some 1,some 2,some 3,some 4,some 5,some 6] [0,1,6,7,8,9] (h:=(by first | (cbv;done) | ((repeat (cbv;simp only [i]));try cbv))),rfl⟩ ?_
      rintro ⟨C,E,r,u,v,w,y,z,B⟩ c2 b;dsimp only [a3G] at b;refine zs (zs ?_);obtain ⟨g0,s,b⟩:=a0a b;refine AWp.cutW (fun τ=>τ=⟨[(0,zl 1 l),(1,zl 1 m),(6,.ptr 0 0),(7,(.own 1 C)),(8,.d (.bool E)),(9,zi r),(28,.d (.bool g0))],[.cells [zl 1 u,.gref 1 1,.gref 4 1,zi v,zi w,zi y],.gro 1 z,.dead,.dead,.gro 1 B,.dead,.dead],47⟩) ?_ ?_
      ·rcases tf (A.zlt r (A.len l)) with q | q
       ·replace s:=cT q s;refine zA ?_ (h:=(by (repeat (cbv;simp only [q]));try cbv))
        cases soI s;exact oWi ⟨_,(zR [some 0,some 1,some 2,some 3,some 4,some 5,some 6] [0,1,6,7,8,9,28] (h:=(by first | (cbv;done) | ((repeat (cbv;simp only [q]));try cbv)))),rfl⟩
       replace s:=cF q s;refine zA ?_ (h:=(by (repeat (cbv;simp only [q]));try cbv))
       cases soI s;exact oWi ⟨_,(zR [some 0,some 1,some 2,some 3,some 4,some 5,some 6] [0,1,6,7,8,9,28] (h:=(by first | (cbv;done) | ((repeat (cbv;simp only [q]));try cbv)))),rfl⟩
      rintro _ rfl;refine nT ?_;rcases tf g0 with c | c
      ·replace b:=cT c b;refine zT ?_ (hb:=(by first | rfl | simp only [c,zqa,zqb,zqc,zqd]))
       refine zk (nT (zs (zb (zs (zn ?_)))));obtain ⟨⟨J,a1,b1,c1,d1,e1⟩,m0,b⟩:=a0a b;refine zC (b9g hA m0) ?_ (h:=(by (repeat (cbv;simp only [c]));try cbv))
       refine zE ?_ (h:=(by (repeat (cbv;simp only [c]));try cbv))
       refine nT (zs ?_);obtain ⟨⟨i0,n1,o1,p1,q1,r1⟩,e,b⟩:=a0a b;refine AWp.cutW (fun τ=>τ=⟨[(0,zl 1 l),(1,zl 1 m),(6,.ptr 0 0),(7,(.own 1 C)),(8,.d (.bool E)),(9,zi r),(10,.ptr 1 0),(40,.d (.bool i0))],[.cells [zl 1 u,.gref 2 1,.gref 5 1,zi v,zi w,zi y],.cells [zl 1 J,.gref 8 1,.gref 11 1,zi n1,zi o1,zi p1],.gro 1 z,.dead,.dead,.gro 1 B,.dead,.dead,.gro 1 q1,.dead,.dead,.gro 1 r1,.dead,.dead],47⟩) ?_ ?_
       ·refine zn ?_;obtain ⟨⟨g1,i1,j1,k1,l1,m1⟩,n0,e⟩:=a0a e;refine zC (a0n.emb (args':=[.ptr 7 0,zi r]) (b9U hA n0) [some 7,some 8,some 9,some 10,some 11,some 12,some 13] [.cells [zl 1 u,.gref 1 1,.gref 4 1,zi v,zi w,zi y],.gro 1 z,.dead,.dead,.gro 1 B,.dead,.dead,.cells [zl 1 J,.gref 8 1,.gref 11 1,zi a1,zi b1,zi c1],.gro 1 d1,.dead,.dead,.gro 1 e1,.dead,.dead] rfl rfl rfl rfl rfl rfl rfl) ?_ (h:=(by (repeat (cbv;simp only [c]));try cbv))
        rcases tf g1 with o | o
        ·replace e:=cT o e;obtain ⟨e2,o0,e⟩:=a0a e;refine zC (a0n.emb (args':=[.ptr 7 0,zl 1 m]) (b9Y hA o0) [some 7,some 8,some 9,some 10,some 11,some 12,some 13] [.cells [zl 1 u,.gref 1 1,.gref 4 1,zi v,zi w,zi y],.gro 1 z,.dead,.dead,.gro 1 B,.dead,.dead,.cells [zl 1 J,.gref 8 1,.gref 11 1,zi i1,zi j1,zi k1],.gro 1 l1,.dead,.dead,.gro 1 m1,.dead,.dead] rfl rfl rfl rfl rfl rfl rfl) ?_ (h:=(by (repeat (cbv;simp only [c,o]));try cbv))
         refine zE ?_ (h:=(by (repeat (cbv;simp only [c,o]));try cbv))
         cases soI e;exact oWi ⟨_,(zR [some 0,some 7,some 1,some 2,some 3,some 4,some 5,some 6,some 8,some 9,some 10,some 11,some 12,some 13] [0,1,6,7,8,9,10,40] (h:=(by first | (cbv;done) | ((repeat (cbv;simp only [c,o]));try cbv)))),rfl⟩
        replace e:=cF o e;refine zE ?_ (h:=(by (repeat (cbv;simp only [c,o]));try cbv))
        cases soI e;exact oWi ⟨_,(zR [some 0,some 7,some 1,some 2,some 3,some 4,some 5,some 6,some 8,some 9,some 10,some 11,some 12,some 13] [0,1,6,7,8,9,10,40] (h:=(by first | (cbv;done) | ((repeat (cbv;simp only [c,o]));try cbv)))),rfl⟩
       rintro _ rfl;refine nT ?_;obtain ⟨⟨s1,u1,v1,w1,y1,z1,a2,b2⟩,p,b⟩:=a0a b;refine AWp.cutW (fun τ=>τ=⟨[(0,zl 1 l),(1,zl 1 m),(6,.ptr 0 0),(7,(.own 1 s1)),(8,.d (.bool u1)),(9,zi r)],[.cells [zl 1 v1,.gref 1 1,.gref 4 1,zi w1,zi y1,zi z1],.gro 1 a2,.dead,.dead,.gro 1 b2,.dead,.dead],47⟩) ?_ ?_
       ·rcases tf i0 with j | j
        ·replace p:=cT j p;refine zT ?_ (hb:=(by first | rfl | simp only [j,zqa,zqb,zqc,zqd]))
         refine zs ?_;obtain ⟨d2,p0,p⟩:=a0a p;obtain ⟨r0,s0⟩:=apI p0;refine zA ?_ { tk:=[7,44] } (h:=(by (repeat (cbv;simp only [j,r0,s0]));try cbv))
         refine nT ?_;refine zA ?_ (h:=(by (repeat (cbv;simp only [j]));try cbv))
         cases soI p;exact oWi ⟨_,(zR [some 1,some 8,some 9,some 10,some 11,some 12,some 13] [0,1,6,7,8,9] (h:=(by first | (cbv;done) | ((repeat (cbv;simp only [j]));try cbv)))),rfl⟩
        replace p:=cF j p;refine zU ?_ (hb:=(by first | rfl | simp only [j,zqa,zqb,zqc,zqd]))
        refine zk ?_;cases soI p;exact oWi ⟨_,(zR [some 0,some 2,some 3,some 4,some 5,some 6,some 7] [0,1,6,7,8,9] (h:=(by first | (cbv;done) | ((repeat (cbv;simp only [j]));try cbv)))),rfl⟩
       rintro _ rfl;refine nB (nT (zA ?_));exact nT ⟨_,(soI b).symm,_,zR [some 0,some 1,some 2,some 3,some 4,some 5,some 6] [0,1,6,7,8,9],rfl⟩
      replace b:=cF c b;refine zU ?_ (hb:=(by first | rfl | simp only [c,zqa,zqb,zqc,zqd]))
      refine AWp.exit (xT (xT ?_));refine exL b ?_;rintro rfl;exact b0R ⟨_,(zR [some 0,some 1,some 2,some 3,some 4,some 5,some 6] [0,1,6,7,8] (h:=(by first | (cbv;done) | ((repeat (cbv;simp only [c]));try cbv)))),_,_,_,_,_,_,_,_,F,rfl⟩
     rintro _ ⟨L,M,N,O,P,Q,R,S,F,rfl⟩;have k:=(u0 _ F);refine xB (nB ?_);exact nT ⟨_,(soI k).symm,_,zR [some 0,some 1,some 2,some 3,some 4,some 5,some 6] [0,1,6,7,8],rfl⟩
    replace k:=cF i k;refine zU ?_ (hb:=(by first | rfl | simp only [i,zqa,zqb,zqc,zqd]))
    refine AWp.exit (xT (xT ?_));refine exL k ?_;rintro rfl;exact b0R ⟨_,(zR [] [7] (h:=(by first | (cbv;done) | ((repeat (cbv;simp only [i]));try cbv)))),_,G,rfl⟩
   rintro _ ⟨U,G,rfl⟩;have h:=(v0 _ G);refine xB (nT (zs (zA (nT (zr ?_)))));cases soI h;exact zq
  replace h:=cF g h;refine zT ?_ (hb:=(by first | rfl | simp only [a,g,zqa,zqb,zqc,zqd]))
  refine zs ?_;refine zA ?_ (h:=(by (repeat (cbv;simp only [a,g]));try cbv))
  refine nT ?_;refine AWp.weak (Wk.ren [] [4,5] rfl rfl) ?_;refine zr (rT ?_);cases soI h;exact zq
 replace h:=cF a h;refine zT ?_ (hb:=(by first | rfl | simp only [a,zqa,zqb,zqc,zqd]))
 refine zs ?_;refine zA ?_ (h:=(by (repeat (cbv;simp only [a]));try cbv))
 refine nT (zr (rT ?_));cases soI h;exact zq

theorem M5w {A:Ar} (hA:SA A) {k l:List D} {m:Bool} (h:M5 A k l=some m):a0n Try.prog 5 [zl 1 k,zl 1 l] [] (.d (.bool m)) []:=by
 unfold M5 at h;refine zI Try.func5 ?_;refine zs (zA (nT (zs (zs ?_))));obtain ⟨o,i,h⟩:=a0a h;refine zN [0,1,15] [] 0 (fun τ=>τ=⟨[(0,zl 1 k),(1,zl 1 l),(15,.d (.bool o))],[],41⟩) ?_ ?_
 ·refine zn ?_;obtain ⟨B,u,i⟩:=a0a i;refine zC (c0h hA u) ?_;rcases tf B with j | j
  ·replace i:=cT j i;refine zE ?_ (h:=(by (repeat (cbv;simp only [j]));try cbv))
   cases soI i;exact (zO (g:=(by first | (cbv;done) | ((repeat (cbv;simp only [j]));try cbv))))
  replace i:=cF j i;refine zE ?_ (h:=(by (repeat (cbv;simp only [j]));try cbv))
  cases soI i;exact (zO (g:=(by first | (cbv;done) | ((repeat (cbv;simp only [j]));try cbv))))
 rintro _ rfl;refine nT ?_;rcases tf o with a | a
 ·replace h:=cT a h;refine zT ?_ (hb:=(by first | rfl | simp only [a,zqa,zqb,zqc,zqd]))
  refine zs (zn ?_);obtain ⟨E,v,h⟩:=a0a h;refine zC (b9W hA v) ?_ { tk:=[16] } (h:=(by (repeat (cbv;simp only [a]));try cbv))
  refine zE ?_ { tk:=[16] } (h:=(by (repeat (cbv;simp only [a]));try cbv))
  refine nT (zr (rT ?_));cases soI h;exact zq
 replace h:=cF a h;refine zU ?_ (hb:=(by first | rfl | simp only [a,zqa,zqb,zqc,zqd]))
 refine zk (nT (zs (zn ?_)));obtain ⟨⟨F,w⟩,p,h⟩:=a0a h;refine zC (c0y hA p) ?_ (h:=(by (repeat (cbv;simp only [a]));try cbv))
 refine zE ?_ (h:=(by (repeat (cbv;simp only [a]));try cbv))
 refine nT (zs (zn ?_));obtain ⟨⟨G,y⟩,q,h⟩:=a0a h;refine zC (c0z hA q) ?_ (h:=(by (repeat (cbv;simp only [a]));try cbv))
 refine zE ?_ (h:=(by (repeat (cbv;simp only [a]));try cbv))
 refine nT (zs ?_);obtain ⟨C,b,h⟩:=a0a h;refine zN [4] [] 0 (fun τ=>τ=⟨[(4,.d (.bool C))],[],41⟩) ?_ ?_
 ·refine zn ?_;obtain ⟨z,r,b⟩:=a0a b;refine zC (b9X hA r) ?_ { tk:=[40] } (h:=(by (repeat (cbv;simp only [a]));try cbv))
  rcases tf (A.zeq z 0) with c | c
  ·replace b:=cT c b;rcases tf (A.zeq w y) with e | e
   ·replace b:=cT e b;obtain ⟨J,s,b⟩:=a0a b;refine zC (b9W hA s) ?_ { tk:=[40] } (h:=(by (repeat (cbv;simp only [a,c,e]));try cbv))
    refine zE ?_ { tk:=[40] } (h:=(by (repeat (cbv;simp only [a,c,e]));try cbv))
    cases soI b;exact (zO (g:=(by first | (cbv;done) | ((repeat (cbv;simp only [a,c,e]));try cbv))))
   replace b:=cF e b;refine zE ?_ { tk:=[40] } (h:=(by (repeat (cbv;simp only [a,c,e]));try cbv))
   cases soI b;exact (zO (g:=(by first | (cbv;done) | ((repeat (cbv;simp only [a,c,e]));try cbv))))
  replace b:=cF c b;refine zE ?_ { tk:=[40] } (h:=(by (repeat (cbv;simp only [a,c]));try cbv))
  cases soI b;exact (zO (g:=(by first | (cbv;done) | ((repeat (cbv;simp only [a,c]));try cbv))))
 rintro _ rfl;refine nT (zr ?_);cases soI h;exact zq
end Go.Am
