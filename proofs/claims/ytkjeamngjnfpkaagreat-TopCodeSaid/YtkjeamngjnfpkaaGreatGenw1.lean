import Derived.Test.YtkjeamngjnfpkaaGreatGenw0
set_option maxRecDepth 100000
set_option maxHeartbeats 2000000
set_option linter.unusedVariables false
set_option linter.unusedSimpArgs false
namespace Go.Am
open Go Go.Proofs
theorem c3x {A:Ar} (hA:SA A) {E:Int} {n s:List D} {u v w y z B a b c e g i j k l m o p:Int} {q r:List D} {C:Bool} (h:c2w A E n s u v w y z B a b c e g i j k l m o p q r=some C):a0c Tryz.prog 160 [.gref 1 6,(.func 161 [] [.iptr [.int .i64 E]])] [.cells [zl 1 n,zl 1 s,zi u,zi v,zi w,zi y,zi z,zi B,zi a,zi b,zi c,zi e,zi g,zi i,zi j,zi k,zi l,zi m,zi o,zi p,.gref 1 6,.gref 4 1],.gro 6 q,.dead,.dead,.gro 1 r,.dead,.dead] (.d (.bool C)) [.cells [zl 1 n,zl 1 s,zi u,zi v,zi w,zi y,zi z,zi B,zi a,zi b,zi c,zi e,zi g,zi i,zi j,zi k,zi l,zi m,zi o,zi p,.gref 1 6,.gref 4 1],.gro 6 q,.dead,.dead,.gro 1 r,.dead,.dead]:=by
 unfold c2w at h;refine zI Tryz.func160 ?_;refine zs (zA (nT (zs (zn ?_))));obtain ⟨G,F,h⟩:=a0a h;refine zC (c3w hA F) ?_ { tk:=[8] };refine zE (nT (zr ?_)) { tk:=[8] };cases soI h;exact zq

theorem c0a {A:Ar} (hA:SA A) {a:Int} {o u:List D} {v w y z B C b c e g i j k l m n p q:Int} {r s:List D} {E:Bool} (h:b9o A a o u v w y z B C b c e g i j k l m n p q r s=some E):a0c Tryz.prog 118 [.ptr 0 0,zi a] [.cells [zl 1 o,zl 1 u,zi v,zi w,zi y,zi z,zi B,zi C,zi b,zi c,zi e,zi g,zi i,zi j,zi k,zi l,zi m,zi n,zi p,zi q,.gref 1 6,.gref 4 1],.gro 6 r,.dead,.dead,.gro 1 s,.dead,.dead] (.d (.bool E)) [.cells [zl 1 o,zl 1 u,zi v,zi w,zi y,zi z,zi B,zi C,zi b,zi c,zi e,zi g,zi i,zi j,zi k,zi l,zi m,zi n,zi p,zi q,.gref 1 6,.gref 4 1],.gro 6 r,.dead,.dead,.gro 1 s,.dead,.dead]:=by
 unfold b9o at h;refine zI Tryz.func118 ?_;refine zs (zA (nT ?_));refine AWp.freezeBox 3 [.int .i64 a] rfl rfl ?_;refine zs (zn ?_);obtain ⟨G,F,h⟩:=a0a h;refine zC (c3x hA F) ?_ { tk:=[10] };refine zE (nT (zr ?_)) { tk:=[10] };cases soI h;exact zq

theorem c0b {A:Ar} (hA:SA A) (h:b9D A=some ()):a0c Tryz.prog 119 [] [] (.d (.agg [.int .i64 0,.int .i64 1,.int .i64 0,.int .i64 0])) []:=by
 unfold b9D at h;refine zI Tryz.func119 ?_;refine zs (zA (nT (zs ?_)));refine zA (nT (zr ?_)) { tk:=[1] };cases soI h;exact zq

theorem c3y {A:Ar} (hA:SA A) {E G M N:Int} {r s:List D} {u v w b c F e g i j k l m n J K L o:Int} {p q:List D} {y z B C:Int} (h:b9E A E G M N r s u v w b c F e g i j k l m n J K L o p q=some (y,z,B,C)):a0c Tryz.prog 120 [.ptr 0 0,.ptr 0 4,.d (.agg [.int .i64 E,.int .i64 G,.int .i64 M,.int .i64 N])] [.cells [zl 1 r,zl 1 s,zi u,zi v,zi w,zi b,zi c,zi F,zi e,zi g,zi i,zi j,zi k,zi l,zi m,zi n,zi J,zi K,zi L,zi o,.gref 7 6,.gref 10 1],.dead,.dead,.dead,.dead,.dead,.dead,.gro 6 p,.dead,.dead,.gro 1 q,.dead,.dead] (.tuple []) [.cells [zl 1 r,zl 1 s,zi u,zi v,zi w,zi b,zi c,zi y,zi e,zi g,zi i,zi j,zi k,zi l,zi m,zi n,zi z,zi B,zi C,zi o,.gref 7 6,.gref 10 1],.dead,.dead,.dead,.dead,.dead,.dead,.gro 6 p,.dead,.dead,.gro 1 q,.dead,.dead]:=by
 unfold b9E at h;refine zI Tryz.func120 ?_;refine zs (zA (nT (zs (zs ?_))));obtain ⟨_,Q,h⟩:=a0a h;have e0:=ckI Q;obtain ⟨_,R,h⟩:=a0a h;have g0:=ckI R;obtain ⟨O,S,h⟩:=a0a h;have i0:=gcI S;obtain ⟨_,U,h⟩:=a0a h;have j0:=ckI U;obtain ⟨_,V,h⟩:=a0a h;have k0:=ckI V;obtain ⟨P,W,h⟩:=a0a h;have l0:=gcI W;refine zH ?_ { vx:=[11,17] };refine nT ?_;rcases tf (A.zeq O P) with a | a
 ·replace h:=cT a h;refine zU (zk (nT (zs ?_)));obtain ⟨_,X,h⟩:=a0a h;have m0:=ckI X;obtain ⟨_,Y,h⟩:=a0a h;have n0:=ckI Y;obtain ⟨d0,a0,h⟩:=a0a h;have o0:=gcI a0;obtain ⟨_,b0,h⟩:=a0a h;have p0:=ckI b0;obtain ⟨_,c0,h⟩:=a0a h;have q0:=ckI c0;refine zH ?_ { tk:=[31],vx:=[30,34] };refine nT (zB ?_);cases soI h;exact zq
 replace h:=cF a h;refine zT (zs ?_);refine zB (nT (zr (rT ?_)));cases soI h;exact zq

theorem c0c {A:Ar} (hA:SA A) {E G M N:Int} {r s:List D} {u v w b c e g i j k l m F n J K L o:Int} {p q:List D} {y z B C:Int} (h:b2O A E G M N r s u v w b c e g i j k l m F n J K L o p q=some (y,z,B,C)):a0c Tryz.prog 120 [.ptr 0 0,.ptr 0 11,.d (.agg [.int .i64 E,.int .i64 G,.int .i64 M,.int .i64 N])] [.cells [zl 1 r,zl 1 s,zi u,zi v,zi w,zi b,zi c,zi e,zi g,zi i,zi j,zi k,zi l,zi m,zi F,zi n,zi J,zi K,zi L,zi o,.gref 7 6,.gref 10 1],.dead,.dead,.dead,.dead,.dead,.dead,.gro 6 p,.dead,.dead,.gro 1 q,.dead,.dead] (.tuple []) [.cells [zl 1 r,zl 1 s,zi u,zi v,zi w,zi b,zi c,zi e,zi g,zi i,zi j,zi k,zi l,zi m,zi y,zi n,zi z,zi B,zi C,zi o,.gref 7 6,.gref 10 1],.dead,.dead,.dead,.dead,.dead,.dead,.gro 6 p,.dead,.dead,.gro 1 q,.dead,.dead]:=by
 unfold b2O at h;refine zI Tryz.func120 ?_;refine zs (zA (nT (zs (zs ?_))));obtain ⟨_,Q,h⟩:=a0a h;have e0:=ckI Q;obtain ⟨_,R,h⟩:=a0a h;have g0:=ckI R;obtain ⟨O,S,h⟩:=a0a h;have i0:=gcI S;obtain ⟨_,U,h⟩:=a0a h;have j0:=ckI U;obtain ⟨_,V,h⟩:=a0a h;have k0:=ckI V;obtain ⟨P,W,h⟩:=a0a h;have l0:=gcI W;refine zH ?_ { vx:=[11,17] };refine nT ?_;rcases tf (A.zeq O P) with a | a
 ·replace h:=cT a h;refine zU (zk (nT (zs ?_)));obtain ⟨_,X,h⟩:=a0a h;have m0:=ckI X;obtain ⟨_,Y,h⟩:=a0a h;have n0:=ckI Y;obtain ⟨d0,a0,h⟩:=a0a h;have o0:=gcI a0;obtain ⟨_,b0,h⟩:=a0a h;have p0:=ckI b0;obtain ⟨_,c0,h⟩:=a0a h;have q0:=ckI c0;refine zH ?_ { tk:=[31],vx:=[30,34] };refine nT (zB ?_);cases soI h;exact zq
 replace h:=cF a h;refine zT (zs ?_);refine zB (nT (zr (rT ?_)));cases soI h;exact zq

theorem b5x {A:Ar} (hA:SA A) {x1:Int} {x2 p q:List D} {G J Y x8 x9 Q R E F S U V W X z B C o:Int} {c2 d2 k2 l2:List D} {m2 n2 o2 p2 q2 r2 s2 u2 v2 w2 y2 z2 a3 b3 c3 d3 e3 g3:Int} {i3 j3:List D} (h:Z84 A x1 x2 p q G J Y x8 x9 Q R E F S U V W X z B C o c2 d2=some (k2,l2,m2,n2,o2,p2,q2,r2,s2,u2,v2,w2,y2,z2,a3,b3,c3,d3,e3,g3,i3,j3)):a0c Tryz.prog 84 [.ptr 0 0,zi x1,zl 1 x2] [.cells [zl 1 p,zl 1 q,zi G,zi J,zi Y,zi x8,zi x9,zi Q,zi R,zi E,zi F,zi S,zi U,zi V,zi W,zi X,zi z,zi B,zi C,zi o,.gref 1 6,.gref 4 1],.gro 6 c2,.dead,.dead,.gro 1 d2,.dead,.dead] (.tuple []) [.cells [zl 1 k2,zl 1 l2,zi m2,zi n2,zi o2,zi p2,zi q2,zi r2,zi s2,zi u2,zi v2,zi w2,zi y2,zi z2,zi a3,zi b3,zi c3,zi d3,zi e3,zi g3,.gref 7 6,.gref 10 1],.dead,.dead,.dead,.dead,.dead,.dead,.gro 6 i3,.dead,.dead,.gro 1 j3,.dead,.dead]:=by
 unfold Z84 at h;refine zI Tryz.func84 ?_;refine zs ?_;rcases tf (A.zeq x1 0) with y1 | y1
 ·replace h:=cT y1 h;obtain ⟨c9,d9,e9⟩:=ixF hA (n:=2) y1 (by decide);refine zA ?_ (h:=(by (repeat (cbv;simp only [c9,d9,e9]));try cbv))
  refine nT (zs ?_);obtain ⟨a29,j5,h⟩:=a0a h;obtain ⟨z9,f32⟩:=gtI j5;obtain ⟨w1,b6,h⟩:=a0a h;obtain ⟨f35,f36⟩:=gtI b6;refine zH ?_ (h:=(by (repeat (cbv;simp only [z9,f32,f35,f36]));try cbv))
  refine nT (zs (zs ?_));obtain ⟨j2,c1,h⟩:=a0a h;refine AWp.cutW (fun τ=>τ=⟨[(0,.ptr 0 0),(1,zi x1),(2,zl 1 x2),(6,.ptr 0 2),(7,zi w1),(39,.d (.bool j2))],[.cells [zl 1 p,zl 1 q,zi G,zi J,zi Y,zi x8,zi x9,zi Q,zi R,zi E,zi F,zi S,zi U,zi V,zi W,zi X,zi z,zi B,zi C,zi o,.gref 1 6,.gref 4 1],.gro 6 c2,.dead,.dead,.gro 1 d2,.dead,.dead],254⟩) ?_ ?_
  ·refine zn ?_;rcases tf (A.zeq J 0) with y0 | y0
   ·replace c1:=cT y0 c1;obtain ⟨r39,u6,c1⟩:=a0a c1;refine zC (c0a hA u6) ?_ (h:=(by (repeat (cbv;simp only [y0]));try cbv))
    refine zE ?_ (h:=(by (repeat (cbv;simp only [y0]));try cbv))
    cases soI c1;exact oWi ⟨_,(zR [some 0,some 1,some 2,some 3,some 4,some 5,some 6] [0,1,2,6,7,39] (h:=(by first | (cbv;done) | ((repeat (cbv;simp only [y0]));try cbv)))),rfl⟩
   replace c1:=cF y0 c1;refine zE ?_ (h:=(by (repeat (cbv;simp only [y0]));try cbv))
   cases soI c1;exact oWi ⟨_,(zR [some 0,some 1,some 2,some 3,some 4,some 5,some 6] [0,1,2,6,7,39] (h:=(by first | (cbv;done) | ((repeat (cbv;simp only [y0]));try cbv)))),rfl⟩
  rintro _ rfl;refine nT ?_;obtain ⟨⟨q1,r1,s1,u1,n0,b2,k3⟩,i0,h⟩:=a0a h;refine AWp.cutW (fun τ=>τ=⟨[(0,.ptr 0 0),(2,zl 1 x2),(6,.ptr 0 2),(7,zi w1)],[.cells [zl 1 p,zl 1 q,zi G,zi J,zi q1,zi r1,zi s1,zi u1,zi n0,zi E,zi F,zi S,zi U,zi V,zi W,zi X,zi z,zi B,zi C,zi o,.gref 7 6,.gref 10 1],.dead,.dead,.dead,.dead,.dead,.dead,.gro 6 b2,.dead,.dead,.gro 1 k3,.dead,.dead],254⟩) ?_ ?_
  ·rcases tf j2 with b0 | b0
   ·replace i0:=cT b0 i0;refine zT ?_ (hb:=(by first | rfl | simp only [b0,zqa,zqb,zqc,zqd]))
    refine zs (zn ?_);obtain ⟨_,y6,i0⟩:=a0a i0;refine zC (c0b hA y6) ?_ (h:=(by (repeat (cbv;simp only [b0]));try cbv))
    refine zE ?_ (h:=(by (repeat (cbv;simp only [b0]));try cbv))
    refine nT (zs ?_);refine zA ?_ (h:=(by (repeat (cbv;simp only [b0]));try cbv))
    refine nT (zs ?_);obtain ⟨l44,z6,i0⟩:=a0a i0;obtain ⟨f46,f47⟩:=apI z6;refine zH ?_ { tk:=[56,67] } (h:=(by (repeat (cbv;simp only [b0,f46,f47]));try cbv))
    refine nT ?_;refine AWp.weak (Wk.settle 0 20 rfl rfl rfl) ?_;obtain ⟨l48,a7,i0⟩:=a0a i0;obtain ⟨f50,f51⟩:=apI a7;refine zA ?_ { tk:=[74,76] } (h:=(by (repeat (cbv;simp only [b0,f50,f51]));try cbv))
    cases soI i0;exact oWi ⟨_,(Wk.trans (Wk.settle 0 21 rfl rfl rfl) (zR [some 0,some 1,some 2,some 3,some 4,some 5,some 6,some 7,some 8,some 9,some 10,some 11,some 12] [0,2,6,7] (h:=(by first | (cbv;done) | ((repeat (cbv;simp only [b0]));try cbv))))),rfl⟩
   replace i0:=cF b0 i0;refine zU ?_ (hb:=(by first | rfl | simp only [b0,zqa,zqb,zqc,zqd]))
   refine zk ?_;cases soI i0;exact oWi ⟨_,(zR [some 0,none,none,none,none,none,none,some 1,some 2,some 3,some 4,some 5,some 6] [0,2,6,7] (h:=(by first | (cbv;done) | ((repeat (cbv;simp only [b0]));try cbv)))),rfl⟩
  rintro _ rfl;refine nT (zs (zA (nT (zs (zs ?_)))));obtain ⟨l3,d1,h⟩:=a0a h;refine AWp.cutW (fun τ=>τ=⟨[(0,.ptr 0 0),(6,.ptr 0 2),(7,zi w1),(99,.d (.bool l3))],[(.cells [zl 1 p,zl 1 q,zi G,zi J,zi q1,zi r1,zi s1,zi u1,zi n0,zi E,zi F,zi S,zi U,zi V,zi W,zi X,zi z,zi B,zi C,(.d (.int .i64 (A.wrp .i64 (A.zadd o 1)))),.gref 7 6,.gref 10 1]),.dead,.dead,.dead,.dead,.dead,.dead,.gro 6 b2,.dead,.dead,.gro 1 k3,.dead,.dead],254⟩) ?_ ?_
  ·rcases tf (A.zlt 0 (A.len x2)) with j1 | j1
   ·replace d1:=cT j1 d1;obtain ⟨a61,b7,d1⟩:=a0a d1;obtain ⟨f63,f64⟩:=gtI b7;refine zH ?_ (h:=(by (repeat (cbv;simp only [j1,f63,f64]));try cbv))
    cases soI d1;exact oWi ⟨_,(zR [some 0,some 1,some 2,some 3,some 4,some 5,some 6,some 7,some 8,some 9,some 10,some 11,some 12] [0,6,7,99] (h:=(by first | (cbv;done) | ((repeat (cbv;simp only [j1]));try cbv)))),rfl⟩
   replace d1:=cF j1 d1;refine zH ?_ (h:=(by (repeat (cbv;simp only [j1]));try cbv))
   cases soI d1;exact oWi ⟨_,(zR [some 0,some 1,some 2,some 3,some 4,some 5,some 6,some 7,some 8,some 9,some 10,some 11,some 12] [0,6,7,99] (h:=(by first | (cbv;done) | ((repeat (cbv;simp only [j1]));try cbv)))),rfl⟩
  rintro _ rfl;refine nT ?_;obtain ⟨r0,j0,h⟩:=a0a h;refine AWp.cutW (fun τ=>τ=⟨[(0,.ptr 0 0),(6,.ptr 0 2),(7,zi w1)],[(.cells [zl 1 p,zl 1 q,zi G,zi J,zi q1,zi r1,zi s1,zi u1,zi n0,zi E,zi F,zi S,zi U,zi V,zi W,zi X,zi z,zi B,zi C,(.d (.int .i64 (A.wrp .i64 (A.zadd o 1)))),.gref 7 6,.gref 10 1]),.dead,.dead,.dead,.dead,.dead,.dead,.gro 6 b2,.dead,.dead,.gro 1 r0,.dead,.dead],254⟩) ?_ ?_
  ·rcases tf l3 with z0 | z0
   ·replace j0:=cT z0 j0;refine zT ?_ (hb:=(by first | rfl | simp only [z0,zqa,zqb,zqc,zqd]))
    obtain ⟨_,c7,j0⟩:=a0a j0;have f70:=ckI c7;obtain ⟨_,d7,j0⟩:=a0a j0;have f71:=ckI d7;obtain ⟨a72,e7,j0⟩:=a0a j0;have f74:=gcI e7;refine zH ?_ { tk:=[111] } (h:=(by (repeat (cbv;simp only [z0,f70,f71,f74]));try cbv))
    cases soI j0;exact oWi ⟨_,(zR [some 0,some 1,some 2,some 3,some 4,some 5,some 6,some 7,some 8,some 9,some 10,some 11,some 12] [0,6,7] (h:=(by first | (cbv;done) | ((repeat (cbv;simp only [z0]));try cbv)))),rfl⟩
   replace j0:=cF z0 j0;refine zU ?_ (hb:=(by first | rfl | simp only [z0,zqa,zqb,zqc,zqd]))
   refine zk ?_;cases soI j0;exact oWi ⟨_,(zR [some 0,some 1,some 2,some 3,some 4,some 5,some 6,some 7,some 8,some 9,some 10,some 11,some 12] [0,6,7] (h:=(by first | (cbv;done) | ((repeat (cbv;simp only [z0]));try cbv)))),rfl⟩
  rintro _ rfl;refine nT (zs ?_);obtain ⟨a77,g7,h⟩:=a0a h;obtain ⟨f79,f80⟩:=gtI g7;obtain ⟨⟨g1,a82,a83,a84⟩,i7,h⟩:=a0a h;obtain ⟨f86,f87⟩:=gtI i7;refine zH ?_ { tk:=[125] } (h:=(by (repeat (cbv;simp only [f79,f80,f86,f87]));try cbv))
  refine nT (zs (zA (nT (zs ?_))));refine zA (nT (zs ?_));refine zA (nT (zb (zs ?_)));refine zA (nT ?_);obtain ⟨⟨v229,v230,v231,v232,v233,v234,v235,v236,v237,v238⟩,L,h⟩:=a0a h;refine AWp.cutW (fun τ=>τ=⟨[],[(.cells [zl 1 p,zl 1 q,zi v229,zi v230,zi v231,zi v232,zi v233,zi v234,zi n0,zi E,zi F,zi S,zi U,zi V,zi W,zi X,zi v235,zi v236,zi v237,(.d (.int .i64 (A.wrp .i64 (A.zadd o 1)))),.gref 7 6,.gref 10 1]),.dead,.dead,.dead,.dead,.dead,.dead,.gro 6 v238,.dead,.dead,.gro 1 r0,.dead,.dead],254⟩) ?_ ?_
  ·rcases tf (A.zeq g1 1) with b | b
   ·replace L:=cT b L;refine zT ?_ (hb:=(by first | rfl | simp only [b,zqa,zqb,zqc,zqd]))
    obtain ⟨_,j7,L⟩:=a0a L;have f91:=ckI j7;obtain ⟨_,k7,L⟩:=a0a L;have f92:=ckI k7;obtain ⟨a93,l7,L⟩:=a0a L;have f95:=gcI l7;obtain ⟨_,m7,L⟩:=a0a L;have f98:=ckI m7;obtain ⟨_,n7,L⟩:=a0a L;have f99:=ckI n7;refine zH ?_ { tk:=[149],vx:=[148,151] } (h:=(by (repeat (cbv;simp only [b,f91,f92,f95,f98,f99]));try cbv))
    cases soI L;exact oWi ⟨_,(zR [some 0,some 1,some 2,some 3,some 4,some 5,some 6,some 7,some 8,some 9,some 10,some 11,some 12] [] (h:=(by first | (cbv;done) | ((repeat (cbv;simp only [b]));try cbv)))),rfl⟩
   replace L:=cF b L;refine zU ?_ (hb:=(by first | rfl | simp only [b,zqa,zqb,zqc,zqd]))
   refine zs ?_;refine zA ?_ (h:=(by (repeat (cbv;simp only [b]));try cbv))
   refine nT ?_;obtain ⟨⟨v218,v219,v220,v221,v222,v223,v224,v225,v226,v227⟩,K,L⟩:=a0a L;refine AWp.cutW (fun τ=>τ=⟨[],[(.cells [zl 1 p,zl 1 q,zi v218,zi v219,zi v220,zi v221,zi v222,zi v223,zi n0,zi E,zi F,zi S,zi U,zi V,zi W,zi X,zi v224,zi v225,zi v226,(.d (.int .i64 (A.wrp .i64 (A.zadd o 1)))),.gref 7 6,.gref 10 1]),.dead,.dead,.dead,.dead,.dead,.dead,.gro 6 v227,.dead,.dead,.gro 1 r0,.dead,.dead],254⟩) ?_ ?_
   ·rcases tf (A.zeq g1 2) with c | c
    ·replace K:=cT c K;refine zT ?_ (hb:=(by first | rfl | simp only [b,c,zqa,zqb,zqc,zqd]))
     obtain ⟨_,o3,K⟩:=a0a K;have o7:=ckI o3;obtain ⟨_,p3,K⟩:=a0a K;have p7:=ckI p3;obtain ⟨a105,q3,K⟩:=a0a K;have q7:=gcI q3;obtain ⟨_,r3,K⟩:=a0a K;have r7:=ckI r3;obtain ⟨_,s3,K⟩:=a0a K;have s7:=ckI s3;refine zH ?_ { tk:=[162],vx:=[161,165] } (h:=(by (repeat (cbv;simp only [b,c,o7,p7,q7,r7,s7]));try cbv))
     cases soI K;exact oWi ⟨_,(zR [some 0,some 1,some 2,some 3,some 4,some 5,some 6,some 7,some 8,some 9,some 10,some 11,some 12] [] (h:=(by first | (cbv;done) | ((repeat (cbv;simp only [b,c]));try cbv)))),rfl⟩
    replace K:=cF c K;refine zU ?_ (hb:=(by first | rfl | simp only [b,c,zqa,zqb,zqc,zqd]))
    refine zs ?_;refine zA ?_ (h:=(by (repeat (cbv;simp only [b,c]));try cbv))
    refine nT ?_;obtain ⟨⟨v207,v208,v209,v210,v211,v212,v213,v214,v215,v216⟩,o0,K⟩:=a0a K;refine AWp.cutW (fun τ=>τ=⟨[],[(.cells [zl 1 p,zl 1 q,zi v207,zi v208,zi v209,zi v210,zi v211,zi v212,zi n0,zi E,zi F,zi S,zi U,zi V,zi W,zi X,zi v213,zi v214,zi v215,(.d (.int .i64 (A.wrp .i64 (A.zadd o 1)))),.gref 7 6,.gref 10 1]),.dead,.dead,.dead,.dead,.dead,.dead,.gro 6 v216,.dead,.dead,.gro 1 r0,.dead,.dead],254⟩) ?_ ?_
    ·rcases tf (A.zeq g1 3) with g | g
     ·replace o0:=cT g o0;refine zT ?_ (hb:=(by first | rfl | simp only [b,c,g,zqa,zqb,zqc,zqd]))
      refine zn ?_;obtain ⟨⟨r114,r115,r116,r117⟩,u3,o0⟩:=a0a o0;refine zC (c3y hA u3) ?_ (h:=(by (repeat (cbv;simp only [b,c,g]));try cbv))
      refine zE ?_ (h:=(by (repeat (cbv;simp only [b,c,g]));try cbv))
      cases soI o0;exact oWi ⟨_,(zR [some 0,some 1,some 2,some 3,some 4,some 5,some 6,some 7,some 8,some 9,some 10,some 11,some 12] [] (h:=(by first | (cbv;done) | ((repeat (cbv;simp only [b,c,g]));try cbv)))),rfl⟩
     replace o0:=cF g o0;refine zU ?_ (hb:=(by first | rfl | simp only [b,c,g,zqa,zqb,zqc,zqd]))
     refine zs ?_;refine zA ?_ (h:=(by (repeat (cbv;simp only [b,c,g]));try cbv))
     refine nT ?_;obtain ⟨⟨v199,v200,v201,v202,v203,v204,v205⟩,c0,o0⟩:=a0a o0;refine AWp.cutW (fun τ=>τ=⟨[],[(.cells [zl 1 p,zl 1 q,zi v199,zi v200,zi v201,zi v202,zi v203,zi v204,zi n0,zi E,zi F,zi S,zi U,zi V,zi W,zi X,zi z,zi B,zi C,(.d (.int .i64 (A.wrp .i64 (A.zadd o 1)))),.gref 7 6,.gref 10 1]),.dead,.dead,.dead,.dead,.dead,.dead,.gro 6 v205,.dead,.dead,.gro 1 r0,.dead,.dead],254⟩) ?_ ?_
     ·rcases tf (A.zeq g1 4) with j | j
      ·replace c0:=cT j c0;refine zT ?_ (hb:=(by first | rfl | simp only [b,c,g,j,zqa,zqb,zqc,zqd]))
       obtain ⟨_,v3,c0⟩:=a0a c0;have u7:=ckI v3;obtain ⟨_,w3,c0⟩:=a0a c0;have v7:=ckI w3;refine zH ?_ { tk:=[178],vx:=[180] } (h:=(by (repeat (cbv;simp only [b,c,g,j,u7,v7]));try cbv))
       cases soI c0;exact oWi ⟨_,(zR [some 0,some 1,some 2,some 3,some 4,some 5,some 6,some 7,some 8,some 9,some 10,some 11,some 12] [] (h:=(by first | (cbv;done) | ((repeat (cbv;simp only [b,c,g,j]));try cbv)))),rfl⟩
      replace c0:=cF j c0;refine zU ?_ (hb:=(by first | rfl | simp only [b,c,g,j,zqa,zqb,zqc,zqd]))
      refine zs ?_;refine zA ?_ (h:=(by (repeat (cbv;simp only [b,c,g,j]));try cbv))
      refine nT ?_;obtain ⟨⟨v191,v192,v193,v194,v195,v196,v197⟩,l,c0⟩:=a0a c0;refine AWp.cutW (fun τ=>τ=⟨[],[(.cells [zl 1 p,zl 1 q,zi v191,zi v192,zi v193,zi v194,zi v195,zi v196,zi n0,zi E,zi F,zi S,zi U,zi V,zi W,zi X,zi z,zi B,zi C,(.d (.int .i64 (A.wrp .i64 (A.zadd o 1)))),.gref 7 6,.gref 10 1]),.dead,.dead,.dead,.dead,.dead,.dead,.gro 6 v197,.dead,.dead,.gro 1 r0,.dead,.dead],254⟩) ?_ ?_
      ·rcases tf (A.zeq g1 5) with r | r
       ·replace l:=cT r l;refine zT ?_ (hb:=(by first | rfl | simp only [b,c,g,j,r,zqa,zqb,zqc,zqd]))
        obtain ⟨_,y3,l⟩:=a0a l;have w7:=ckI y3;obtain ⟨_,z3,l⟩:=a0a l;have y7:=ckI z3;obtain ⟨a128,a4,l⟩:=a0a l;have z7:=gcI a4;obtain ⟨_,b4,l⟩:=a0a l;have a8:=ckI b4;obtain ⟨_,c4,l⟩:=a0a l;have b8:=ckI c4;obtain ⟨a135,d4,l⟩:=a0a l;have c8:=gcI d4;obtain ⟨_,e4,l⟩:=a0a l;have d8:=nkI e4;obtain ⟨_,g4,l⟩:=a0a l;have e8:=ckI g4;obtain ⟨_,i4,l⟩:=a0a l;have g8:=ckI i4;refine zH ?_ { tk:=[199],vx:=[190,196,201] } (h:=(by (repeat (cbv;simp only [b,c,g,j,r,w7,y7,z7,a8,b8,c8,d8,e8,g8]));try cbv))
        cases soI l;exact oWi ⟨_,(zR [some 0,some 1,some 2,some 3,some 4,some 5,some 6,some 7,some 8,some 9,some 10,some 11,some 12] [] (h:=(by first | (cbv;done) | ((repeat (cbv;simp only [b,c,g,j,r]));try cbv)))),rfl⟩
       replace l:=cF r l;refine zU ?_ (hb:=(by first | rfl | simp only [b,c,g,j,r,zqa,zqb,zqc,zqd]))
       refine zs ?_;refine zA ?_ (h:=(by (repeat (cbv;simp only [b,c,g,j,r]));try cbv))
       refine nT ?_;obtain ⟨⟨v187,v188,v189⟩,O,l⟩:=a0a l;refine AWp.cutW (fun τ=>τ=⟨[],[(.cells [zl 1 p,zl 1 q,zi v187,zi v188,zi q1,zi r1,zi s1,zi u1,zi n0,zi E,zi F,zi S,zi U,zi V,zi W,zi X,zi z,zi B,zi C,(.d (.int .i64 (A.wrp .i64 (A.zadd o 1)))),.gref 7 6,.gref 10 1]),.dead,.dead,.dead,.dead,.dead,.dead,.gro 6 v189,.dead,.dead,.gro 1 r0,.dead,.dead],254⟩) ?_ ?_
       ·rcases tf (A.zeq g1 6) with u | u
        ·replace O:=cT u O;refine zT ?_ (hb:=(by first | rfl | simp only [b,c,g,j,r,u,zqa,zqb,zqc,zqd]))
         refine zs ?_;obtain ⟨_,j4,O⟩:=a0a O;have i8:=ckI j4;obtain ⟨_,k4,O⟩:=a0a O;have j8:=ckI k4;obtain ⟨m3,l4,O⟩:=a0a O;have k8:=gcI l4;refine zH ?_ { vx:=[208] } (h:=(by (repeat (cbv;simp only [b,c,g,j,r,u,i8,j8,k8]));try cbv))
         refine nT ?_;obtain ⟨v153,k1,O⟩:=a0a O;refine AWp.cutW (fun τ=>τ=⟨[],[(.cells [zl 1 p,zl 1 q,zi G,zi v153,zi q1,zi r1,zi s1,zi u1,zi n0,zi E,zi F,zi S,zi U,zi V,zi W,zi X,zi z,zi B,zi C,(.d (.int .i64 (A.wrp .i64 (A.zadd o 1)))),.gref 7 6,.gref 10 1]),.dead,.dead,.dead,.dead,.dead,.dead,.gro 6 b2,.dead,.dead,.gro 1 r0,.dead,.dead],254⟩) ?_ ?_
         ·rcases tf (A.zeq m3 0) with s0 | s0
          ·replace k1:=cT s0 k1;refine zT ?_ (hb:=(by first | rfl | simp only [b,c,g,j,r,u,s0,zqa,zqb,zqc,zqd]))
           refine zA ?_ (h:=(by (repeat (cbv;simp only [b,c,g,j,r,u,s0]));try cbv))
           cases soI k1;exact oWi ⟨_,(zR [some 0,some 1,some 2,some 3,some 4,some 5,some 6,some 7,some 8,some 9,some 10,some 11,some 12] [] (h:=(by first | (cbv;done) | ((repeat (cbv;simp only [b,c,g,j,r,u,s0]));try cbv)))),rfl⟩
          replace k1:=cF s0 k1;refine zU ?_ (hb:=(by first | rfl | simp only [b,c,g,j,r,u,s0,zqa,zqb,zqc,zqd]))
          refine zk ?_;cases soI k1;exact oWi ⟨_,(zR [some 0,some 1,some 2,some 3,some 4,some 5,some 6,some 7,some 8,some 9,some 10,some 11,some 12] [] (h:=(by first | (cbv;done) | ((repeat (cbv;simp only [b,c,g,j,r,u,s0]));try cbv)))),rfl⟩
         rintro _ rfl;cases soI O;exact oWi ⟨_,zR [some 0,some 1,some 2,some 3,some 4,some 5,some 6,some 7,some 8,some 9,some 10,some 11,some 12] [],rfl⟩
        replace O:=cF u O;refine zU ?_ (hb:=(by first | rfl | simp only [b,c,g,j,r,u,zqa,zqb,zqc,zqd]))
        refine zs ?_;refine zA ?_ (h:=(by (repeat (cbv;simp only [b,c,g,j,r,u]));try cbv))
        refine nT ?_;obtain ⟨⟨v183,v184,v185⟩,w,O⟩:=a0a O;refine AWp.cutW (fun τ=>τ=⟨[],[(.cells [zl 1 p,zl 1 q,zi v183,zi v184,zi q1,zi r1,zi s1,zi u1,zi n0,zi E,zi F,zi S,zi U,zi V,zi W,zi X,zi z,zi B,zi C,(.d (.int .i64 (A.wrp .i64 (A.zadd o 1)))),.gref 7 6,.gref 10 1]),.dead,.dead,.dead,.dead,.dead,.dead,.gro 6 v185,.dead,.dead,.gro 1 r0,.dead,.dead],254⟩) ?_ ?_
        ·rcases tf (A.zeq g1 7) with k0 | k0
         ·replace w:=cT k0 w;refine zT ?_ (hb:=(by first | rfl | simp only [b,c,g,j,r,u,k0,zqa,zqb,zqc,zqd]))
          refine zs ?_;obtain ⟨_,m4,w⟩:=a0a w;have l8:=ckI m4;obtain ⟨_,n4,w⟩:=a0a w;have m8:=ckI n4;refine zH ?_ (h:=(by (repeat (cbv;simp only [b,c,g,j,r,u,k0,l8,m8]));try cbv))
          refine nT (zs ?_);obtain ⟨_,o4,w⟩:=a0a w;have n8:=ckI o4;obtain ⟨_,p4,w⟩:=a0a w;have o8:=ckI p4;obtain ⟨a164,q4,w⟩:=a0a w;have p8:=gcI q4;obtain ⟨⟨a167,a168,a169,a170,a171,a172⟩,r4,w⟩:=a0a w;have q8:=gcI r4;obtain ⟨⟨a175,a176,a177,a178,a179,a180⟩,s4,w⟩:=a0a w;have r8:=gcI s4;refine zH ?_ { vx:=[238] } (h:=(by (repeat (cbv;simp only [b,c,g,j,r,u,k0,n8,o8,p8,q8,r8]));try cbv))
          refine nT (zs ?_);refine zA ?_ (h:=(by (repeat (cbv;simp only [b,c,g,j,r,u,k0]));try cbv))
          refine nT ?_;refine zA ?_ (h:=(by (repeat (cbv;simp only [b,c,g,j,r,u,k0]));try cbv))
          cases soI w;exact oWi ⟨_,(zR [some 0,some 1,some 2,some 3,some 4,some 5,some 6,some 7,some 8,some 9,some 10,some 11,some 12] [] (h:=(by first | (cbv;done) | ((repeat (cbv;simp only [b,c,g,j,r,u,k0]));try cbv)))),rfl⟩
         replace w:=cF k0 w;refine zU ?_ (hb:=(by first | rfl | simp only [b,c,g,j,r,u,k0,zqa,zqb,zqc,zqd]))
         refine zk ?_;cases soI w;exact oWi ⟨_,(zR [some 0,some 1,some 2,some 3,some 4,some 5,some 6,some 7,some 8,some 9,some 10,some 11,some 12] [] (h:=(by first | (cbv;done) | ((repeat (cbv;simp only [b,c,g,j,r,u,k0]));try cbv)))),rfl⟩
        rintro _ rfl;cases soI O;exact oWi ⟨_,zR [some 0,some 1,some 2,some 3,some 4,some 5,some 6,some 7,some 8,some 9,some 10,some 11,some 12] [],rfl⟩
       rintro _ rfl;cases soI l;exact oWi ⟨_,zR [some 0,some 1,some 2,some 3,some 4,some 5,some 6,some 7,some 8,some 9,some 10,some 11,some 12] [],rfl⟩
      rintro _ rfl;cases soI c0;exact oWi ⟨_,zR [some 0,some 1,some 2,some 3,some 4,some 5,some 6,some 7,some 8,some 9,some 10,some 11,some 12] [],rfl⟩
     rintro _ rfl;cases soI o0;exact oWi ⟨_,zR [some 0,some 1,some 2,some 3,some 4,some 5,some 6,some 7,some 8,some 9,some 10,some 11,some 12] [],rfl⟩
    rintro _ rfl;cases soI K;exact oWi ⟨_,zR [some 0,some 1,some 2,some 3,some 4,some 5,some 6,some 7,some 8,some 9,some 10,some 11,some 12] [],rfl⟩
   rintro _ rfl;cases soI L;exact oWi ⟨_,zR [some 0,some 1,some 2,some 3,some 4,some 5,some 6,some 7,some 8,some 9,some 10,some 11,some 12] [],rfl⟩
  rintro _ rfl;refine nB ?_;cases soI h;exact zq
 replace h:=cF y1 h;rcases tf (A.zeq x1 1) with z1 | z1
 ·replace h:=cT z1 h;obtain ⟨m9,n9,o9⟩:=ixF hA (n:=2) z1 (by decide);refine zA ?_ (h:=(by (repeat (cbv;simp only [m9,n9,o9]));try cbv))
  refine nT (zs ?_);obtain ⟨a240,u4,h⟩:=a0a h;obtain ⟨s8,u8⟩:=gtI u4;obtain ⟨v1,v4,h⟩:=a0a h;obtain ⟨v8,w8⟩:=gtI v4;refine zH ?_ (h:=(by (repeat (cbv;simp only [s8,u8,v8,w8]));try cbv))
  refine nT (zs (zs ?_));obtain ⟨e2,a1,h⟩:=a0a h;refine AWp.cutW (fun τ=>τ=⟨[(0,.ptr 0 0),(1,zi x1),(2,zl 1 x2),(6,.ptr 0 9),(7,zi v1),(39,.d (.bool e2))],[.cells [zl 1 p,zl 1 q,zi G,zi J,zi Y,zi x8,zi x9,zi Q,zi R,zi E,zi F,zi S,zi U,zi V,zi W,zi X,zi z,zi B,zi C,zi o,.gref 1 6,.gref 4 1],.gro 6 c2,.dead,.dead,.gro 1 d2,.dead,.dead],254⟩) ?_ ?_
  ·refine zn ?_;rcases tf (A.zeq F 0) with u0 | u0
   ·replace a1:=cT u0 a1;obtain ⟨r250,w4,a1⟩:=a0a a1;refine zC (c0a hA w4) ?_ (h:=(by (repeat (cbv;simp only [u0]));try cbv))
    refine zE ?_ (h:=(by (repeat (cbv;simp only [u0]));try cbv))
    cases soI a1;exact oWi ⟨_,(zR [some 0,some 1,some 2,some 3,some 4,some 5,some 6] [0,1,2,6,7,39] (h:=(by first | (cbv;done) | ((repeat (cbv;simp only [u0]));try cbv)))),rfl⟩
   replace a1:=cF u0 a1;refine zE ?_ (h:=(by (repeat (cbv;simp only [u0]));try cbv))
   cases soI a1;exact oWi ⟨_,(zR [some 0,some 1,some 2,some 3,some 4,some 5,some 6] [0,1,2,6,7,39] (h:=(by first | (cbv;done) | ((repeat (cbv;simp only [u0]));try cbv)))),rfl⟩
  rintro _ rfl;refine nT ?_;obtain ⟨⟨m1,n1,o1,p1,m0,a2,g2⟩,d0,h⟩:=a0a h;refine AWp.cutW (fun τ=>τ=⟨[(0,.ptr 0 0),(2,zl 1 x2),(6,.ptr 0 9),(7,zi v1)],[.cells [zl 1 p,zl 1 q,zi G,zi J,zi Y,zi x8,zi x9,zi Q,zi R,zi E,zi F,zi m1,zi n1,zi o1,zi p1,zi m0,zi z,zi B,zi C,zi o,.gref 7 6,.gref 10 1],.dead,.dead,.dead,.dead,.dead,.dead,.gro 6 a2,.dead,.dead,.gro 1 g2,.dead,.dead],254⟩) ?_ ?_
  ·rcases tf e2 with a0 | a0
   ·replace d0:=cT a0 d0;refine zT ?_ (hb:=(by first | rfl | simp only [a0,zqa,zqb,zqc,zqd]))
    refine zs (zn ?_);obtain ⟨_,y4,d0⟩:=a0a d0;refine zC (c0b hA y4) ?_ (h:=(by (repeat (cbv;simp only [a0]));try cbv))
    refine zE ?_ (h:=(by (repeat (cbv;simp only [a0]));try cbv))
    refine nT (zs ?_);refine zA ?_ (h:=(by (repeat (cbv;simp only [a0]));try cbv))
    refine nT (zs ?_);obtain ⟨l255,z4,d0⟩:=a0a d0;obtain ⟨y8,z8⟩:=apI z4;refine zH ?_ { tk:=[56,67] } (h:=(by (repeat (cbv;simp only [a0,y8,z8]));try cbv))
    refine nT ?_;refine AWp.weak (Wk.settle 0 20 rfl rfl rfl) ?_;obtain ⟨l259,a5,d0⟩:=a0a d0;obtain ⟨a9,b9⟩:=apI a5;refine zA ?_ { tk:=[74,76] } (h:=(by (repeat (cbv;simp only [a0,a9,b9]));try cbv))
    cases soI d0;exact oWi ⟨_,(Wk.trans (Wk.settle 0 21 rfl rfl rfl) (zR [some 0,some 1,some 2,some 3,some 4,some 5,some 6,some 7,some 8,some 9,some 10,some 11,some 12] [0,2,6,7] (h:=(by first | (cbv;done) | ((repeat (cbv;simp only [a0]));try cbv))))),rfl⟩
   replace d0:=cF a0 d0;refine zU ?_ (hb:=(by first | rfl | simp only [a0,zqa,zqb,zqc,zqd]))
   refine zk ?_;cases soI d0;exact oWi ⟨_,(zR [some 0,none,none,none,none,none,none,some 1,some 2,some 3,some 4,some 5,some 6] [0,2,6,7] (h:=(by first | (cbv;done) | ((repeat (cbv;simp only [a0]));try cbv)))),rfl⟩
  rintro _ rfl;refine nT (zs (zA (nT (zs (zs ?_)))));obtain ⟨i2,b1,h⟩:=a0a h;refine AWp.cutW (fun τ=>τ=⟨[(0,.ptr 0 0),(6,.ptr 0 9),(7,zi v1),(99,.d (.bool i2))],[(.cells [zl 1 p,zl 1 q,zi G,zi J,zi Y,zi x8,zi x9,zi Q,zi R,zi E,zi F,zi m1,zi n1,zi o1,zi p1,zi m0,zi z,zi B,zi C,(.d (.int .i64 (A.wrp .i64 (A.zadd o 1)))),.gref 7 6,.gref 10 1]),.dead,.dead,.dead,.dead,.dead,.dead,.gro 6 a2,.dead,.dead,.gro 1 g2,.dead,.dead],254⟩) ?_ ?_
  ·rcases tf (A.zlt 0 (A.len x2)) with i1 | i1
   ·replace b1:=cT i1 b1;obtain ⟨a272,b5,b1⟩:=a0a b1;obtain ⟨g9,i9⟩:=gtI b5;refine zH ?_ (h:=(by (repeat (cbv;simp only [i1,g9,i9]));try cbv))
    cases soI b1;exact oWi ⟨_,(zR [some 0,some 1,some 2,some 3,some 4,some 5,some 6,some 7,some 8,some 9,some 10,some 11,some 12] [0,6,7,99] (h:=(by first | (cbv;done) | ((repeat (cbv;simp only [i1]));try cbv)))),rfl⟩
   replace b1:=cF i1 b1;refine zH ?_ (h:=(by (repeat (cbv;simp only [i1]));try cbv))
   cases soI b1;exact oWi ⟨_,(zR [some 0,some 1,some 2,some 3,some 4,some 5,some 6,some 7,some 8,some 9,some 10,some 11,some 12] [0,6,7,99] (h:=(by first | (cbv;done) | ((repeat (cbv;simp only [i1]));try cbv)))),rfl⟩
  rintro _ rfl;refine nT ?_;obtain ⟨q0,e0,h⟩:=a0a h;refine AWp.cutW (fun τ=>τ=⟨[(0,.ptr 0 0),(6,.ptr 0 9),(7,zi v1)],[(.cells [zl 1 p,zl 1 q,zi G,zi J,zi Y,zi x8,zi x9,zi Q,zi R,zi E,zi F,zi m1,zi n1,zi o1,zi p1,zi m0,zi z,zi B,zi C,(.d (.int .i64 (A.wrp .i64 (A.zadd o 1)))),.gref 7 6,.gref 10 1]),.dead,.dead,.dead,.dead,.dead,.dead,.gro 6 a2,.dead,.dead,.gro 1 q0,.dead,.dead],254⟩) ?_ ?_
  ·rcases tf i2 with v0 | v0
   ·replace e0:=cT v0 e0;refine zT ?_ (hb:=(by first | rfl | simp only [v0,zqa,zqb,zqc,zqd]))
    obtain ⟨_,c5,e0⟩:=a0a e0;have j9:=ckI c5;obtain ⟨_,d5,e0⟩:=a0a e0;have k9:=ckI d5;obtain ⟨a283,e5,e0⟩:=a0a e0;have l9:=gcI e5;refine zH ?_ { tk:=[111] } (h:=(by (repeat (cbv;simp only [v0,j9,k9,l9]));try cbv))
    cases soI e0;exact oWi ⟨_,(zR [some 0,some 1,some 2,some 3,some 4,some 5,some 6,some 7,some 8,some 9,some 10,some 11,some 12] [0,6,7] (h:=(by first | (cbv;done) | ((repeat (cbv;simp only [v0]));try cbv)))),rfl⟩
   replace e0:=cF v0 e0;refine zU ?_ (hb:=(by first | rfl | simp only [v0,zqa,zqb,zqc,zqd]))
   refine zk ?_;cases soI e0;exact oWi ⟨_,(zR [some 0,some 1,some 2,some 3,some 4,some 5,some 6,some 7,some 8,some 9,some 10,some 11,some 12] [0,6,7] (h:=(by first | (cbv;done) | ((repeat (cbv;simp only [v0]));try cbv)))),rfl⟩
  rintro _ rfl;refine nT (zs ?_);obtain ⟨a288,g5,h⟩:=a0a h;obtain ⟨p9,q9⟩:=gtI g5;obtain ⟨⟨e1,a293,a294,a295⟩,i5,h⟩:=a0a h;obtain ⟨r9,s9⟩:=gtI i5;refine zH ?_ { tk:=[125] } (h:=(by (repeat (cbv;simp only [p9,q9,r9,s9]));try cbv))
  refine nT (zs (zA (nT (zs ?_))));refine zA (nT (zs ?_));refine zA (nT (zb (zs ?_)));refine zA (nT ?_);obtain ⟨⟨v440,v441,v442,v443,v444,v445,v446,v447,v448,v449⟩,N,h⟩:=a0a h;refine AWp.cutW (fun τ=>τ=⟨[],[(.cells [zl 1 p,zl 1 q,zi G,zi J,zi Y,zi x8,zi x9,zi Q,zi R,zi v440,zi v441,zi v442,zi v443,zi v444,zi v445,zi m0,zi v446,zi v447,zi v448,(.d (.int .i64 (A.wrp .i64 (A.zadd o 1)))),.gref 7 6,.gref 10 1]),.dead,.dead,.dead,.dead,.dead,.dead,.gro 6 v449,.dead,.dead,.gro 1 q0,.dead,.dead],254⟩) ?_ ?_
  ·rcases tf (A.zeq e1 1) with a | a
   ·replace N:=cT a N;refine zT ?_ (hb:=(by first | rfl | simp only [a,zqa,zqb,zqc,zqd]))
    obtain ⟨_,k5,N⟩:=a0a N;have u9:=ckI k5;obtain ⟨_,l5,N⟩:=a0a N;have v9:=ckI l5;obtain ⟨a304,m5,N⟩:=a0a N;have w9:=gcI m5;obtain ⟨_,n5,N⟩:=a0a N;have y9:=ckI n5;obtain ⟨_,o5,N⟩:=a0a N;have f310:=ckI o5;refine zH ?_ { tk:=[149],vx:=[148,151] } (h:=(by (repeat (cbv;simp only [a,u9,v9,w9,y9,f310]));try cbv))
    cases soI N;exact oWi ⟨_,(zR [some 0,some 1,some 2,some 3,some 4,some 5,some 6,some 7,some 8,some 9,some 10,some 11,some 12] [] (h:=(by first | (cbv;done) | ((repeat (cbv;simp only [a]));try cbv)))),rfl⟩
   replace N:=cF a N;refine zU ?_ (hb:=(by first | rfl | simp only [a,zqa,zqb,zqc,zqd]))
   refine zs ?_;refine zA ?_ (h:=(by (repeat (cbv;simp only [a]));try cbv))
   refine nT ?_;obtain ⟨⟨v429,v430,v431,v432,v433,v434,v435,v436,v437,v438⟩,M,N⟩:=a0a N;refine AWp.cutW (fun τ=>τ=⟨[],[(.cells [zl 1 p,zl 1 q,zi G,zi J,zi Y,zi x8,zi x9,zi Q,zi R,zi v429,zi v430,zi v431,zi v432,zi v433,zi v434,zi m0,zi v435,zi v436,zi v437,(.d (.int .i64 (A.wrp .i64 (A.zadd o 1)))),.gref 7 6,.gref 10 1]),.dead,.dead,.dead,.dead,.dead,.dead,.gro 6 v438,.dead,.dead,.gro 1 q0,.dead,.dead],254⟩) ?_ ?_
   ·rcases tf (A.zeq e1 2) with e | e
    ·replace M:=cT e M;refine zT ?_ (hb:=(by first | rfl | simp only [a,e,zqa,zqb,zqc,zqd]))
     obtain ⟨_,p5,M⟩:=a0a M;have f314:=ckI p5;obtain ⟨_,q5,M⟩:=a0a M;have f315:=ckI q5;obtain ⟨a316,r5,M⟩:=a0a M;have f318:=gcI r5;obtain ⟨_,s5,M⟩:=a0a M;have f321:=ckI s5;obtain ⟨_,u5,M⟩:=a0a M;have f322:=ckI u5;refine zH ?_ { tk:=[162],vx:=[161,165] } (h:=(by (repeat (cbv;simp only [a,e,f314,f315,f318,f321,f322]));try cbv))
     cases soI M;exact oWi ⟨_,(zR [some 0,some 1,some 2,some 3,some 4,some 5,some 6,some 7,some 8,some 9,some 10,some 11,some 12] [] (h:=(by first | (cbv;done) | ((repeat (cbv;simp only [a,e]));try cbv)))),rfl⟩
    replace M:=cF e M;refine zU ?_ (hb:=(by first | rfl | simp only [a,e,zqa,zqb,zqc,zqd]))
    refine zs ?_;refine zA ?_ (h:=(by (repeat (cbv;simp only [a,e]));try cbv))
    refine nT ?_;obtain ⟨⟨v418,v419,v420,v421,v422,v423,v424,v425,v426,v427⟩,p0,M⟩:=a0a M;refine AWp.cutW (fun τ=>τ=⟨[],[(.cells [zl 1 p,zl 1 q,zi G,zi J,zi Y,zi x8,zi x9,zi Q,zi R,zi v418,zi v419,zi v420,zi v421,zi v422,zi v423,zi m0,zi v424,zi v425,zi v426,(.d (.int .i64 (A.wrp .i64 (A.zadd o 1)))),.gref 7 6,.gref 10 1]),.dead,.dead,.dead,.dead,.dead,.dead,.gro 6 v427,.dead,.dead,.gro 1 q0,.dead,.dead],254⟩) ?_ ?_
    ·rcases tf (A.zeq e1 3) with i | i
     ·replace p0:=cT i p0;refine zT ?_ (hb:=(by first | rfl | simp only [a,e,i,zqa,zqb,zqc,zqd]))
      refine zn ?_;obtain ⟨⟨r325,r326,r327,r328⟩,v5,p0⟩:=a0a p0;refine zC (c0c hA v5) ?_ (h:=(by (repeat (cbv;simp only [a,e,i]));try cbv))
      refine zE ?_ (h:=(by (repeat (cbv;simp only [a,e,i]));try cbv))
      cases soI p0;exact oWi ⟨_,(zR [some 0,some 1,some 2,some 3,some 4,some 5,some 6,some 7,some 8,some 9,some 10,some 11,some 12] [] (h:=(by first | (cbv;done) | ((repeat (cbv;simp only [a,e,i]));try cbv)))),rfl⟩
     replace p0:=cF i p0;refine zU ?_ (hb:=(by first | rfl | simp only [a,e,i,zqa,zqb,zqc,zqd]))
     refine zs ?_;refine zA ?_ (h:=(by (repeat (cbv;simp only [a,e,i]));try cbv))
     refine nT ?_;obtain ⟨⟨v410,v411,v412,v413,v414,v415,v416⟩,g0,p0⟩:=a0a p0;refine AWp.cutW (fun τ=>τ=⟨[],[(.cells [zl 1 p,zl 1 q,zi G,zi J,zi Y,zi x8,zi x9,zi Q,zi R,zi v410,zi v411,zi v412,zi v413,zi v414,zi v415,zi m0,zi z,zi B,zi C,(.d (.int .i64 (A.wrp .i64 (A.zadd o 1)))),.gref 7 6,.gref 10 1]),.dead,.dead,.dead,.dead,.dead,.dead,.gro 6 v416,.dead,.dead,.gro 1 q0,.dead,.dead],254⟩) ?_ ?_
     ·rcases tf (A.zeq e1 4) with k | k
      ·replace g0:=cT k g0;refine zT ?_ (hb:=(by first | rfl | simp only [a,e,i,k,zqa,zqb,zqc,zqd]))
       obtain ⟨_,w5,g0⟩:=a0a g0;have f332:=ckI w5;obtain ⟨_,y5,g0⟩:=a0a g0;have f333:=ckI y5;refine zH ?_ { tk:=[178],vx:=[180] } (h:=(by (repeat (cbv;simp only [a,e,i,k,f332,f333]));try cbv))
       cases soI g0;exact oWi ⟨_,(zR [some 0,some 1,some 2,some 3,some 4,some 5,some 6,some 7,some 8,some 9,some 10,some 11,some 12] [] (h:=(by first | (cbv;done) | ((repeat (cbv;simp only [a,e,i,k]));try cbv)))),rfl⟩
      replace g0:=cF k g0;refine zU ?_ (hb:=(by first | rfl | simp only [a,e,i,k,zqa,zqb,zqc,zqd]))
      refine zs ?_;refine zA ?_ (h:=(by (repeat (cbv;simp only [a,e,i,k]));try cbv))
      refine nT ?_;obtain ⟨⟨v402,v403,v404,v405,v406,v407,v408⟩,m,g0⟩:=a0a g0;refine AWp.cutW (fun τ=>τ=⟨[],[(.cells [zl 1 p,zl 1 q,zi G,zi J,zi Y,zi x8,zi x9,zi Q,zi R,zi v402,zi v403,zi v404,zi v405,zi v406,zi v407,zi m0,zi z,zi B,zi C,(.d (.int .i64 (A.wrp .i64 (A.zadd o 1)))),.gref 7 6,.gref 10 1]),.dead,.dead,.dead,.dead,.dead,.dead,.gro 6 v408,.dead,.dead,.gro 1 q0,.dead,.dead],254⟩) ?_ ?_
      ·rcases tf (A.zeq e1 5) with s | s
       ·replace m:=cT s m;refine zT ?_ (hb:=(by first | rfl | simp only [a,e,i,k,s,zqa,zqb,zqc,zqd]))
        obtain ⟨_,z5,m⟩:=a0a m;have f337:=ckI z5;obtain ⟨_,a6,m⟩:=a0a m;have f338:=ckI a6;obtain ⟨a339,c6,m⟩:=a0a m;have f341:=gcI c6;obtain ⟨_,d6,m⟩:=a0a m;have f344:=ckI d6;obtain ⟨_,e6,m⟩:=a0a m;have f345:=ckI e6;obtain ⟨a346,g6,m⟩:=a0a m;have f348:=gcI g6;obtain ⟨_,i6,m⟩:=a0a m;have f350:=nkI i6;obtain ⟨_,j6,m⟩:=a0a m;have f353:=ckI j6;obtain ⟨_,k6,m⟩:=a0a m;have f354:=ckI k6;refine zH ?_ { tk:=[199],vx:=[190,196,201] } (h:=(by (repeat (cbv;simp only [a,e,i,k,s,f337,f338,f341,f344,f345,f348,f350,f353,f354]));try cbv))
        cases soI m;exact oWi ⟨_,(zR [some 0,some 1,some 2,some 3,some 4,some 5,some 6,some 7,some 8,some 9,some 10,some 11,some 12] [] (h:=(by first | (cbv;done) | ((repeat (cbv;simp only [a,e,i,k,s]));try cbv)))),rfl⟩
       replace m:=cF s m;refine zU ?_ (hb:=(by first | rfl | simp only [a,e,i,k,s,zqa,zqb,zqc,zqd]))
       refine zs ?_;refine zA ?_ (h:=(by (repeat (cbv;simp only [a,e,i,k,s]));try cbv))
       refine nT ?_;obtain ⟨⟨v398,v399,v400⟩,P,m⟩:=a0a m;refine AWp.cutW (fun τ=>τ=⟨[],[(.cells [zl 1 p,zl 1 q,zi G,zi J,zi Y,zi x8,zi x9,zi Q,zi R,zi v398,zi v399,zi m1,zi n1,zi o1,zi p1,zi m0,zi z,zi B,zi C,(.d (.int .i64 (A.wrp .i64 (A.zadd o 1)))),.gref 7 6,.gref 10 1]),.dead,.dead,.dead,.dead,.dead,.dead,.gro 6 v400,.dead,.dead,.gro 1 q0,.dead,.dead],254⟩) ?_ ?_
       ·rcases tf (A.zeq e1 6) with v | v
        ·replace P:=cT v P;refine zT ?_ (hb:=(by first | rfl | simp only [a,e,i,k,s,v,zqa,zqb,zqc,zqd]))
         refine zs ?_;obtain ⟨_,l6,P⟩:=a0a P;have f358:=ckI l6;obtain ⟨_,m6,P⟩:=a0a P;have f359:=ckI m6;obtain ⟨n3,n6,P⟩:=a0a P;have f362:=gcI n6;refine zH ?_ { vx:=[208] } (h:=(by (repeat (cbv;simp only [a,e,i,k,s,v,f358,f359,f362]));try cbv))
         refine nT ?_;obtain ⟨v364,l1,P⟩:=a0a P;refine AWp.cutW (fun τ=>τ=⟨[],[(.cells [zl 1 p,zl 1 q,zi G,zi J,zi Y,zi x8,zi x9,zi Q,zi R,zi E,zi v364,zi m1,zi n1,zi o1,zi p1,zi m0,zi z,zi B,zi C,(.d (.int .i64 (A.wrp .i64 (A.zadd o 1)))),.gref 7 6,.gref 10 1]),.dead,.dead,.dead,.dead,.dead,.dead,.gro 6 a2,.dead,.dead,.gro 1 q0,.dead,.dead],254⟩) ?_ ?_
         ·rcases tf (A.zeq n3 0) with w0 | w0
          ·replace l1:=cT w0 l1;refine zT ?_ (hb:=(by first | rfl | simp only [a,e,i,k,s,v,w0,zqa,zqb,zqc,zqd]))
           refine zA ?_ (h:=(by (repeat (cbv;simp only [a,e,i,k,s,v,w0]));try cbv))
           cases soI l1;exact oWi ⟨_,(zR [some 0,some 1,some 2,some 3,some 4,some 5,some 6,some 7,some 8,some 9,some 10,some 11,some 12] [] (h:=(by first | (cbv;done) | ((repeat (cbv;simp only [a,e,i,k,s,v,w0]));try cbv)))),rfl⟩
          replace l1:=cF w0 l1;refine zU ?_ (hb:=(by first | rfl | simp only [a,e,i,k,s,v,w0,zqa,zqb,zqc,zqd]))
          refine zk ?_;cases soI l1;exact oWi ⟨_,(zR [some 0,some 1,some 2,some 3,some 4,some 5,some 6,some 7,some 8,some 9,some 10,some 11,some 12] [] (h:=(by first | (cbv;done) | ((repeat (cbv;simp only [a,e,i,k,s,v,w0]));try cbv)))),rfl⟩
         rintro _ rfl;cases soI P;exact oWi ⟨_,zR [some 0,some 1,some 2,some 3,some 4,some 5,some 6,some 7,some 8,some 9,some 10,some 11,some 12] [],rfl⟩
        replace P:=cF v P;refine zU ?_ (hb:=(by first | rfl | simp only [a,e,i,k,s,v,zqa,zqb,zqc,zqd]))
        refine zs ?_;refine zA ?_ (h:=(by (repeat (cbv;simp only [a,e,i,k,s,v]));try cbv))
        refine nT ?_;obtain ⟨⟨v394,v395,v396⟩,y,P⟩:=a0a P;refine AWp.cutW (fun τ=>τ=⟨[],[(.cells [zl 1 p,zl 1 q,zi G,zi J,zi Y,zi x8,zi x9,zi Q,zi R,zi v394,zi v395,zi m1,zi n1,zi o1,zi p1,zi m0,zi z,zi B,zi C,(.d (.int .i64 (A.wrp .i64 (A.zadd o 1)))),.gref 7 6,.gref 10 1]),.dead,.dead,.dead,.dead,.dead,.dead,.gro 6 v396,.dead,.dead,.gro 1 q0,.dead,.dead],254⟩) ?_ ?_
        ·rcases tf (A.zeq e1 7) with l0 | l0
         ·replace y:=cT l0 y;refine zT ?_ (hb:=(by first | rfl | simp only [a,e,i,k,s,v,l0,zqa,zqb,zqc,zqd]))
          refine zs ?_;obtain ⟨_,o6,y⟩:=a0a y;have f369:=ckI o6;obtain ⟨_,p6,y⟩:=a0a y;have f370:=ckI p6;refine zH ?_ (h:=(by (repeat (cbv;simp only [a,e,i,k,s,v,l0,f369,f370]));try cbv))
          refine nT (zs ?_);obtain ⟨_,q6,y⟩:=a0a y;have f373:=ckI q6;obtain ⟨_,r6,y⟩:=a0a y;have f374:=ckI r6;obtain ⟨a375,s6,y⟩:=a0a y;have f377:=gcI s6;obtain ⟨⟨a378,a379,a380,a381,a382,a383⟩,v6,y⟩:=a0a y;have f385:=gcI v6;obtain ⟨⟨a386,a387,a388,a389,a390,a391⟩,w6,y⟩:=a0a y;have f393:=gcI w6;refine zH ?_ { vx:=[238] } (h:=(by (repeat (cbv;simp only [a,e,i,k,s,v,l0,f373,f374,f377,f385,f393]));try cbv))
          refine nT (zs ?_);refine zA ?_ (h:=(by (repeat (cbv;simp only [a,e,i,k,s,v,l0]));try cbv))
          refine nT ?_;refine zA ?_ (h:=(by (repeat (cbv;simp only [a,e,i,k,s,v,l0]));try cbv))
          cases soI y;exact oWi ⟨_,(zR [some 0,some 1,some 2,some 3,some 4,some 5,some 6,some 7,some 8,some 9,some 10,some 11,some 12] [] (h:=(by first | (cbv;done) | ((repeat (cbv;simp only [a,e,i,k,s,v,l0]));try cbv)))),rfl⟩
         replace y:=cF l0 y;refine zU ?_ (hb:=(by first | rfl | simp only [a,e,i,k,s,v,l0,zqa,zqb,zqc,zqd]))
         refine zk ?_;cases soI y;exact oWi ⟨_,(zR [some 0,some 1,some 2,some 3,some 4,some 5,some 6,some 7,some 8,some 9,some 10,some 11,some 12] [] (h:=(by first | (cbv;done) | ((repeat (cbv;simp only [a,e,i,k,s,v,l0]));try cbv)))),rfl⟩
        rintro _ rfl;cases soI P;exact oWi ⟨_,zR [some 0,some 1,some 2,some 3,some 4,some 5,some 6,some 7,some 8,some 9,some 10,some 11,some 12] [],rfl⟩
       rintro _ rfl;cases soI m;exact oWi ⟨_,zR [some 0,some 1,some 2,some 3,some 4,some 5,some 6,some 7,some 8,some 9,some 10,some 11,some 12] [],rfl⟩
      rintro _ rfl;cases soI g0;exact oWi ⟨_,zR [some 0,some 1,some 2,some 3,some 4,some 5,some 6,some 7,some 8,some 9,some 10,some 11,some 12] [],rfl⟩
     rintro _ rfl;cases soI p0;exact oWi ⟨_,zR [some 0,some 1,some 2,some 3,some 4,some 5,some 6,some 7,some 8,some 9,some 10,some 11,some 12] [],rfl⟩
    rintro _ rfl;cases soI M;exact oWi ⟨_,zR [some 0,some 1,some 2,some 3,some 4,some 5,some 6,some 7,some 8,some 9,some 10,some 11,some 12] [],rfl⟩
   rintro _ rfl;cases soI N;exact oWi ⟨_,zR [some 0,some 1,some 2,some 3,some 4,some 5,some 6,some 7,some 8,some 9,some 10,some 11,some 12] [],rfl⟩
  rintro _ rfl;refine nB ?_;cases soI h;exact zq
 replace h:=cF z1 h;cases h

theorem c4W {A:Ar} (hA:SA A) {x1 x2 c x4 E F:List D} {G J K L M N O P Q R S U V W X Y a0 b0:Int} {c0 d0:List D} {e0:Bool} (h:Z69 A x1 x2 c x4=some (E,F,G,J,K,L,M,N,O,P,Q,R,S,U,V,W,X,Y,a0,b0,c0,d0,e0)):a0c Tryz.prog 69 [zl 1 x1,zl 1 x2,zl 1 c,zl 1 x4] [] (.tuple [.d (.agg [.list 1 E,.list 1 F,.int .i64 G,.int .i64 J,.int .i64 K,.int .i64 L,.int .i64 M,.int .i64 N,.int .i64 O,.int .i64 P,.int .i64 Q,.int .i64 R,.int .i64 S,.int .i64 U,.int .i64 V,.int .i64 W,.int .i64 X,.int .i64 Y,.int .i64 a0,.int .i64 b0,.list 6 c0,.list 1 d0]),.d (.bool e0)]) []:=by
 unfold Z69 at h;refine zI Tryz.func69 ?_;refine zs (zA (nT (zs (zn ?_))));obtain ⟨⟨r6,r7⟩,e5,h⟩:=a0a h;refine zC (b9Z hA e5) ?_ { tk:=[15],esc:=[10] };refine zE (nT (zs (zs ?_))) { tk:=[15],esc:=[10] };refine zA (nT ?_);rcases tf (A.zlt 12 (A.len c)) with i | i
 ·replace h:=cT i h;refine zT (zs ?_);refine AWp.weak (Wk.freezeG 6 20 rfl rfl rfl) ?_;refine AWp.weak (Wk.freezeG 6 21 rfl rfl rfl) ?_;refine zB (nT (zr (rT ?_))) { tk:=[19] };cases soI h;exact zq
 replace h:=cF i h;refine zU (zk (nT (zs (zs ?_))));refine zB (nT (zb ?_));refine AWp.weak (Wk.ren [some 6,some 0,some 1,some 2,some 3,some 4,some 5] [3,8,10,20,21,22] rfl rfl) ?_;obtain ⟨b3,u1,p1,o0,b⟩:=a0z h;refine AWp.cutXW 0 (fun τ => ∃ i0 j0 k0 l0 m0 n0 j k l m o p q r s u v w y z B C,p1 (.inl (i0,j0,k0,l0,m0,n0,j,k,l,m,o,p,q,r,s,u,v,w,y,z,B,C))=some (E,F,G,J,K,L,M,N,O,P,Q,R,S,U,V,W,X,Y,a0,b0,c0,d0,e0)/\τ=⟨[(8,(.lbox [(.own 1 []),(.own 1 []),zi 0,zi 0,zi 0,zi 0,zi 0,zi 0,zi 0,zi 0,zi 0,zi 0,zi 0,zi 0,zi 0,zi 0,zi 0,zi 0,zi 0,zi 0,(.own 6 []),(.own 1 [])])),(10,.ptr 0 0)],[.cells [zl 1 i0,zl 1 j0,zi k0,zi l0,zi m0,zi n0,zi j,zi k,zi l,zi m,zi o,zi p,zi q,zi r,zi s,zi u,zi v,zi w,zi y,zi z,.gref 1 6,.gref 4 1],.gro 6 B,.dead,.dead,.gro 1 C,.dead,.dead],35⟩) ?_ ?_
 ·refine AWp.iterW u1 (fun (g0,p0,q0,r0,s0,u0,v0,w0,y0,z0,a1,b1,c1,d1,e1,g1,i1,j1,k1,l1,m1,n1,o1)=>⟨[(3,zl 1 x4),(8,(.lbox [(.own 1 []),(.own 1 []),zi 0,zi 0,zi 0,zi 0,zi 0,zi 0,zi 0,zi 0,zi 0,zi 0,zi 0,zi 0,zi 0,zi 0,zi 0,zi 0,zi 0,zi 0,(.own 6 []),(.own 1 [])])),(10,.ptr 0 0),(20,zl 1 c),(21,(.d (.int .i64 (A.len c)))),(22,zi g0)],[.cells [zl 1 p0,zl 1 q0,zi r0,zi s0,zi u0,zi v0,zi w0,zi y0,zi z0,zi a1,zi b1,zi c1,zi d1,zi e1,zi g1,zi i1,zi j1,zi k1,zi l1,zi m1,.gref 1 6,.gref 4 1],.gro 6 n1,.dead,.dead,.gro 1 o1,.dead,.dead],35⟩) ⟨_,zR [some 0,some 1,some 2,some 3,some 4,some 5,some 6] [3,8,10,20,21,22],rfl⟩ ?_;rintro ⟨g0,p0,q0,r0,s0,u0,v0,w0,y0,z0,a1,b1,c1,d1,e1,g1,i1,j1,k1,l1,m1,n1,o1⟩ y1 a;dsimp only [b0e] at a;refine zs (zA (nT (zs ?_)));rcases tf (A.zlt g0 (A.len c)) with e | e
  ·replace a:=cT e a;refine zT (zk (nT (zs (zb (zs ?_)))));obtain ⟨w1,q1,a⟩:=a0a a;obtain ⟨z1,a2⟩:=gtI q1;refine zB (nT (zs (zs (zn ?_))));obtain ⟨v1,r1,a⟩:=a0a a;refine zD (c5w hA r1) ?_;refine zF (nT ?_);rcases tf v1 with g | g
   ·replace a:=cT g a;refine zU (zk (nT (zn ?_)));obtain ⟨⟨b2,c2,d2,e2,g2,i2,j2,k2,l2,m2,n2,o2,p2,q2,r2,s2,u2,v2,w2,y2,z2,a3⟩,s1,a⟩:=a0a a;refine zD (b5x hA s1) ?_;refine zF (nB (nT ?_));refine zB ?_;exact nT ⟨_,(soI a).symm,_,zR [some 0,some 7,some 8,some 9,some 10,some 11,some 12] [3,8,10,20,21,22],rfl⟩
   replace a:=cF g a;refine zT (zs ?_);refine AWp.weak (Wk.freezeG 0 20 rfl rfl rfl) ?_;refine AWp.weak (Wk.freezeG 0 21 rfl rfl rfl) ?_;refine zB (nT (zr (rT (rB (rT (rT ?_)))))) { tk:=[29] };refine exL a ?_;rintro rfl;refine c5r ?_;replace b:=(eR (o0 _ b));refine rB (rT ?_);cases soI b;exact zq
  replace a:=cF e a;refine zU (AWp.exit (xT (xT ?_)));refine exL a ?_;rintro rfl;exact c4Q ⟨_,zR [some 0,some 1,some 2,some 3,some 4,some 5,some 6] [8,10],_,_,_,_,_,_,_,_,_,_,_,_,_,_,_,_,_,_,_,_,_,_,b,rfl⟩
 rintro _ ⟨i0,j0,k0,l0,m0,n0,j,k,l,m,o,p,q,r,s,u,v,w,y,z,B,C,b,rfl⟩;have h:=(eL (o0 _ b));refine xB (nT (zs ?_));refine AWp.weak (Wk.freezeG 0 20 rfl rfl rfl) ?_;refine AWp.weak (Wk.freezeG 0 21 rfl rfl rfl) ?_;refine zA (nT (zr ?_)) { tk:=[34] };cases soI h;exact zq
end Go.Am
