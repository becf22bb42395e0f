import Derived.Test.YtkjeamngjnfpkaaGreatGenw2
set_option maxRecDepth 100000
set_option maxHeartbeats 2000000
set_option linter.unusedVariables false
set_option linter.unusedSimpArgs false
namespace Go.Am
open Go Go.Proofs
theorem c0n {A:Ar} (hA:SA A) {self72:Int->Int->Int->(List (D×D))->List D->List D->(Option (Int×List (D×D)))} (r0 : ∀ {i k l:Int} {r:List (D×D)} {c a:List D} {Y:Int} {y2:List (D×D)},self72 i k l r c a=some (Y,y2)->a0c Tryz.prog 163 [.ptr 1 0,.d (.agg [.int .u8 i,.int .i64 k,.int .i64 l])] [(.map true [.int .u8,.int .i64,.int .i64] r),(.cells [zl 4 c,zl 6 a,(.func 75 [] []),(.map 0)])] (zi Y) [(.map true [.int .u8,.int .i64,.int .i64] y2),(.cells [zl 4 c,zl 6 a,(.func 75 [] []),(.map 0)])]) {i k l:Int} {r:List (D×D)} {c a:List D} {X:Int} {S:List (D×D)} {U:Int} (h:b5t A self72 i k l r c a X=some (S,U)):a0c Tryz.prog 201 [(.yield 5),.ptr 4 0,.iptr [.int .u8 i,.int .i64 k,.int .i64 l]] [(.map true [.int .u8,.int .i64,.int .i64] r),(.cells [zl 4 c,zl 6 a,(.func 75 [] []),(.map 0)]),.cells [.ptr 1 0],.cells [zi X],.cells [.ptr 1 0],(.loop { st := .ready,pending:=none,env:=[(2,.ptr 2 0),(7,.ptr 3 0)],n:=41,params := #[27,28],assign:=a2c,body:=a2d })] (.tuple []) [(.map true [.int .u8,.int .i64,.int .i64] S),(.cells [zl 4 c,zl 6 a,(.func 75 [] []),(.map 0)]),.cells [.ptr 1 0],.cells [zi U],.cells [.ptr 1 0],(.loop { st := .ready,pending:=none,env:=[(2,.ptr 2 0),(7,.ptr 3 0)],n:=41,params := #[27,28],assign:=a2c,body:=a2d })]:=by
 unfold b5t at h;refine zI Tryz.func201 ?_;refine zs (zA (nT (zb ?_)));obtain ⟨b2,q0,b0,o0,N⟩:=a0z h;refine zM 0 [] [] 6 (fun τ => ∃ Q R,b0 (Q,R)=some (S,U)/\τ=⟨[],[(.map true [.int .u8,.int .i64,.int .i64] Q),(.cells [zl 4 c,zl 6 a,(.func 75 [] []),(.map 0)]),.cells [.ptr 1 0],.cells [zi R],.cells [.ptr 1 0],(.loop { st := .ready,pending:=none,env:=[(2,.ptr 2 0),(7,.ptr 3 0)],n:=41,params := #[27,28],assign:=a2c,body:=a2d })],82⟩) ?_ ?_
 ·refine zP q0 [0,1,2,14,15,16] [] 6 (fun (g,p,q)=>⟨[(0,(.yield 5)),(1,.ptr 4 0),(2,.iptr [.int .u8 i,.int .i64 k,.int .i64 l]),(14,zl 6 a),(15,(.d (.int .i64 (A.len a)))),(16,zi g)],[(.map true [.int .u8,.int .i64,.int .i64] p),(.cells [zl 4 c,zl 6 a,(.func 75 [] []),(.map 0)]),.cells [.ptr 1 0],.cells [zi q],.cells [.ptr 1 0],(.loop { st := .ready,pending:=none,env:=[(2,.ptr 2 0),(7,.ptr 3 0)],n:=41,params := #[27,28],assign:=a2c,body:=a2d })],82⟩) ⟨rfl,zc⟩ ?_;rintro ⟨g,p,q⟩ o1 o;dsimp only [a5k] at o;refine zs (zA (nT (zs ?_)));rcases tf (A.zlt g (A.len a)) with L | L
  ·replace o:=cT L o;refine zT (zk (nT (zs ?_)));obtain ⟨⟨V,W⟩,b,o⟩:=a0a o;refine zN [0,1,2,14,15,16] [] 6 (fun τ=>τ=⟨[(0,(.yield 5)),(1,.ptr 4 0),(2,.iptr [.int .u8 i,.int .i64 k,.int .i64 l]),(14,zl 6 a),(15,(.d (.int .i64 (A.len a)))),(16,zi g)],[(.map true [.int .u8,.int .i64,.int .i64] V),(.cells [zl 4 c,zl 6 a,(.func 75 [] []),(.map 0)]),.cells [.ptr 1 0],.cells [zi W],.cells [.ptr 1 0],(.loop { st := .ready,pending:=none,env:=[(2,.ptr 2 0),(7,.ptr 3 0)],n:=41,params := #[27,28],assign:=a2c,body:=a2d })],82⟩) ?_ ?_
   ·refine zb (zs ?_);obtain ⟨⟨v,w,y,z,B,C⟩,l0,b⟩:=a0a b;obtain ⟨s1,u1⟩:=gtI l0;refine zB (nT (zs (zn ?_))) { tk:=[20] };obtain ⟨z1,m0,b⟩:=a0a b;refine zD (b3v hA m0) ?_;refine zF (nT (zs (zs ?_)));refine zB (nT (zb ?_));obtain ⟨a2,p0,a0,n0,M⟩:=a0z b;refine zM 2 [0,1,2,4,5,6,14,15,16] [] 6 (fun τ => ∃ u,a0 u=some (V,W)/\τ=⟨[(0,(.yield 5)),(1,.ptr 4 0),(2,.iptr [.int .u8 i,.int .i64 k,.int .i64 l]),(4,zi g),(5,(.lbox [zi v,zi w,zi y,zi z,zi B,zi C])),(6,.d (.bool u)),(14,zl 6 a),(15,(.d (.int .i64 (A.len a)))),(16,zi g)],[(.map true [.int .u8,.int .i64,.int .i64] p),(.cells [zl 4 c,zl 6 a,(.func 75 [] []),(.map 0)]),.cells [.ptr 1 0],.cells [zi q],.cells [.ptr 1 0],(.loop { st := .ready,pending:=none,env:=[(2,.ptr 2 0),(7,.ptr 3 0)],n:=41,params := #[27,28],assign:=a2c,body:=a2d })],82⟩) ?_ ?_
    ·refine zP p0 [0,1,2,4,5,6,14,15,16,29,30,31] [] 6 (fun (P,s)=>⟨[(0,(.yield 5)),(1,.ptr 4 0),(2,.iptr [.int .u8 i,.int .i64 k,.int .i64 l]),(4,zi g),(5,(.lbox [zi v,zi w,zi y,zi z,zi B,zi C])),(6,.d (.bool P)),(14,zl 6 a),(15,(.d (.int .i64 (A.len a)))),(16,zi g),(29,zl 6 a),(30,(.d (.int .i64 (A.len a)))),(31,zi s)],[(.map true [.int .u8,.int .i64,.int .i64] p),(.cells [zl 4 c,zl 6 a,(.func 75 [] []),(.map 0)]),.cells [.ptr 1 0],.cells [zi q],.cells [.ptr 1 0],(.loop { st := .ready,pending:=none,env:=[(2,.ptr 2 0),(7,.ptr 3 0)],n:=41,params := #[27,28],assign:=a2c,body:=a2d })],82⟩) ⟨rfl,zv⟩ ?_;rintro ⟨P,s⟩ n1 j;dsimp only [a5j] at j;refine zs (zA (nT (zs ?_)));rcases tf (A.zlt s (A.len a)) with E | E
     ·replace j:=cT E j;refine zT (zk (nT (zs (zb (zs ?_)))));obtain ⟨⟨g1,i1,j1,k1,l1,m1⟩,d0,j⟩:=a0a j;obtain ⟨p1,q1⟩:=gtI d0;refine zB (nT ?_) { tk:=[35] };obtain ⟨z0,e,j⟩:=a0a j;refine zN [0,1,2,4,5,6,14,15,16,29,30,31] [] 6 (fun τ=>τ=⟨[(0,(.yield 5)),(1,.ptr 4 0),(2,.iptr [.int .u8 i,.int .i64 k,.int .i64 l]),(4,zi g),(5,(.lbox [zi v,zi w,zi y,zi z,zi B,zi C])),(6,.d (.bool z0)),(14,zl 6 a),(15,(.d (.int .i64 (A.len a)))),(16,zi g),(29,zl 6 a),(30,(.d (.int .i64 (A.len a)))),(31,zi s)],[(.map true [.int .u8,.int .i64,.int .i64] p),(.cells [zl 4 c,zl 6 a,(.func 75 [] []),(.map 0)]),.cells [.ptr 1 0],.cells [zi q],.cells [.ptr 1 0],(.loop { st := .ready,pending:=none,env:=[(2,.ptr 2 0),(7,.ptr 3 0)],n:=41,params := #[27,28],assign:=a2c,body:=a2d })],82⟩) ?_ ?_
      ·refine zQ ?_;rcases tf P with F | F
       ·replace e:=cT F e;obtain ⟨u0,e0,e⟩:=a0a e;refine a1h.c0 hT hA {} rfl zu (b3v hA e0) rfl rfl (lb rfl) rfl rfl ?_;rcases tf u0 with G | G
        ·replace e:=cT G e;refine zJ ?_;cases soI e;exact zO
        replace e:=cF G e;obtain ⟨v1,g0,e⟩:=a0a e;refine a1h.c0 hT hA {} rfl zu (c3J hA g0) rfl rfl (lb rfl) rfl rfl ?_;refine zJ ?_;cases soI e;exact zO
       replace e:=cF F e;refine zJ ?_;cases soI e;exact zO
      rintro _ rfl;refine nB (nT (zA ?_));exact nT ⟨_,(soI j).symm,rfl,zc⟩
     replace j:=cF E j;refine zU (AWp.exit (xT (xT ?_)));refine exL j ?_;rintro rfl;exact oxI ⟨rfl,_,M,zv⟩
    rintro _ ⟨u,M,rfl⟩;have b:=(n0 _ M);refine xB (nT (zs (zs (zA (nT ?_)))));rcases tf u with J | J
    ·replace b:=cT J b;refine zU (zk (nT (zs ?_)));refine zQ ?_;obtain ⟨⟨v0,w0,y0⟩,i0,b⟩:=a0a b;refine a1h.c0 hT hA { tk:=[65] } rfl zu (c0m hA i0) rfl rfl (lb rfl) rfl rfl ?_;refine zJ ?_ { tk:=[65] };refine nT (zs ?_);obtain ⟨⟨c1,d1⟩,m,b⟩:=a0a b;refine zN [0,1,2,14,15,16,80] [] 6 (fun τ=>τ=⟨[(0,(.yield 5)),(1,.ptr 4 0),(2,.iptr [.int .u8 i,.int .i64 k,.int .i64 l]),(14,zl 6 a),(15,(.d (.int .i64 (A.len a)))),(16,zi g),(80,.d (.bool false))],[(.map true [.int .u8,.int .i64,.int .i64] c1),(.cells [zl 4 c,zl 6 a,(.func 75 [] []),(.map 0)]),.cells [.ptr 1 0],.cells [zi d1],.cells [.ptr 1 0],(.loop { st := .ready,pending:=none,env:=[(2,.ptr 2 0),(7,.ptr 3 0)],n:=41,params := #[27,28],assign:=a2c,body:=a2d })],82⟩) ?_ ?_
     ·refine zQ ?_;rcases tf y0 with K | K
      ·replace m:=cT K m;obtain ⟨_,j0,m⟩:=a0a m;have r1:=nkI j0;obtain ⟨s0,O,m⟩:=a0a m;obtain ⟨a1,b1⟩:=s0;have e1:b0y Tryz.prog 5 [zi g,(.d (.agg [(.int .u8 (A.bits .or .u8 i (A.shl .u8 1 g))),.int .i64 v0,.int .i64 w0]))] [(.map true [.int .u8,.int .i64,.int .i64] p),(.cells [zl 4 c,zl 6 a,(.func 75 [] []),(.map 0)]),.cells [.ptr 1 0],.cells [zi q],.cells [.ptr 1 0],(.loop { st := .ready,pending:=none,env:=[(2,.ptr 2 0),(7,.ptr 3 0)],n:=41,params := #[27,28],assign:=a2c,body:=a2d })] (.d (.bool true)) [(.map true [.int .u8,.int .i64,.int .i64] a1),(.cells [zl 4 c,zl 6 a,(.func 75 [] []),(.map 0)]),.cells [.ptr 1 0],.cells [zi b1],.cells [.ptr 1 0],(.loop { st := .ready,pending:=none,env:=[(2,.ptr 2 0),(7,.ptr 3 0)],n:=41,params := #[27,28],assign:=a2c,body:=a2d })]:=by
        refine b0y.mk rfl rfl rfl rfl rfl rfl (lb rfl) ?_;dsimp only [a2c,a2d,cAt,Tryz.f163,Option.getD];refine zA ?_ { tk:=[28] };refine ⟨rfl,rfl,?_⟩;refine zb ?_;refine zQ ?_;obtain ⟨⟨w1,y1⟩,k0,O⟩:=a0a O;refine a1h.cl hT hA { tk:=[33] } rfl zc (r0 k0) rfl rfl rfl rfl rfl (lb rfl) rfl rfl ?_;refine a1h.cd hT hA { tk:=[33] } rfl zc (by kernel_rfl) ?_;refine nB ?_;cases soI O;exact ⟨rfl,rfl,_,rfl⟩
       refine a1h.cy hT hA {} rfl zu e1 rfl (.inl rfl) rfl rfl rfl (lb rfl) rfl rfl ?_;refine zJ ?_;cases soI m;exact zO
      replace m:=cF K m;refine zJ ?_;cases soI m;exact zO
     rintro _ rfl;refine nT (zU (zk (nB ?_)));cases soI b;exact zO
    replace b:=cF J b;refine zT (AWp.exit (xT (xB ?_)));cases soI b;exact zO
   rintro _ rfl;refine nT (zA ?_);exact nT ⟨_,(soI o).symm,rfl,zc⟩
  replace o:=cF L o;refine zU (AWp.exit (xT (xT ?_)));refine exL o ?_;rintro rfl;exact oxI ⟨rfl,_,_,N,zv⟩
 rintro _ ⟨Q,R,N,rfl⟩;have h:=(o0 _ N);refine xB ?_;cases soI h;exact zq

theorem c0o {A:Ar} (hA:SA A) {self72:Int->Int->Int->(List (D×D))->List D->List D->(Option (Int×List (D×D)))} (B : ∀ {c e g:Int} {i:List (D×D)} {a b:List D} {s:Int} {u:List (D×D)},self72 c e g i a b=some (s,u)->a0c Tryz.prog 163 [.ptr 1 0,.d (.agg [.int .u8 c,.int .i64 e,.int .i64 g])] [(.map true [.int .u8,.int .i64,.int .i64] i),(.cells [zl 4 a,zl 6 b,(.func 75 [] []),(.map 0)])] (zi s) [(.map true [.int .u8,.int .i64,.int .i64] u),(.cells [zl 4 a,zl 6 b,(.func 75 [] []),(.map 0)])]) {c e g:Int} {i:List (D×D)} {a b:List D} {q:Int} {r:List (D×D)} (h:b2U A self72 c e g i a b=some (q,r)):a0c Tryz.prog 163 [.ptr 1 0,.d (.agg [.int .u8 c,.int .i64 e,.int .i64 g])] [(.map true [.int .u8,.int .i64,.int .i64] i),(.cells [zl 4 a,zl 6 b,(.func 75 [] []),(.map 0)])] (zi q) [(.map true [.int .u8,.int .i64,.int .i64] r),(.cells [zl 4 a,zl 6 b,(.func 75 [] []),(.map 0)])]:=by
 unfold b2U at h;refine a0c.enterT hT (fn:=Tryz.f163) Tryz.func163 rfl (by decide) (by simp [Tryz.f163]) rfl rfl rfl rfl (lb rfl) ?_;refine a2R.seq ?_;refine a2R.of ?_;refine zA (nT ?_) { esc:=[2] };refine a2R.seq ?_;refine a2R.of ?_;refine zs ?_;obtain ⟨⟨J,p⟩,k,h⟩:=a0a h;refine zN [2,3,5,6] [] 3 (fun τ=>τ=⟨[(2,.ptr 2 0),(3,(.lbox [.d (.int .u8 c),zi e,zi g])),(5,zi J),(6,.d (.bool p))],[(.map true [.int .u8,.int .i64,.int .i64] i),(.cells [zl 4 a,zl 6 b,(.func 75 [] []),(.map 0)]),.cells [.ptr 1 0]],41⟩) ?_ ?_
 ·obtain ⟨C,o,k⟩:=a0a k;rcases C with _ | L
  ·have z:=lkN o;refine zH ?_ { tk:=[17] };cases soI k;exact zO
  have z:=lkS o;refine zH ?_ { tk:=[17] };cases soI k;exact zO
 rintro _ rfl;refine nT (zs (zA (nT ?_)));rcases tf p with l | l
 ·replace h:=cT l h;refine zT (zs ?_);refine zB (nT (zr (rT ?_))) { tk:=[5,20] };cases soI h;exact zq
 replace h:=cF l h;refine zU (zk (nT ?_));refine a2R.seq ?_;refine a2R.of ?_;refine zB (nT ?_) { esc:=[7] };refine a2R.seq ?_;refine a2R.of ?_;refine zs (zn ?_);obtain ⟨E,v,h⟩:=a0a h;refine zD (c0k hA v) ?_;refine zF (nT ?_);obtain ⟨K,j,h⟩:=a0a h;refine zN [2,3,7] [] 4 (fun τ=>τ=⟨[(2,.ptr 2 0),(3,(.lbox [.d (.int .u8 c),zi e,zi g])),(7,.ptr 3 0)],[(.map true [.int .u8,.int .i64,.int .i64] i),(.cells [zl 4 a,zl 6 b,(.func 75 [] []),(.map 0)]),.cells [.ptr 1 0],.cells [zi K]],41⟩) ?_ ?_
 ·rcases tf E with m | m
  ·replace j:=cT m j;refine zT ?_;refine zB ?_;cases soI j;exact zO
  replace j:=cF m j;refine zU (zk ?_);cases soI j;exact zO
 rintro _ rfl;refine nT ?_;refine a2R.seq ?_;refine a2R.seq ?_;refine a2R.of ?_;refine zn ?_;obtain ⟨⟨M,N,O⟩,w,h⟩:=a0a h;refine zC (c0l hA w) ?_;refine zE (nT ?_);refine a2R.block ?_;obtain ⟨⟨F,G⟩,y,h⟩:=a0a h;refine a2R.rangeFunc [2,7] (H':=[(.map true [.int .u8,.int .i64,.int .i64] F),(.cells [zl 4 a,zl 6 b,(.func 75 [] []),(.map 0)]),.cells [.ptr 1 0],.cells [zi G],.cells [.ptr 1 0],(.loop { st := .ready,pending:=none,env:=[(2,.ptr 2 0),(7,.ptr 3 0)],n:=41,params := #[27,28],assign:=a2c,body:=a2d })]) rfl (lb rfl) rfl rfl rfl (c0n hA B y) (st := .ready) (by decide) rfl ?_;refine bN ?_;refine nB (nT ?_);refine a2R.of ?_;refine zs ?_;refine AWp.rd hT hA {} rfl zc (by kernel_rfl) (lb rfl) ?_;refine nT (zs (zA (nT (zr ?_)) { tk:=[40] }));cases soI h;exact zq

theorem b6Y {A:Ar} (hA:SA A) : ∀ (n:Nat) {g i j:Int} {k:List (D×D)} {a b:List D} {c:Int} {e:List (D×D)},b0g A n g i j k a b=some (c,e)->a0c Tryz.prog 163 [.ptr 1 0,.d (.agg [.int .u8 g,.int .i64 i,.int .i64 j])] [(.map true [.int .u8,.int .i64,.int .i64] k),(.cells [zl 4 a,zl 6 b,(.func 75 [] []),(.map 0)])] (zi c) [(.map true [.int .u8,.int .i64,.int .i64] e),(.cells [zl 4 a,zl 6 b,(.func 75 [] []),(.map 0)])]
 | 0,_,_,_,_,_,_,_,_,h=>by cases h
 | n+1,_,_,_,_,_,_,_,_,h=>c0o hA (fun h=>b6Y hA n h) h

theorem c3P {A:Ar} (hA:SA A) {g i j:Int} {k:List (D×D)} {a b:List D} {c:Int} {e:List (D×D)} (h:c2C A g i j k a b=some (c,e)):a0c Tryz.prog 163 [.ptr 1 0,.d (.agg [.int .u8 g,.int .i64 i,.int .i64 j])] [(.map true [.int .u8,.int .i64,.int .i64] k),(.cells [zl 4 a,zl 6 b,(.func 75 [] []),(.map 0)])] (zi c) [(.map true [.int .u8,.int .i64,.int .i64] e),(.cells [zl 4 a,zl 6 b,(.func 75 [] []),(.map 0)])]:=b6Y hA fuel h

theorem c3Q {A:Ar} (hA:SA A) {e g:List D} {b c:Int} (h:b9M A e g=some (b,c)):a0c Tryz.prog 121 [zl 4 e,zl 6 g] [] (.tuple [zi b,zi c]) []:=by
 unfold b9M at h;refine zI Tryz.func121 ?_;refine zs (zA (nT (zs (zs (zn ?_)))));obtain ⟨l,i,h⟩:=a0a h;refine zC (c5x hA i) ?_;refine zE (nT (zs ?_));refine zA (nT ?_);rcases tf (A.zeq l 0) with a | a
 ·replace h:=cT a h;refine zU (zk (nT (zs (zn ?_))));obtain ⟨⟨o,p⟩,j,h⟩:=a0a h;refine zD (c3O hA j) ?_;obtain ⟨⟨m,n⟩,k,h⟩:=a0a h;refine zD (c3P hA k) ?_;refine zF (nT (zr ?_));cases soI h;exact zq
 replace h:=cF a h;refine zT (zs ?_);refine zB (nT (zr (rT ?_)));cases soI h;exact zq

theorem c5y {A:Ar} (hA:SA A) {c e:List D} {a:Bool} {b:Int} (h:Z85 A c e=some (a,b)):a0c Tryz.prog 85 [zl 4 c,zl 6 e] [] (.tuple [.d (.bool a),zi b]) []:=by
 unfold Z85 at h;refine zI Tryz.func85 ?_;refine zs (zA (nT (zs (zn ?_))));obtain ⟨⟨i,j⟩,g,h⟩:=a0a h;refine zC (c3Q hA g) ?_;refine zE (nT (zs ?_));refine zA (nT (zr ?_));cases soI h;exact zq

theorem c5z {A:Ar} (hA:SA A) {e g:Int} {i j k:List D} {c:Bool} (h:Z38 A e g i j k=some c):a0c Tryz.prog 38 [.d (.agg [.int .i64 e,.int .i64 g,.list 1 i,.list 1 j]),zl 6 k] [] (.d (.bool c)) []:=by
 unfold Z38 at h;refine zI Tryz.func38 ?_;refine zs (zA (nT (zs (zn ?_))));obtain ⟨⟨p,m⟩,l,h⟩:=a0a h;refine zC (c5y hA l) ?_;refine zE (nT (zs ?_));obtain ⟨o,a,h⟩:=a0a h;refine zN [4] [] 0 (fun τ=>τ=⟨[(4,.d (.bool o))],[],19⟩) ?_ ?_
 ·rcases tf (A.zeq m 0) with b | b
  ·replace a:=cT b a;refine zB ?_ { tk:=[18] };cases soI a;exact zO
  replace a:=cF b a;refine zB ?_ { tk:=[18] };cases soI a;exact zO
 rintro _ rfl;refine nT (zr ?_);cases soI h;exact zq

theorem b6Z {A:Ar} (hA:SA A) {c e i:Int} {g:Bool} (h:Z77 A c e i=some g):a0c Tryz.prog 77 [zi c,zi e,zi i] [] (.d (.bool g)) []:=by
 unfold Z77 at h;refine zI Tryz.func77 ?_;refine zs (zA (nT (zs ?_)));obtain ⟨j,a,h⟩:=a0a h;refine zN [6] [] 0 (fun τ=>τ=⟨[(6,.d (.bool j))],[],15⟩) ?_ ?_
 ·rcases tf (A.zle c e) with b | b
  ·replace a:=cT b a;refine zB ?_ { tk:=[14] };cases soI a;exact zO
  replace a:=cF b a;refine zB ?_ { tk:=[14] };cases soI a;exact zO
 rintro _ rfl;refine nT (zr ?_);cases soI h;exact zq

theorem a7n {A:Ar} (hA:SA A) {b:Int} {a:Bool} (h:b0Y A b=some a):a0c Tryz.prog 109 [zi b] [] (.d (.bool a)) []:=by
 unfold b0Y at h;refine zI Tryz.func109 ?_;refine zs (zA (nT (zs (zn ?_))));obtain ⟨e,c,h⟩:=a0a h;refine zC (b6Z hA c) ?_ { tk:=[4] };refine zE (nT (zr ?_)) { tk:=[4] };cases soI h;exact zq

theorem b7S {A:Ar} (hA:SA A) {b:Int} {a:Bool} (h:b7M A b=some a):a0c Tryz.prog 110 [zi b] [] (.d (.bool a)) []:=by
 unfold b7M at h;refine zI Tryz.func110 ?_;refine zs (zA (nT (zs (zn ?_))));obtain ⟨e,c,h⟩:=a0a h;refine zC (b6Z hA c) ?_ { tk:=[4] };refine zE (nT (zr ?_)) { tk:=[4] };cases soI h;exact zq

theorem c3R {A:Ar} (hA:SA A) {b:Int} {a:Bool} (h:b9N A b=some a):a0c Tryz.prog 111 [zi b] [] (.d (.bool a)) []:=by
 unfold b9N at h;refine zI Tryz.func111 ?_;refine zs (zA (nT (zs (zn ?_))));obtain ⟨e,c,h⟩:=a0a h;refine zC (b6Z hA c) ?_ { tk:=[4] };refine zE (nT (zr ?_)) { tk:=[4] };cases soI h;exact zq

theorem c5A {A:Ar} (hA:SA A) {k P N Q R:Int} {O:Bool} (h:Z78 A k P N Q R=some O):a0c Tryz.prog 78 [.d (.agg [.int .i64 k,.int .i64 P,.int .i64 N,.int .i64 Q]),zi R] [] (.d (.bool O)) []:=by
 unfold Z78 at h;refine zI Tryz.func78 ?_;refine zs (zA (nT (zs (zs ?_))));refine zA (nT (zb (zs ?_)));refine zA (nT ?_);rcases tf (A.zeq k 1) with F | F
 ·replace h:=cT F h;refine zT (zs ?_);obtain ⟨y0,c,h⟩:=a0a h;refine zN [4] [] 0 (fun τ=>τ=⟨[(4,.d (.bool y0))],[],114⟩) ?_ ?_
  ·refine zn ?_;obtain ⟨r8,e7,c⟩:=a0a c;refine zD (a7n hA e7) ?_ { tk:=[21] };rcases tf r8 with M | M
   ·replace c:=cT M c;obtain ⟨k0,S,c⟩:=a0a c;refine zD (b7S hA S) ?_ { tk:=[21] };rcases tf k0 with l | l
    ·replace c:=cT l c;refine zF ?_ { tk:=[21] };cases soI c;exact zO
    replace c:=cF l c;refine zF ?_ { tk:=[21] };cases soI c;exact zO
   replace c:=cF M c;refine zF ?_ { tk:=[21] };cases soI c;exact zO
  rintro _ rfl;refine nT (zr (rB (rT ?_)));cases soI h;exact zq
 replace h:=cF F h;refine zU (zs ?_);refine zB (nT ?_);rcases tf (A.zeq k 2) with m | m
 ·replace h:=cT m h;refine zT (zs ?_);obtain ⟨z0,e,h⟩:=a0a h;refine zN [4] [] 0 (fun τ=>τ=⟨[(4,.d (.bool z0))],[],114⟩) ?_ ?_
  ·refine zn ?_;obtain ⟨l0,U,e⟩:=a0a e;refine zD (b7S hA U) ?_ { tk:=[36] };rcases tf l0 with o | o
   ·replace e:=cT o e;obtain ⟨m0,V,e⟩:=a0a e;refine zD (a7n hA V) ?_ { tk:=[36] };rcases tf m0 with p | p
    ·replace e:=cT p e;refine zF ?_ { tk:=[36] };cases soI e;exact zO
    replace e:=cF p e;refine zF ?_ { tk:=[36] };cases soI e;exact zO
   replace e:=cF o e;refine zF ?_ { tk:=[36] };cases soI e;exact zO
  rintro _ rfl;refine nT (zr (rB (rT ?_)));cases soI h;exact zq
 replace h:=cF m h;refine zU (zs ?_);refine zB (nT ?_);rcases tf (A.zeq k 3) with q | q
 ·replace h:=cT q h;refine zT (zs ?_);obtain ⟨a1,a,h⟩:=a0a h;refine zN [4] [] 0 (fun τ=>τ=⟨[(4,.d (.bool a1))],[],114⟩) ?_ ?_
  ·refine zn ?_;obtain ⟨n0,W,a⟩:=a0a a;refine zD (b7S hA W) ?_ { tk:=[51] };rcases tf n0 with r | r
   ·replace a:=cT r a;obtain ⟨o0,X,a⟩:=a0a a;refine zD (a7n hA X) ?_ { tk:=[51] };rcases tf o0 with s | s
    ·replace a:=cT s a;obtain ⟨g1,Y,a⟩:=a0a a;refine zD (a7n hA Y) ?_ { tk:=[51] };refine zF ?_ { tk:=[51] };cases soI a;exact zO
    replace a:=cF s a;refine zF ?_ { tk:=[51] };cases soI a;exact zO
   replace a:=cF r a;refine zF ?_ { tk:=[51] };cases soI a;exact zO
  rintro _ rfl;refine nT (zr (rB (rT ?_)));cases soI h;exact zq
 replace h:=cF q h;refine zU (zs ?_);refine zB (nT ?_);rcases tf (A.zeq k 4) with u | u
 ·replace h:=cT u h;refine zT (zs ?_);obtain ⟨b1,g,h⟩:=a0a h;refine zN [4] [] 0 (fun τ=>τ=⟨[(4,.d (.bool b1))],[],114⟩) ?_ ?_
  ·refine zn ?_;obtain ⟨p0,a0,g⟩:=a0a g;refine zD (a7n hA a0) ?_ { tk:=[66] };rcases tf p0 with v | v
   ·replace g:=cT v g;obtain ⟨q0,b0,g⟩:=a0a g;refine zD (c3R hA b0) ?_ { tk:=[66] };rcases tf q0 with w | w
    ·replace g:=cT w g;refine zF ?_ { tk:=[66] };cases soI g;exact zO
    replace g:=cF w g;refine zF ?_ { tk:=[66] };cases soI g;exact zO
   replace g:=cF v g;refine zF ?_ { tk:=[66] };cases soI g;exact zO
  rintro _ rfl;refine nT (zr (rB (rT ?_)));cases soI h;exact zq
 replace h:=cF u h;refine zU (zs ?_);refine zB (nT ?_);rcases tf (A.zeq k 5) with y | y
 ·replace h:=cT y h;refine zT (zs ?_);obtain ⟨c1,b,h⟩:=a0a h;refine zN [4] [] 0 (fun τ=>τ=⟨[(4,.d (.bool c1))],[],114⟩) ?_ ?_
  ·refine zn ?_;obtain ⟨r0,c0,b⟩:=a0a b;refine zD (a7n hA c0) ?_ { tk:=[81] };rcases tf r0 with z | z
   ·replace b:=cT z b;obtain ⟨s0,d0,b⟩:=a0a b;refine zD (a7n hA d0) ?_ { tk:=[81] };rcases tf s0 with B | B
    ·replace b:=cT B b;obtain ⟨i1,e0,b⟩:=a0a b;refine zD (a7n hA e0) ?_ { tk:=[81] };refine zF ?_ { tk:=[81] };cases soI b;exact zO
    replace b:=cF B b;refine zF ?_ { tk:=[81] };cases soI b;exact zO
   replace b:=cF z b;refine zF ?_ { tk:=[81] };cases soI b;exact zO
  rintro _ rfl;refine nT (zr (rB (rT ?_)));cases soI h;exact zq
 replace h:=cF y h;refine zU (zs ?_);refine zB (nT ?_);rcases tf (A.zeq k 6) with C | C
 ·replace h:=cT C h;refine zT (zs ?_);obtain ⟨d1,i,h⟩:=a0a h;refine zN [4] [] 0 (fun τ=>τ=⟨[(4,.d (.bool d1))],[],114⟩) ?_ ?_
  ·refine zn ?_;obtain ⟨u0,g0,i⟩:=a0a i;refine zD (a7n hA g0) ?_ { tk:=[98] };rcases tf u0 with E | E
   ·replace i:=cT E i;obtain ⟨v0,i0,i⟩:=a0a i;refine zD (b6Z hA i0) ?_ { tk:=[98] };rcases tf v0 with G | G
    ·replace i:=cT G i;refine zF ?_ { tk:=[98] };cases soI i;exact zO
    replace i:=cF G i;refine zF ?_ { tk:=[98] };cases soI i;exact zO
   replace i:=cF E i;refine zF ?_ { tk:=[98] };cases soI i;exact zO
  rintro _ rfl;refine nT (zr (rB (rT ?_)));cases soI h;exact zq
 replace h:=cF C h;refine zU (zs ?_);refine zB (nT ?_);rcases tf (A.zeq k 7) with J | J
 ·replace h:=cT J h;refine zT (zs ?_);obtain ⟨e1,j,h⟩:=a0a h;refine zN [4] [] 0 (fun τ=>τ=⟨[(4,.d (.bool e1))],[],114⟩) ?_ ?_
  ·refine zn ?_;obtain ⟨w0,j0,j⟩:=a0a j;refine zD (a7n hA j0) ?_ { tk:=[113] };rcases tf w0 with K | K
   ·replace j:=cT K j;rcases tf (A.zeq N 0) with L | L
    ·replace j:=cT L j;refine zF ?_ { tk:=[113] };cases soI j;exact zO
    replace j:=cF L j;refine zF ?_ { tk:=[113] };cases soI j;exact zO
   replace j:=cF K j;refine zF ?_ { tk:=[113] };cases soI j;exact zO
  rintro _ rfl;refine nT (zr (rB (rT ?_)));cases soI h;exact zq
 replace h:=cF J h;refine zU (zk (nB (nT (zs ?_))));refine zB (nT (zr ?_));cases soI h;exact zq

theorem c5B {A:Ar} (hA:SA A) {g:List D} {s:Bool} (h:Z30 A g=some s):a0c Tryz.prog 30 [zl 1 g] [] (.d (.bool s)) []:=by
 unfold Z30 at h;refine zI Tryz.func30 ?_;refine zs (zA (nT (zs (zs (zn ?_)))));obtain ⟨N,B,h⟩:=a0a h;refine zC (b6Z hA B) ?_;refine zE (nT ?_);rcases tf N with k | k
 ·replace h:=cT k h;refine zU (zk (nT (zs (zs ?_))));refine zB (nT (zb ?_));obtain ⟨k0,M,w,j,c⟩:=a0z h;refine zM 0 [] [] 0 (fun τ=>w (.inl ())=some s/\τ=⟨[],[],59⟩) ?_ ?_
  ·refine zP M [0,3] [] 0 (fun i=>⟨[(0,zl 1 g),(3,zi i)],[],59⟩) ⟨rfl,zv⟩ ?_;rintro i K a;dsimp only [b2W] at a;refine zs (zs (zA (nT ?_)));rcases tf (A.zlt i (A.len g)) with l | l
   ·replace a:=cT l a;refine zT (zk (nT (zs (zb (zs (zs (zn ?_)))))));obtain ⟨y,C,a⟩:=a0a a;obtain ⟨a0,b0⟩:=gtI C;obtain ⟨O,E,a⟩:=a0a a;refine zD (b6Z hA E) ?_;refine zF (nT ?_);rcases tf O with m | m
    ·replace a:=cT m a;refine zU (zk (nT (zs (zs ?_))));refine zB (nT (zb ?_));obtain ⟨j0,L,v,u,e⟩:=a0z a;refine zM 2 [0,3] [] 0 (fun τ=>v (.inl ())=some K/\τ=⟨[(0,zl 1 g),(3,zi i)],[],59⟩) ?_ ?_
     ·refine zP L [0,3,4] [] 0 (fun r=>⟨[(0,zl 1 g),(3,zi i),(4,zi r)],[],59⟩) ⟨rfl,zv⟩ ?_;rintro r Y b;dsimp only [b2V] at b;refine zs (zs (zB (nT ?_)));rcases tf (A.zlt r (A.len y)) with o | o
      ·replace b:=cT o b;refine zT (zk (nT (zs (zb (zs ?_)))));refine zQ ?_;obtain ⟨⟨Q,R,S,U⟩,F,b⟩:=a0a b;obtain ⟨d0,e0⟩:=gtI F;obtain ⟨P,G,b⟩:=a0a b;refine a1h.c0 hT hA {} rfl zu (c5A hA G) rfl rfl (lb rfl) rfl rfl ?_;refine zJ ?_;refine nT ?_;rcases tf P with p | p
       ·replace b:=cT p b;refine zU (zk (nB (nT ?_)));refine zB ?_;exact nT ⟨_,(soI b).symm,rfl,zv⟩
       replace b:=cF p b;refine zT (zs ?_);refine zB (nT (zr (rB (rT (rT ?_)))));refine exL b ?_;rintro rfl;refine oxR ?_;replace e:=(eR (u _ e));refine rB (rT (rB (rT (rT ?_))));refine exL e ?_;rintro rfl;refine oxR ?_;replace c:=(eR (j _ c));refine rB (rT ?_);cases soI c;exact zq
      replace b:=cF o b;refine zU (AWp.exit (xT (xT ?_)));refine exL b ?_;rintro rfl;exact oxI ⟨rfl,e,zv⟩
     rintro _ ⟨e,rfl⟩;have a:=(eL (u _ e));refine xB (nT (zs ?_));obtain ⟨⟨z,V,W,X⟩,J,a⟩:=a0a a;obtain ⟨g0,i0⟩:=gtI J;refine zH ?_;refine nT ?_;rcases tf (A.zeq z 7) with q | q
     ·replace a:=cT q a;refine zU (zk (nB (nT ?_)));refine zB ?_;exact nT ⟨_,(soI a).symm,rfl,zv⟩
     replace a:=cF q a;refine zT (zs ?_);refine zB (nT (zr (rB (rT (rT ?_)))));refine exL a ?_;rintro rfl;refine oxR ?_;replace c:=(eR (j _ c));refine rB (rT ?_);cases soI c;exact zq
    replace a:=cF m a;refine zT (zs ?_);refine zB (nT (zr (rT (rB (rT (rT ?_))))));refine exL a ?_;rintro rfl;refine oxR ?_;replace c:=(eR (j _ c));refine rB (rT ?_);cases soI c;exact zq
   replace a:=cF l a;refine zU (AWp.exit (xT (xT ?_)));refine exL a ?_;rintro rfl;exact oxI ⟨rfl,c,zv⟩
  rintro _ ⟨c,rfl⟩;have h:=(eL (j _ c));refine xB (nT (zs (zA (nT (zr ?_)))));cases soI h;exact zq
 replace h:=cF k h;refine zT (zs ?_);refine zB (nT (zr (rT ?_)));cases soI h;exact zq

theorem c5a {A:Ar} (hA:SA A) {g i:Int} {o p c:List D} {q:Int} {C:Bool} (h:Z79 A g i o p c q=some C):a0c Tryz.prog 79 [.d (.agg [.int .i64 g,.int .i64 i,.list 1 o,.list 1 p]),zl 1 c,zi q] [] (.d (.bool C)) []:=by
 unfold Z79 at h;refine zI Tryz.func79 ?_;refine zs (zA (nT (zs (zs ?_))));refine zA (nT ?_);rcases tf (A.zeq (A.len c) g) with z | z
 ·replace h:=cT z h;refine zU (zk (nT (zs (zs ?_))));refine zB (nT (zb ?_));obtain ⟨X,P,J,B,e⟩:=a0z h;refine zM 0 [] [] 0 (fun τ=>J (.inl ())=some C/\τ=⟨[],[],42⟩) ?_ ?_
  ·refine zP P [2,3,16,17,18] [] 0 (fun m=>⟨[(2,zi q),(3,(.lbox [zi g,zi i,zl 1 o,zl 1 p])),(16,zl 1 c),(17,(.d (.int .i64 (A.len c)))),(18,zi m)],[],42⟩) ⟨rfl,zv⟩ ?_;rintro m N b;dsimp only [b2Y] at b;refine zs (zA (nT (zs ?_)));rcases tf (A.zlt m (A.len c)) with s | s
   ·replace b:=cT s b;refine zT (zk (nT (zs (zb (zs ?_)))));obtain ⟨j,L,b⟩:=a0a b;obtain ⟨R,S⟩:=gtI L;refine zB (nT (zs (zs ?_)));refine zB (nT ?_);rcases tf (A.zeq (A.len j) i) with u | u
    ·replace b:=cT u b;refine zU (zk (nT (zs ?_)));refine zB (nT (zb ?_));obtain ⟨W,O,G,E,k⟩:=a0z b;refine zM 2 [2,3,16,17,18] [] 0 (fun τ=>G (.inl ())=some N/\τ=⟨[(2,zi q),(3,(.lbox [zi g,zi i,zl 1 o,zl 1 p])),(16,zl 1 c),(17,(.d (.int .i64 (A.len c)))),(18,zi m)],[],42⟩) ?_ ?_
     ·refine zP O [2,3,16,17,18,27,28,29] [] 0 (fun r=>⟨[(2,zi q),(3,(.lbox [zi g,zi i,zl 1 o,zl 1 p])),(16,zl 1 c),(17,(.d (.int .i64 (A.len c)))),(18,zi m),(27,zl 1 j),(28,(.d (.int .i64 (A.len j)))),(29,zi r)],[],42⟩) ⟨rfl,zv⟩ ?_;rintro r Q a;dsimp only [b2X] at a;refine zs (zA (nT (zs ?_)));rcases tf (A.zlt r (A.len j)) with v | v
      ·replace a:=cT v a;refine zT (zk (nT (zs (zb (zs ?_)))));obtain ⟨K,M,a⟩:=a0a a;obtain ⟨U,V⟩:=gtI M;refine zB (nT (zs ?_));obtain ⟨F,l,a⟩:=a0a a;refine zN [2,3,16,17,18,27,28,29,39] [] 0 (fun τ=>τ=⟨[(2,zi q),(3,(.lbox [zi g,zi i,zl 1 o,zl 1 p])),(16,zl 1 c),(17,(.d (.int .i64 (A.len c)))),(18,zi m),(27,zl 1 j),(28,(.d (.int .i64 (A.len j)))),(29,zi r),(39,.d (.bool F))],[],42⟩) ?_ ?_
       ·rcases tf (A.zlt K 0) with w | w
        ·replace l:=cT w l;refine zB ?_;cases soI l;exact zO
        replace l:=cF w l;refine zB ?_;cases soI l;exact zO
       rintro _ rfl;refine nT ?_;rcases tf F with y | y
       ·replace a:=cT y a;refine zT (zs ?_);refine zB (nT (zr (rB (rT (rT ?_)))));refine exL a ?_;rintro rfl;refine oxR ?_;replace k:=(eR (E _ k));refine rB (rB (rT (rT ?_)));refine exL k ?_;rintro rfl;refine oxR ?_;replace e:=(eR (B _ e));refine rB (rT ?_);cases soI e;exact zq
       replace a:=cF y a;refine zU (zk (nB (nT ?_)));refine zB ?_;exact nT ⟨_,(soI a).symm,rfl,zv⟩
      replace a:=cF v a;refine zU (AWp.exit (xT (xT ?_)));refine exL a ?_;rintro rfl;exact oxI ⟨rfl,k,zv⟩
     rintro _ ⟨k,rfl⟩;have b:=(eL (E _ k));refine xB (nB (nT (zA ?_)));exact nT ⟨_,(soI b).symm,rfl,zc⟩
    replace b:=cF u b;refine zT (zs ?_);refine zB (nT (zr (rT (rB (rT (rT ?_))))));refine exL b ?_;rintro rfl;refine oxR ?_;replace e:=(eR (B _ e));refine rB (rT ?_);cases soI e;exact zq
   replace b:=cF s b;refine zU (AWp.exit (xT (xT ?_)));refine exL b ?_;rintro rfl;exact oxI ⟨rfl,e,zv⟩
  rintro _ ⟨e,rfl⟩;have h:=(eL (B _ e));refine xB (nT (zs (zA (nT (zr ?_)))));cases soI h;exact zq
 replace h:=cF z h;refine zT (zs ?_);refine zB (nT (zr (rT ?_)));cases soI h;exact zq

theorem c5b {A:Ar} (hA:SA A) {b c:Int} {m o:List D} {l:Bool} (h:Z31 A b c m o=some l):a0c Tryz.prog 31 [.d (.agg [.int .i64 b,.int .i64 c,.list 1 m,.list 1 o])] [] (.d (.bool l)) []:=by
 unfold Z31 at h;refine zI Tryz.func31 ?_;refine zs (zA (nT (zs ?_)));obtain ⟨s,a,h⟩:=a0a h;refine zN [2] [] 0 (fun τ=>τ=⟨[(2,.d (.bool s))],[],35⟩) ?_ ?_
 ·refine zn ?_;rcases tf (A.zle 1 b) with g | g
  ·replace a:=cT g a;rcases tf (A.zle b 8) with i | i
   ·replace a:=cT i a;rcases tf (A.zle 1 c) with j | j
    ·replace a:=cT j a;rcases tf (A.zle c 4) with k | k
     ·replace a:=cT k a;obtain ⟨r,q,a⟩:=a0a a;refine zD (c5a hA q) ?_ { tk:=[34] };rcases tf r with e | e
      ·replace a:=cT e a;obtain ⟨u,p,a⟩:=a0a a;refine zD (c5a hA p) ?_ { tk:=[34] };refine zF ?_ { tk:=[34] };cases soI a;exact zO
      replace a:=cF e a;refine zF ?_ { tk:=[34] };cases soI a;exact zO
     replace a:=cF k a;refine zF ?_ { tk:=[34] };cases soI a;exact zO
    replace a:=cF j a;refine zF ?_ { tk:=[34] };cases soI a;exact zO
   replace a:=cF i a;refine zF ?_ { tk:=[34] };cases soI a;exact zO
  replace a:=cF g a;refine zF ?_ { tk:=[34] };cases soI a;exact zO
 rintro _ rfl;refine nT (zr ?_);cases soI h;exact zq

theorem c5C {A:Ar} (hA:SA A) {j g:List D} {s:Bool} (h:Z32 A j g=some s):a0c Tryz.prog 32 [zl 1 j,zl 1 g] [] (.d (.bool s)) []:=by
 unfold Z32 at h;refine zI Tryz.func32 ?_;refine zs (zA (nT (zs (zs (zn ?_)))));obtain ⟨K,z,h⟩:=a0a h;refine zC (b6Z hA z) ?_;refine zE (nT ?_);rcases tf K with o | o
 ·replace h:=cT o h;refine zU (zk (nT (zs (zs ?_))));refine zB (nT (zb ?_));obtain ⟨U,J,y,q,c⟩:=a0z h;refine zM 0 [] [] 0 (fun τ=>y (.inl ())=some s/\τ=⟨[],[],44⟩) ?_ ?_
  ·refine zP J [0,1,5] [] 0 (fun i=>⟨[(0,zl 1 j),(1,zl 1 g),(5,zi i)],[],44⟩) ⟨rfl,zv⟩ ?_;rintro i F b;dsimp only [b3a] at b;refine zs (zs (zA (nT ?_)));rcases tf (A.zlt i (A.len g)) with k | k
   ·replace b:=cT k b;refine zT (zk (nT (zs (zb (zs (zs ?_))))));obtain ⟨u,B,b⟩:=a0a b;obtain ⟨O,P⟩:=gtI B;refine zB (nT ?_);rcases tf (A.zlt 3 (A.len u)) with l | l
    ·replace b:=cT l b;refine zT (zs ?_);refine zB (nT (zr (rT (rB (rT (rT ?_))))));refine exL b ?_;rintro rfl;refine oxR ?_;replace c:=(eR (q _ c));refine rB (rT ?_);cases soI c;exact zq
    replace b:=cF l b;refine zU (zk (nT (zs ?_)));refine zB (nT (zb ?_));obtain ⟨S,G,w,v,e⟩:=a0z b;refine zM 2 [0,1,5] [] 0 (fun τ=>w (.inl ())=some F/\τ=⟨[(0,zl 1 j),(1,zl 1 g),(5,zi i)],[],44⟩) ?_ ?_
    ·refine zP G [0,1,5,6] [] 0 (fun r=>⟨[(0,zl 1 j),(1,zl 1 g),(5,zi i),(6,zi r)],[],44⟩) ⟨rfl,zv⟩ ?_;rintro r N a;dsimp only [b2Z] at a;refine zs (zs (zB (nT ?_)));rcases tf (A.zlt r (A.len u)) with m | m
     ·replace a:=cT m a;refine zT (zk (nT (zs (zb (zs (zn ?_))))));obtain ⟨M,C,a⟩:=a0a a;obtain ⟨Q,R⟩:=gtI C;obtain ⟨L,E,a⟩:=a0a a;refine zD (b6Z hA E) ?_;refine zF (nT ?_);rcases tf L with p | p
      ·replace a:=cT p a;refine zU (zk (nB (nT ?_)));refine zB ?_;exact nT ⟨_,(soI a).symm,rfl,zv⟩
      replace a:=cF p a;refine zT (zs ?_);refine zB (nT (zr (rB (rT (rT ?_)))));refine exL a ?_;rintro rfl;refine oxR ?_;replace e:=(eR (v _ e));refine rB (rB (rT (rT ?_)));refine exL e ?_;rintro rfl;refine oxR ?_;replace c:=(eR (q _ c));refine rB (rT ?_);cases soI c;exact zq
     replace a:=cF m a;refine zU (AWp.exit (xT (xT ?_)));refine exL a ?_;rintro rfl;exact oxI ⟨rfl,e,zv⟩
    rintro _ ⟨e,rfl⟩;have b:=(eL (v _ e));refine xB (nB (nT (zA ?_)));exact nT ⟨_,(soI b).symm,rfl,zc⟩
   replace b:=cF k b;refine zU (AWp.exit (xT (xT ?_)));refine exL b ?_;rintro rfl;exact oxI ⟨rfl,c,zv⟩
  rintro _ ⟨c,rfl⟩;have h:=(eL (q _ c));refine xB (nT (zs (zA (nT (zr ?_)))));cases soI h;exact zq
 replace h:=cF o h;refine zT (zs ?_);refine zB (nT (zr (rT ?_)));cases soI h;exact zq

theorem b7a {A:Ar} (hA:SA A) {c e i:Int} {g:Bool} (h:Z90 A c e i=some g):a0c Tryz.prog 90 [zi c,zi e,zi i] [] (.d (.bool g)) []:=by
 unfold Z90 at h;refine zI Tryz.func90 ?_;refine zs (zA (nT (zs ?_)));obtain ⟨j,a,h⟩:=a0a h;refine zN [6] [] 0 (fun τ=>τ=⟨[(6,.d (.bool j))],[],15⟩) ?_ ?_
 ·rcases tf (A.zle c e) with b | b
  ·replace a:=cT b a;refine zB ?_ { tk:=[14] };cases soI a;exact zO
  replace a:=cF b a;refine zB ?_ { tk:=[14] };cases soI a;exact zO
 rintro _ rfl;refine nT (zr ?_);cases soI h;exact zq

theorem c3S {A:Ar} (hA:SA A) {c:List D} {j:Bool} (h:Z48 A c=some j):a0c Tryz.prog 48 [zl 4 c] [] (.d (.bool j)) []:=by
 unfold Z48 at h;refine zI Tryz.func48 ?_;refine zs (zA (nT (zs (zs ?_))));refine zA (nT (zb ?_));obtain ⟨E,q,l,k,b⟩:=a0z h;refine zM 0 [0] [] 0 (fun τ=>l (.inl ())=some j/\τ=⟨[(0,zl 4 c)],[],19⟩) ?_ ?_
 ·refine zP q [0,3] [] 0 (fun i=>⟨[(0,zl 4 c),(3,zi i)],[],19⟩) ⟨rfl,zc⟩ ?_;rintro i y a;dsimp only [b3b] at a;refine zs (zs (zA (nT ?_)));rcases tf (A.zlt i (A.len c)) with e | e
  ·replace a:=cT e a;refine zT (zk (nT (zs (zb (zs (zn ?_))))));obtain ⟨⟨s,u,v,w⟩,m,a⟩:=a0a a;obtain ⟨z,B⟩:=gtI m;obtain ⟨r,o,a⟩:=a0a a;refine zD (c5b hA o) ?_;refine zF (nT ?_);rcases tf r with g | g
   ·replace a:=cT g a;refine zU (zk (nB (nT ?_)));refine zB ?_;exact nT ⟨_,(soI a).symm,rfl,zv⟩
   replace a:=cF g a;refine zT (zs ?_);refine zB (nT (zr (rB (rT (rT ?_)))));refine exL a ?_;rintro rfl;refine oxR ?_;replace b:=(eR (k _ b));refine rB (rT ?_);cases soI b;exact zq
  replace a:=cF e a;refine zU (AWp.exit (xT (xT ?_)));refine exL a ?_;rintro rfl;exact oxI ⟨rfl,b,zv⟩
 rintro _ ⟨b,rfl⟩;have h:=(eL (k _ b));refine xB (nT (zs (zn ?_)));obtain ⟨C,p,h⟩:=a0a h;refine zC (b7a hA p) ?_ { tk:=[18] };refine zE (nT (zr ?_)) { tk:=[18] };cases soI h;exact zq
end Go.Am
