/- Own text: Genw3. -/
import Derived.Test.YtkjeamngjnfpkaaGreatGenw2
set_option maxRecDepth 100000
set_option maxHeartbeats 2000000
set_option linter.unusedVariables false
set_option linter.unusedSimpArgs false
namespace Go.Am
open Go Go.Proofs
theorem Z201aw {A:Ar} (hA:SA A) {self72:Int->Int->Int->(List (D×D))->List D->List D->(Option (Int×List (D×D)))} (r0 : ∀ {i k l:Int} {r:List (D×D)} {c a:List D} {Y:Int} {y2:List (D×D)},self72 i k l r c a=some (Y,y2)->ACall Tryz.prog 163 [.ptr 1 0,.d (.agg [.int .u8 i,.int .i64 k,.int .i64 l])] [(.map true [.int .u8,.int .i64,.int .i64] r),(.cells [zl 4 c,zl 6 a,(.func 75 [] []),(.map 0)])] (zi Y) [(.map true [.int .u8,.int .i64,.int .i64] y2),(.cells [zl 4 c,zl 6 a,(.func 75 [] []),(.map 0)])]) {i k l:Int} {r:List (D×D)} {c a:List D} {X:Int} {S:List (D×D)} {U:Int} (h:Z201a A self72 i k l r c a X=some (S,U)):ACall Tryz.prog 201 [(.yield 5),.ptr 4 0,.iptr [.int .u8 i,.int .i64 k,.int .i64 l]] [(.map true [.int .u8,.int .i64,.int .i64] r),(.cells [zl 4 c,zl 6 a,(.func 75 [] []),(.map 0)]),.cells [.ptr 1 0],.cells [zi X],.cells [.ptr 1 0],(.loop { st := .ready,pending:=none,env:=[(2,.ptr 2 0),(7,.ptr 3 0)],n:=41,params := #[27,28],assign:=ZA163r0,body:=ZB163r0 })] (.tuple []) [(.map true [.int .u8,.int .i64,.int .i64] S),(.cells [zl 4 c,zl 6 a,(.func 75 [] []),(.map 0)]),.cells [.ptr 1 0],.cells [zi U],.cells [.ptr 1 0],(.loop { st := .ready,pending:=none,env:=[(2,.ptr 2 0),(7,.ptr 3 0)],n:=41,params := #[27,28],assign:=ZA163r0,body:=ZB163r0 })]:=by
 unfold Z201a at h
 refine zI Tryz.func201 ?_
 refine zs ?_
 refine zA ?_
 refine nT (zb ?_)
 obtain ⟨b2,q0,b0,o0,N⟩:=bindK h
 refine AWp.cutX 0 [] [] 6 (lb rfl) (fun τ => ∃ Q R,b0 (Q,R)=some (S,U)/\τ={ env:=[],heap:=[(.map true [.int .u8,.int .i64,.int .i64] Q),(.cells [zl 4 c,zl 6 a,(.func 75 [] []),(.map 0)]),.cells [.ptr 1 0],.cells [zi R],.cells [.ptr 1 0],(.loop { st := .ready,pending:=none,env:=[(2,.ptr 2 0),(7,.ptr 3 0)],n:=41,params := #[27,28],assign:=ZA163r0,body:=ZB163r0 })],n:=82 }) ?_ ?_
 ·skip
  refine AWp.iter q0 [0,1,2,14,15,16] [] 6 (lb rfl) (fun (g,p,q)=>{ env:=[(0,(.yield 5)),(1,.ptr 4 0),(2,.iptr [.int .u8 i,.int .i64 k,.int .i64 l]),(14,zl 6 a),(15,(.d (.int .i64 (A.len a)))),(16,zi g)],heap:=[(.map true [.int .u8,.int .i64,.int .i64] p),(.cells [zl 4 c,zl 6 a,(.func 75 [] []),(.map 0)]),.cells [.ptr 1 0],.cells [zi q],.cells [.ptr 1 0],(.loop { st := .ready,pending:=none,env:=[(2,.ptr 2 0),(7,.ptr 3 0)],n:=41,params := #[27,28],assign:=ZA163r0,body:=ZB163r0 })],n:=82 }) ⟨rfl,zc⟩ ?_
  rintro ⟨g,p,q⟩ o1 o
  dsimp only [Z201aL1] at o
  refine zs ?_
  refine zA ?_
  refine nT (zs ?_)
  rcases tf (A.zlt g (A.len a)) with L | L
  ·replace o:=cT L o
   refine zT ?_
   refine zk (nT (zs ?_))
   obtain ⟨⟨V,W⟩,b,o⟩:=bindS o
   refine AWp.cutN [0,1,2,14,15,16] [] 6 (lb rfl) (fun τ=>τ={ env:=[(0,(.yield 5)),(1,.ptr 4 0),(2,.iptr [.int .u8 i,.int .i64 k,.int .i64 l]),(14,zl 6 a),(15,(.d (.int .i64 (A.len a)))),(16,zi g)],heap:=[(.map true [.int .u8,.int .i64,.int .i64] V),(.cells [zl 4 c,zl 6 a,(.func 75 [] []),(.map 0)]),.cells [.ptr 1 0],.cells [zi W],.cells [.ptr 1 0],(.loop { st := .ready,pending:=none,env:=[(2,.ptr 2 0),(7,.ptr 3 0)],n:=41,params := #[27,28],assign:=ZA163r0,body:=ZB163r0 })],n:=82 }) ?_ ?_
   ·skip
    refine zb (zs ?_)
    obtain ⟨⟨v,w,y,z,B,C⟩,l0,b⟩:=bindS b
    obtain ⟨s1,u1⟩:=gtI l0
    refine zB ?_ { tk:=[20] }
    refine nT (zs (zn ?_))
    obtain ⟨z1,m0,b⟩:=bindS b
    refine zD (Z200aw hA m0) ?_
    refine zF ?_
    refine nT (zs (zs ?_))
    refine zB ?_
    refine nT (zb ?_)
    obtain ⟨a2,p0,a0,n0,M⟩:=bindK b
    refine AWp.cutX 2 [0,1,2,4,5,6,14,15,16] [] 6 (lb rfl) (fun τ => ∃ u,a0 u=some (V,W)/\τ={ env:=[(0,(.yield 5)),(1,.ptr 4 0),(2,.iptr [.int .u8 i,.int .i64 k,.int .i64 l]),(4,zi g),(5,(.lbox [zi v,zi w,zi y,zi z,zi B,zi C])),(6,.d (.bool u)),(14,zl 6 a),(15,(.d (.int .i64 (A.len a)))),(16,zi g)],heap:=[(.map true [.int .u8,.int .i64,.int .i64] p),(.cells [zl 4 c,zl 6 a,(.func 75 [] []),(.map 0)]),.cells [.ptr 1 0],.cells [zi q],.cells [.ptr 1 0],(.loop { st := .ready,pending:=none,env:=[(2,.ptr 2 0),(7,.ptr 3 0)],n:=41,params := #[27,28],assign:=ZA163r0,body:=ZB163r0 })],n:=82 }) ?_ ?_
    ·skip
     refine AWp.iter p0 [0,1,2,4,5,6,14,15,16,29,30,31] [] 6 (lb rfl) (fun (P,s)=>{ env:=[(0,(.yield 5)),(1,.ptr 4 0),(2,.iptr [.int .u8 i,.int .i64 k,.int .i64 l]),(4,zi g),(5,(.lbox [zi v,zi w,zi y,zi z,zi B,zi C])),(6,.d (.bool P)),(14,zl 6 a),(15,(.d (.int .i64 (A.len a)))),(16,zi g),(29,zl 6 a),(30,(.d (.int .i64 (A.len a)))),(31,zi s)],heap:=[(.map true [.int .u8,.int .i64,.int .i64] p),(.cells [zl 4 c,zl 6 a,(.func 75 [] []),(.map 0)]),.cells [.ptr 1 0],.cells [zi q],.cells [.ptr 1 0],(.loop { st := .ready,pending:=none,env:=[(2,.ptr 2 0),(7,.ptr 3 0)],n:=41,params := #[27,28],assign:=ZA163r0,body:=ZB163r0 })],n:=82 }) ⟨rfl,zv⟩ ?_
     rintro ⟨P,s⟩ n1 j
     dsimp only [Z201aL0] at j
     refine zs ?_
     refine zA ?_
     refine nT (zs ?_)
     rcases tf (A.zlt s (A.len a)) with E | E
     ·replace j:=cT E j
      refine zT ?_
      refine zk (nT (zs (zb (zs ?_))))
      obtain ⟨⟨g1,i1,j1,k1,l1,m1⟩,d0,j⟩:=bindS j
      obtain ⟨p1,q1⟩:=gtI d0
      refine zB ?_ { tk:=[35] }
      refine nT ?_
      obtain ⟨z0,e,j⟩:=bindS j
      refine AWp.cutN [0,1,2,4,5,6,14,15,16,29,30,31] [] 6 (lb rfl) (fun τ=>τ={ env:=[(0,(.yield 5)),(1,.ptr 4 0),(2,.iptr [.int .u8 i,.int .i64 k,.int .i64 l]),(4,zi g),(5,(.lbox [zi v,zi w,zi y,zi z,zi B,zi C])),(6,.d (.bool z0)),(14,zl 6 a),(15,(.d (.int .i64 (A.len a)))),(16,zi g),(29,zl 6 a),(30,(.d (.int .i64 (A.len a)))),(31,zi s)],heap:=[(.map true [.int .u8,.int .i64,.int .i64] p),(.cells [zl 4 c,zl 6 a,(.func 75 [] []),(.map 0)]),.cells [.ptr 1 0],.cells [zi q],.cells [.ptr 1 0],(.loop { st := .ready,pending:=none,env:=[(2,.ptr 2 0),(7,.ptr 3 0)],n:=41,params := #[27,28],assign:=ZA163r0,body:=ZB163r0 })],n:=82 }) ?_ ?_
      ·skip
       refine AWp.regionDraw rfl (lb rfl) ?_
       rcases tf P with F | F
       ·replace e:=cT F e
        obtain ⟨u0,e0,e⟩:=bindS e
        refine DOps.c0 hT hA {} rfl zu (Z200aw hA e0) rfl rfl (lb rfl) rfl rfl ?_
        rcases tf u0 with G | G
        ·replace e:=cT G e
         refine DOps.cd hT hA {} rfl zu (by kernel_rfl) ?_
         cases soI e
         exact zO
        ·replace e:=cF G e
         obtain ⟨v1,g0,e⟩:=bindS e
         refine DOps.c0 hT hA {} rfl zu (Z75w hA g0) rfl rfl (lb rfl) rfl rfl ?_
         refine DOps.cd hT hA {} rfl zu (by kernel_rfl) ?_
         cases soI e
         exact zO
       ·replace e:=cF F e
        refine DOps.cd hT hA {} rfl zu (by kernel_rfl) ?_
        cases soI e
        exact zO
      ·rintro _ rfl
       refine nB (nT ?_)
       refine zA ?_
       exact nT ⟨_,(soI j).symm,rfl,zc⟩
     ·replace j:=cF E j
      refine zU ?_
      refine AWp.exit (xT (xT ?_))
      refine exL j fun hx => ?_
      subst hx
      exact oxI ⟨rfl,_,M,zv⟩
    ·rintro _ ⟨u,M,rfl⟩
     have b:=(n0 _ M)
     refine xB (nT (zs (zs ?_)))
     refine zA ?_
     refine nT ?_
     rcases tf u with J | J
     ·replace b:=cT J b
      refine zU ?_
      refine zk (nT (zs ?_))
      refine AWp.regionDraw rfl (lb rfl) ?_
      obtain ⟨⟨v0,w0,y0⟩,i0,b⟩:=bindS b
      refine DOps.c0 hT hA { tk:=[65] } rfl zu (Z108aw hA i0) rfl rfl (lb rfl) rfl rfl ?_
      refine DOps.cd hT hA { tk:=[65] } rfl zu (by kernel_rfl) ?_
      refine nT (zs ?_)
      obtain ⟨⟨c1,d1⟩,m,b⟩:=bindS b
      refine AWp.cutN [0,1,2,14,15,16,80] [] 6 (lb rfl) (fun τ=>τ={ env:=[(0,(.yield 5)),(1,.ptr 4 0),(2,.iptr [.int .u8 i,.int .i64 k,.int .i64 l]),(14,zl 6 a),(15,(.d (.int .i64 (A.len a)))),(16,zi g),(80,.d (.bool false))],heap:=[(.map true [.int .u8,.int .i64,.int .i64] c1),(.cells [zl 4 c,zl 6 a,(.func 75 [] []),(.map 0)]),.cells [.ptr 1 0],.cells [zi d1],.cells [.ptr 1 0],(.loop { st := .ready,pending:=none,env:=[(2,.ptr 2 0),(7,.ptr 3 0)],n:=41,params := #[27,28],assign:=ZA163r0,body:=ZB163r0 })],n:=82 }) ?_ ?_
      ·skip
       refine AWp.regionDraw rfl (lb rfl) ?_
       rcases tf y0 with K | K
       ·replace m:=cT K m
        obtain ⟨_,j0,m⟩:=bindS m
        have r1:=nkI j0
        obtain ⟨s0,O,m⟩:=bindS m
        obtain ⟨a1,b1⟩:=s0
        have e1:YCall Tryz.prog 5 [zi g,(.d (.agg [(.int .u8 (A.bits .or .u8 i (A.shl .u8 1 g))),.int .i64 v0,.int .i64 w0]))] [(.map true [.int .u8,.int .i64,.int .i64] p),(.cells [zl 4 c,zl 6 a,(.func 75 [] []),(.map 0)]),.cells [.ptr 1 0],.cells [zi q],.cells [.ptr 1 0],(.loop { st := .ready,pending:=none,env:=[(2,.ptr 2 0),(7,.ptr 3 0)],n:=41,params := #[27,28],assign:=ZA163r0,body:=ZB163r0 })] (.d (.bool true)) [(.map true [.int .u8,.int .i64,.int .i64] a1),(.cells [zl 4 c,zl 6 a,(.func 75 [] []),(.map 0)]),.cells [.ptr 1 0],.cells [zi b1],.cells [.ptr 1 0],(.loop { st := .ready,pending:=none,env:=[(2,.ptr 2 0),(7,.ptr 3 0)],n:=41,params := #[27,28],assign:=ZA163r0,body:=ZB163r0 })]:=by
         refine YCall.mk rfl rfl rfl rfl rfl rfl (lb rfl) ?_
         dsimp only [ZA163r0,ZB163r0,cAt,Tryz.f163,Option.getD]
         refine zA ?_ { tk:=[28] }
         refine ⟨rfl,rfl,?_⟩
         refine zb ?_
         refine AWp.regionDraw rfl (lb rfl) ?_
         obtain ⟨⟨w1,y1⟩,k0,O⟩:=bindS O
         refine DOps.cl hT hA { tk:=[33] } rfl zc (r0 k0) rfl rfl rfl rfl rfl (lb rfl) rfl rfl ?_
         refine DOps.cd hT hA { tk:=[33] } rfl zc (by kernel_rfl) ?_
         refine nB ?_
         cases soI O
         exact ⟨rfl,rfl,_,rfl⟩
        refine DOps.cy hT hA {} rfl zu e1 rfl (.inl rfl) rfl rfl rfl (lb rfl) rfl rfl ?_
        refine DOps.cd hT hA {} rfl zu (by kernel_rfl) ?_
        cases soI m
        exact zO
       ·replace m:=cF K m
        refine DOps.cd hT hA {} rfl zu (by kernel_rfl) ?_
        cases soI m
        exact zO
      ·rintro _ rfl
       refine nT ?_
       refine zU ?_
       refine zk (nB ?_)
       cases soI b
       exact zO
     ·replace b:=cF J b
      refine zT ?_
      refine AWp.exit (xT (xB ?_))
      cases soI b
      exact zO
   ·rintro _ rfl
    refine nT ?_
    refine zA ?_
    exact nT ⟨_,(soI o).symm,rfl,zc⟩
  ·replace o:=cF L o
   refine zU ?_
   refine AWp.exit (xT (xT ?_))
   refine exL o fun hx => ?_
   subst hx
   exact oxI ⟨rfl,_,_,N,zv⟩
 ·rintro _ ⟨Q,R,N,rfl⟩
  have h:=(o0 _ N)
  refine xB ?_
  cases soI h
  exact zq

theorem Z163Bw {A:Ar} (hA:SA A) {self72:Int->Int->Int->(List (D×D))->List D->List D->(Option (Int×List (D×D)))} (B : ∀ {c e g:Int} {i:List (D×D)} {a b:List D} {s:Int} {u:List (D×D)},self72 c e g i a b=some (s,u)->ACall Tryz.prog 163 [.ptr 1 0,.d (.agg [.int .u8 c,.int .i64 e,.int .i64 g])] [(.map true [.int .u8,.int .i64,.int .i64] i),(.cells [zl 4 a,zl 6 b,(.func 75 [] []),(.map 0)])] (zi s) [(.map true [.int .u8,.int .i64,.int .i64] u),(.cells [zl 4 a,zl 6 b,(.func 75 [] []),(.map 0)])]) {c e g:Int} {i:List (D×D)} {a b:List D} {q:Int} {r:List (D×D)} (h:Z163B A self72 c e g i a b=some (q,r)):ACall Tryz.prog 163 [.ptr 1 0,.d (.agg [.int .u8 c,.int .i64 e,.int .i64 g])] [(.map true [.int .u8,.int .i64,.int .i64] i),(.cells [zl 4 a,zl 6 b,(.func 75 [] []),(.map 0)])] (zi q) [(.map true [.int .u8,.int .i64,.int .i64] r),(.cells [zl 4 a,zl 6 b,(.func 75 [] []),(.map 0)])]:=by
 unfold Z163B at h
 refine ACall.enterT hT (fn:=Tryz.f163) Tryz.func163 rfl (by decide) (by simp [Tryz.f163]) rfl rfl rfl rfl (lb rfl) ?_
 refine AWpT.seq ?_
 refine AWpT.of ?_
 refine zA ?_ { esc:=[2] }
 refine nT ?_
 refine AWpT.seq ?_
 refine AWpT.of ?_
 refine zs ?_
 obtain ⟨⟨J,p⟩,k,h⟩:=bindS h
 refine AWp.cutN [2,3,5,6] [] 3 (lb rfl) (fun τ=>τ={ env:=[(2,.ptr 2 0),(3,(.lbox [.d (.int .u8 c),zi e,zi g])),(5,zi J),(6,.d (.bool p))],heap:=[(.map true [.int .u8,.int .i64,.int .i64] i),(.cells [zl 4 a,zl 6 b,(.func 75 [] []),(.map 0)]),.cells [.ptr 1 0]],n:=41 }) ?_ ?_
 ·skip
  obtain ⟨C,o,k⟩:=bindS k
  rcases C with _ | L
  ·have z:=lkN o
   refine AWp.rd hT hA { tk:=[17] } rfl zu (by kernel_rfl) (lb rfl) ?_
   cases soI k
   exact zO
  ·have z:=lkS o
   refine AWp.rd hT hA { tk:=[17] } rfl zu (by kernel_rfl) (lb rfl) ?_
   cases soI k
   exact zO
 ·rintro _ rfl
  refine nT (zs ?_)
  refine zA ?_
  refine nT ?_
  rcases tf p with l | l
  ·replace h:=cT l h
   refine zT ?_
   refine zs ?_
   refine zB ?_ { tk:=[5,20] }
   refine nT (zr (rT ?_))
   cases soI h
   exact zq
  ·replace h:=cF l h
   refine zU ?_
   refine zk (nT ?_)
   refine AWpT.seq ?_
   refine AWpT.of ?_
   refine zB ?_ { esc:=[7] }
   refine nT ?_
   refine AWpT.seq ?_
   refine AWpT.of ?_
   refine zs (zn ?_)
   obtain ⟨E,v,h⟩:=bindS h
   refine zD (Z191aw hA v) ?_
   refine zF ?_
   refine nT ?_
   obtain ⟨K,j,h⟩:=bindS h
   refine AWp.cutN [2,3,7] [] 4 (lb rfl) (fun τ=>τ={ env:=[(2,.ptr 2 0),(3,(.lbox [.d (.int .u8 c),zi e,zi g])),(7,.ptr 3 0)],heap:=[(.map true [.int .u8,.int .i64,.int .i64] i),(.cells [zl 4 a,zl 6 b,(.func 75 [] []),(.map 0)]),.cells [.ptr 1 0],.cells [zi K]],n:=41 }) ?_ ?_
   ·skip
    rcases tf E with m | m
    ·replace j:=cT m j
     refine zT ?_
     refine zB ?_
     cases soI j
     exact zO
    ·replace j:=cF m j
     refine zU ?_
     refine zk ?_
     cases soI j
     exact zO
   ·rintro _ rfl
    refine nT ?_
    refine AWpT.seq ?_
    refine AWpT.seq ?_
    refine AWpT.of ?_
    refine zn ?_
    obtain ⟨⟨M,N,O⟩,w,h⟩:=bindS h
    refine zC (Z192cw hA w) ?_
    refine zE ?_
    refine nT ?_
    refine AWpT.block ?_
    obtain ⟨⟨F,G⟩,y,h⟩:=bindS h
    refine AWpT.rangeFunc [2,7] (H':=[(.map true [.int .u8,.int .i64,.int .i64] F),(.cells [zl 4 a,zl 6 b,(.func 75 [] []),(.map 0)]),.cells [.ptr 1 0],.cells [zi G],.cells [.ptr 1 0],(.loop { st := .ready,pending:=none,env:=[(2,.ptr 2 0),(7,.ptr 3 0)],n:=41,params := #[27,28],assign:=ZA163r0,body:=ZB163r0 })]) rfl (lb rfl) rfl rfl rfl (Z201aw hA B y) (st := .ready) (by decide) rfl ?_
    refine bN ?_
    refine nB (nT ?_)
    refine AWpT.of ?_
    refine zs ?_
    refine AWp.rd hT hA {} rfl zc (by kernel_rfl) (lb rfl) ?_
    refine nT (zs ?_)
    refine zA ?_ { tk:=[40] }
    refine nT (zr ?_)
    cases soI h
    exact zq

theorem Z163Rw {A:Ar} (hA:SA A) : ∀ (n:Nat) {g i j:Int} {k:List (D×D)} {a b:List D} {c:Int} {e:List (D×D)},Z163R A n g i j k a b=some (c,e)->ACall Tryz.prog 163 [.ptr 1 0,.d (.agg [.int .u8 g,.int .i64 i,.int .i64 j])] [(.map true [.int .u8,.int .i64,.int .i64] k),(.cells [zl 4 a,zl 6 b,(.func 75 [] []),(.map 0)])] (zi c) [(.map true [.int .u8,.int .i64,.int .i64] e),(.cells [zl 4 a,zl 6 b,(.func 75 [] []),(.map 0)])]
 | 0,_,_,_,_,_,_,_,_,h=>by cases h
 | n+1,_,_,_,_,_,_,_,_,h=>Z163Bw hA (fun h=>Z163Rw hA n h) h

theorem Z163w {A:Ar} (hA:SA A) {g i j:Int} {k:List (D×D)} {a b:List D} {c:Int} {e:List (D×D)} (h:Z163 A g i j k a b=some (c,e)):ACall Tryz.prog 163 [.ptr 1 0,.d (.agg [.int .u8 g,.int .i64 i,.int .i64 j])] [(.map true [.int .u8,.int .i64,.int .i64] k),(.cells [zl 4 a,zl 6 b,(.func 75 [] []),(.map 0)])] (zi c) [(.map true [.int .u8,.int .i64,.int .i64] e),(.cells [zl 4 a,zl 6 b,(.func 75 [] []),(.map 0)])]:=Z163Rw hA fuel h

theorem Z121w {A:Ar} (hA:SA A) {e g:List D} {b c:Int} (h:Z121 A e g=some (b,c)):ACall Tryz.prog 121 [zl 4 e,zl 6 g] [] (.tuple [zi b,zi c]) []:=by
 unfold Z121 at h
 refine zI Tryz.func121 ?_
 refine zs ?_
 refine zA ?_
 refine nT (zs (zs (zn ?_)))
 obtain ⟨l,i,h⟩:=bindS h
 refine zC (Z72w hA i) ?_
 refine zE ?_
 refine nT (zs ?_)
 refine zA ?_
 refine nT ?_
 rcases tf (A.zeq l 0) with a | a
 ·replace h:=cT a h
  refine zU ?_
  refine zk (nT (zs (zn ?_)))
  obtain ⟨⟨o,p⟩,j,h⟩:=bindS h
  refine zD (Z162w hA j) ?_
  obtain ⟨⟨m,n⟩,k,h⟩:=bindS h
  refine zD (Z163w hA k) ?_
  refine zF ?_
  refine nT (zr ?_)
  cases soI h
  exact zq
 ·replace h:=cF a h
  refine zT ?_
  refine zs ?_
  refine zB ?_
  refine nT (zr (rT ?_))
  cases soI h
  exact zq

theorem Z85w {A:Ar} (hA:SA A) {c e:List D} {a:Bool} {b:Int} (h:Z85 A c e=some (a,b)):ACall Tryz.prog 85 [zl 4 c,zl 6 e] [] (.tuple [.d (.bool a),zi b]) []:=by
 unfold Z85 at h
 refine zI Tryz.func85 ?_
 refine zs ?_
 refine zA ?_
 refine nT (zs (zn ?_))
 obtain ⟨⟨i,j⟩,g,h⟩:=bindS h
 refine zC (Z121w hA g) ?_
 refine zE ?_
 refine nT (zs ?_)
 refine zA ?_
 refine nT (zr ?_)
 cases soI h
 exact zq

theorem Z38w {A:Ar} (hA:SA A) {e g:Int} {i j k:List D} {c:Bool} (h:Z38 A e g i j k=some c):ACall Tryz.prog 38 [.d (.agg [.int .i64 e,.int .i64 g,.list 1 i,.list 1 j]),zl 6 k] [] (.d (.bool c)) []:=by
 unfold Z38 at h
 refine zI Tryz.func38 ?_
 refine zs ?_
 refine zA ?_
 refine nT (zs (zn ?_))
 obtain ⟨⟨p,m⟩,l,h⟩:=bindS h
 refine zC (Z85w hA l) ?_
 refine zE ?_
 refine nT (zs ?_)
 obtain ⟨o,a,h⟩:=bindS h
 refine AWp.cutN [4] [] 0 (lb rfl) (fun τ=>τ={ env:=[(4,.d (.bool o))],heap:=[],n:=19 }) ?_ ?_
 ·skip
  rcases tf (A.zeq m 0) with b | b
  ·replace a:=cT b a
   refine zB ?_ { tk:=[18] }
   cases soI a
   exact zO
  ·replace a:=cF b a
   refine zB ?_ { tk:=[18] }
   cases soI a
   exact zO
 ·rintro _ rfl
  refine nT (zr ?_)
  cases soI h
  exact zq

theorem Z77w {A:Ar} (hA:SA A) {c e i:Int} {g:Bool} (h:Z77 A c e i=some g):ACall Tryz.prog 77 [zi c,zi e,zi i] [] (.d (.bool g)) []:=by
 unfold Z77 at h
 refine zI Tryz.func77 ?_
 refine zs ?_
 refine zA ?_
 refine nT (zs ?_)
 obtain ⟨j,a,h⟩:=bindS h
 refine AWp.cutN [6] [] 0 (lb rfl) (fun τ=>τ={ env:=[(6,.d (.bool j))],heap:=[],n:=15 }) ?_ ?_
 ·skip
  rcases tf (A.zle c e) with b | b
  ·replace a:=cT b a
   refine zB ?_ { tk:=[14] }
   cases soI a
   exact zO
  ·replace a:=cF b a
   refine zB ?_ { tk:=[14] }
   cases soI a
   exact zO
 ·rintro _ rfl
  refine nT (zr ?_)
  cases soI h
  exact zq

theorem Z109w {A:Ar} (hA:SA A) {b:Int} {a:Bool} (h:Z109 A b=some a):ACall Tryz.prog 109 [zi b] [] (.d (.bool a)) []:=by
 unfold Z109 at h
 refine zI Tryz.func109 ?_
 refine zs ?_
 refine zA ?_
 refine nT (zs (zn ?_))
 obtain ⟨e,c,h⟩:=bindS h
 refine zC (Z77w hA c) ?_ { tk:=[4] }
 refine zE ?_ { tk:=[4] }
 refine nT (zr ?_)
 cases soI h
 exact zq

theorem Z110w {A:Ar} (hA:SA A) {b:Int} {a:Bool} (h:Z110 A b=some a):ACall Tryz.prog 110 [zi b] [] (.d (.bool a)) []:=by
 unfold Z110 at h
 refine zI Tryz.func110 ?_
 refine zs ?_
 refine zA ?_
 refine nT (zs (zn ?_))
 obtain ⟨e,c,h⟩:=bindS h
 refine zC (Z77w hA c) ?_ { tk:=[4] }
 refine zE ?_ { tk:=[4] }
 refine nT (zr ?_)
 cases soI h
 exact zq

theorem Z111w {A:Ar} (hA:SA A) {b:Int} {a:Bool} (h:Z111 A b=some a):ACall Tryz.prog 111 [zi b] [] (.d (.bool a)) []:=by
 unfold Z111 at h
 refine zI Tryz.func111 ?_
 refine zs ?_
 refine zA ?_
 refine nT (zs (zn ?_))
 obtain ⟨e,c,h⟩:=bindS h
 refine zC (Z77w hA c) ?_ { tk:=[4] }
 refine zE ?_ { tk:=[4] }
 refine nT (zr ?_)
 cases soI h
 exact zq

theorem Z78w {A:Ar} (hA:SA A) {k P N Q R:Int} {O:Bool} (h:Z78 A k P N Q R=some O):ACall Tryz.prog 78 [.d (.agg [.int .i64 k,.int .i64 P,.int .i64 N,.int .i64 Q]),zi R] [] (.d (.bool O)) []:=by
 unfold Z78 at h
 refine zI Tryz.func78 ?_
 refine zs ?_
 refine zA ?_
 refine nT (zs (zs ?_))
 refine zA ?_
 refine nT (zb (zs ?_))
 refine zA ?_
 refine nT ?_
 rcases tf (A.zeq k 1) with F | F
 ·replace h:=cT F h
  refine zT ?_
  refine zs ?_
  obtain ⟨y0,c,h⟩:=bindS h
  refine AWp.cutN [4] [] 0 (lb rfl) (fun τ=>τ={ env:=[(4,.d (.bool y0))],heap:=[],n:=114 }) ?_ ?_
  ·skip
   refine zn ?_
   obtain ⟨r8,e7,c⟩:=bindS c
   refine zD (Z109w hA e7) ?_ { tk:=[21] }
   rcases tf r8 with M | M
   ·replace c:=cT M c
    obtain ⟨k0,S,c⟩:=bindS c
    refine zD (Z110w hA S) ?_ { tk:=[21] }
    rcases tf k0 with l | l
    ·replace c:=cT l c
     refine zF ?_ { tk:=[21] }
     cases soI c
     exact zO
    ·replace c:=cF l c
     refine zF ?_ { tk:=[21] }
     cases soI c
     exact zO
   ·replace c:=cF M c
    refine zF ?_ { tk:=[21] }
    cases soI c
    exact zO
  ·rintro _ rfl
   refine nT (zr (rB (rT ?_)))
   cases soI h
   exact zq
 ·replace h:=cF F h
  refine zU ?_
  refine zs ?_
  refine zB ?_
  refine nT ?_
  rcases tf (A.zeq k 2) with m | m
  ·replace h:=cT m h
   refine zT ?_
   refine zs ?_
   obtain ⟨z0,e,h⟩:=bindS h
   refine AWp.cutN [4] [] 0 (lb rfl) (fun τ=>τ={ env:=[(4,.d (.bool z0))],heap:=[],n:=114 }) ?_ ?_
   ·skip
    refine zn ?_
    obtain ⟨l0,U,e⟩:=bindS e
    refine zD (Z110w hA U) ?_ { tk:=[36] }
    rcases tf l0 with o | o
    ·replace e:=cT o e
     obtain ⟨m0,V,e⟩:=bindS e
     refine zD (Z109w hA V) ?_ { tk:=[36] }
     rcases tf m0 with p | p
     ·replace e:=cT p e
      refine zF ?_ { tk:=[36] }
      cases soI e
      exact zO
     ·replace e:=cF p e
      refine zF ?_ { tk:=[36] }
      cases soI e
      exact zO
    ·replace e:=cF o e
     refine zF ?_ { tk:=[36] }
     cases soI e
     exact zO
   ·rintro _ rfl
    refine nT (zr (rB (rT ?_)))
    cases soI h
    exact zq
  ·replace h:=cF m h
   refine zU ?_
   refine zs ?_
   refine zB ?_
   refine nT ?_
   rcases tf (A.zeq k 3) with q | q
   ·replace h:=cT q h
    refine zT ?_
    refine zs ?_
    obtain ⟨a1,a,h⟩:=bindS h
    refine AWp.cutN [4] [] 0 (lb rfl) (fun τ=>τ={ env:=[(4,.d (.bool a1))],heap:=[],n:=114 }) ?_ ?_
    ·skip
     refine zn ?_
     obtain ⟨n0,W,a⟩:=bindS a
     refine zD (Z110w hA W) ?_ { tk:=[51] }
     rcases tf n0 with r | r
     ·replace a:=cT r a
      obtain ⟨o0,X,a⟩:=bindS a
      refine zD (Z109w hA X) ?_ { tk:=[51] }
      rcases tf o0 with s | s
      ·replace a:=cT s a
       obtain ⟨g1,Y,a⟩:=bindS a
       refine zD (Z109w hA Y) ?_ { tk:=[51] }
       refine zF ?_ { tk:=[51] }
       cases soI a
       exact zO
      ·replace a:=cF s a
       refine zF ?_ { tk:=[51] }
       cases soI a
       exact zO
     ·replace a:=cF r a
      refine zF ?_ { tk:=[51] }
      cases soI a
      exact zO
    ·rintro _ rfl
     refine nT (zr (rB (rT ?_)))
     cases soI h
     exact zq
   ·replace h:=cF q h
    refine zU ?_
    refine zs ?_
    refine zB ?_
    refine nT ?_
    rcases tf (A.zeq k 4) with u | u
    ·replace h:=cT u h
     refine zT ?_
     refine zs ?_
     obtain ⟨b1,g,h⟩:=bindS h
     refine AWp.cutN [4] [] 0 (lb rfl) (fun τ=>τ={ env:=[(4,.d (.bool b1))],heap:=[],n:=114 }) ?_ ?_
     ·skip
      refine zn ?_
      obtain ⟨p0,a0,g⟩:=bindS g
      refine zD (Z109w hA a0) ?_ { tk:=[66] }
      rcases tf p0 with v | v
      ·replace g:=cT v g
       obtain ⟨q0,b0,g⟩:=bindS g
       refine zD (Z111w hA b0) ?_ { tk:=[66] }
       rcases tf q0 with w | w
       ·replace g:=cT w g
        refine zF ?_ { tk:=[66] }
        cases soI g
        exact zO
       ·replace g:=cF w g
        refine zF ?_ { tk:=[66] }
        cases soI g
        exact zO
      ·replace g:=cF v g
       refine zF ?_ { tk:=[66] }
       cases soI g
       exact zO
     ·rintro _ rfl
      refine nT (zr (rB (rT ?_)))
      cases soI h
      exact zq
    ·replace h:=cF u h
     refine zU ?_
     refine zs ?_
     refine zB ?_
     refine nT ?_
     rcases tf (A.zeq k 5) with y | y
     ·replace h:=cT y h
      refine zT ?_
      refine zs ?_
      obtain ⟨c1,b,h⟩:=bindS h
      refine AWp.cutN [4] [] 0 (lb rfl) (fun τ=>τ={ env:=[(4,.d (.bool c1))],heap:=[],n:=114 }) ?_ ?_
      ·skip
       refine zn ?_
       obtain ⟨r0,c0,b⟩:=bindS b
       refine zD (Z109w hA c0) ?_ { tk:=[81] }
       rcases tf r0 with z | z
       ·replace b:=cT z b
        obtain ⟨s0,d0,b⟩:=bindS b
        refine zD (Z109w hA d0) ?_ { tk:=[81] }
        rcases tf s0 with B | B
        ·replace b:=cT B b
         obtain ⟨i1,e0,b⟩:=bindS b
         refine zD (Z109w hA e0) ?_ { tk:=[81] }
         refine zF ?_ { tk:=[81] }
         cases soI b
         exact zO
        ·replace b:=cF B b
         refine zF ?_ { tk:=[81] }
         cases soI b
         exact zO
       ·replace b:=cF z b
        refine zF ?_ { tk:=[81] }
        cases soI b
        exact zO
      ·rintro _ rfl
       refine nT (zr (rB (rT ?_)))
       cases soI h
       exact zq
     ·replace h:=cF y h
      refine zU ?_
      refine zs ?_
      refine zB ?_
      refine nT ?_
      rcases tf (A.zeq k 6) with C | C
      ·replace h:=cT C h
       refine zT ?_
       refine zs ?_
       obtain ⟨d1,i,h⟩:=bindS h
       refine AWp.cutN [4] [] 0 (lb rfl) (fun τ=>τ={ env:=[(4,.d (.bool d1))],heap:=[],n:=114 }) ?_ ?_
       ·skip
        refine zn ?_
        obtain ⟨u0,g0,i⟩:=bindS i
        refine zD (Z109w hA g0) ?_ { tk:=[98] }
        rcases tf u0 with E | E
        ·replace i:=cT E i
         obtain ⟨v0,i0,i⟩:=bindS i
         refine zD (Z77w hA i0) ?_ { tk:=[98] }
         rcases tf v0 with G | G
         ·replace i:=cT G i
          refine zF ?_ { tk:=[98] }
          cases soI i
          exact zO
         ·replace i:=cF G i
          refine zF ?_ { tk:=[98] }
          cases soI i
          exact zO
        ·replace i:=cF E i
         refine zF ?_ { tk:=[98] }
         cases soI i
         exact zO
       ·rintro _ rfl
        refine nT (zr (rB (rT ?_)))
        cases soI h
        exact zq
      ·replace h:=cF C h
       refine zU ?_
       refine zs ?_
       refine zB ?_
       refine nT ?_
       rcases tf (A.zeq k 7) with J | J
       ·replace h:=cT J h
        refine zT ?_
        refine zs ?_
        obtain ⟨e1,j,h⟩:=bindS h
        refine AWp.cutN [4] [] 0 (lb rfl) (fun τ=>τ={ env:=[(4,.d (.bool e1))],heap:=[],n:=114 }) ?_ ?_
        ·skip
         refine zn ?_
         obtain ⟨w0,j0,j⟩:=bindS j
         refine zD (Z109w hA j0) ?_ { tk:=[113] }
         rcases tf w0 with K | K
         ·replace j:=cT K j
          rcases tf (A.zeq N 0) with L | L
          ·replace j:=cT L j
           refine zF ?_ { tk:=[113] }
           cases soI j
           exact zO
          ·replace j:=cF L j
           refine zF ?_ { tk:=[113] }
           cases soI j
           exact zO
         ·replace j:=cF K j
          refine zF ?_ { tk:=[113] }
          cases soI j
          exact zO
        ·rintro _ rfl
         refine nT (zr (rB (rT ?_)))
         cases soI h
         exact zq
       ·replace h:=cF J h
        refine zU ?_
        refine zk (nB (nT (zs ?_)))
        refine zB ?_
        refine nT (zr ?_)
        cases soI h
        exact zq

theorem Z30w {A:Ar} (hA:SA A) {g:List D} {s:Bool} (h:Z30 A g=some s):ACall Tryz.prog 30 [zl 1 g] [] (.d (.bool s)) []:=by
 unfold Z30 at h
 refine zI Tryz.func30 ?_
 refine zs ?_
 refine zA ?_
 refine nT (zs (zs (zn ?_)))
 obtain ⟨N,B,h⟩:=bindS h
 refine zC (Z77w hA B) ?_
 refine zE ?_
 refine nT ?_
 rcases tf N with k | k
 ·replace h:=cT k h
  refine zU ?_
  refine zk (nT (zs (zs ?_)))
  refine zB ?_
  refine nT (zb ?_)
  obtain ⟨k0,M,w,j,c⟩:=bindK h
  refine AWp.cutX 0 [] [] 0 (lb rfl) (fun τ=>w (.inl ())=some s/\τ={ env:=[],heap:=[],n:=59 }) ?_ ?_
  ·skip
   refine AWp.iter M [0,3] [] 0 (lb rfl) (fun i=>{ env:=[(0,zl 1 g),(3,zi i)],heap:=[],n:=59 }) ⟨rfl,zv⟩ ?_
   rintro i K a
   dsimp only [Z30L1] at a
   refine zs (zs ?_)
   refine zA ?_
   refine nT ?_
   rcases tf (A.zlt i (A.len g)) with l | l
   ·replace a:=cT l a
    refine zT ?_
    refine zk (nT (zs (zb (zs (zs (zn ?_))))))
    obtain ⟨y,C,a⟩:=bindS a
    obtain ⟨a0,b0⟩:=gtI C
    obtain ⟨O,E,a⟩:=bindS a
    refine zD (Z77w hA E) ?_
    refine zF ?_
    refine nT ?_
    rcases tf O with m | m
    ·replace a:=cT m a
     refine zU ?_
     refine zk (nT (zs (zs ?_)))
     refine zB ?_
     refine nT (zb ?_)
     obtain ⟨j0,L,v,u,e⟩:=bindK a
     refine AWp.cutX 2 [0,3] [] 0 (lb rfl) (fun τ=>v (.inl ())=some K/\τ={ env:=[(0,zl 1 g),(3,zi i)],heap:=[],n:=59 }) ?_ ?_
     ·skip
      refine AWp.iter L [0,3,4] [] 0 (lb rfl) (fun r=>{ env:=[(0,zl 1 g),(3,zi i),(4,zi r)],heap:=[],n:=59 }) ⟨rfl,zv⟩ ?_
      rintro r Y b
      dsimp only [Z30L0] at b
      refine zs (zs ?_)
      refine zB ?_
      refine nT ?_
      rcases tf (A.zlt r (A.len y)) with o | o
      ·replace b:=cT o b
       refine zT ?_
       refine zk (nT (zs (zb (zs ?_))))
       refine AWp.regionDraw rfl (lb rfl) ?_
       obtain ⟨⟨Q,R,S,U⟩,F,b⟩:=bindS b
       obtain ⟨d0,e0⟩:=gtI F
       obtain ⟨P,G,b⟩:=bindS b
       refine DOps.c0 hT hA {} rfl zu (Z78w hA G) rfl rfl (lb rfl) rfl rfl ?_
       refine DOps.cd hT hA {} rfl zu (by kernel_rfl) ?_
       refine nT ?_
       rcases tf P with p | p
       ·replace b:=cT p b
        refine zU ?_
        refine zk (nB (nT ?_))
        refine zB ?_
        exact nT ⟨_,(soI b).symm,rfl,zv⟩
       ·replace b:=cF p b
        refine zT ?_
        refine zs ?_
        refine zB ?_
        refine nT (zr (rB (rT (rT ?_))))
        refine exL b fun hx => ?_
        subst hx
        refine oxR ?_
        replace e:=(eR (u _ e))
        refine rB (rT (rB (rT (rT ?_))))
        refine exL e fun hx => ?_
        subst hx
        refine oxR ?_
        replace c:=(eR (j _ c))
        refine rB (rT ?_)
        cases soI c
        exact zq
      ·replace b:=cF o b
       refine zU ?_
       refine AWp.exit (xT (xT ?_))
       refine exL b fun hx => ?_
       subst hx
       exact oxI ⟨rfl,e,zv⟩
     ·rintro _ ⟨e,rfl⟩
      have a:=(eL (u _ e))
      refine xB (nT (zs ?_))
      obtain ⟨⟨z,V,W,X⟩,J,a⟩:=bindS a
      obtain ⟨g0,i0⟩:=gtI J
      refine AWp.rd hT hA {} rfl zu (by kernel_rfl) (lb rfl) ?_
      refine nT ?_
      rcases tf (A.zeq z 7) with q | q
      ·replace a:=cT q a
       refine zU ?_
       refine zk (nB (nT ?_))
       refine zB ?_
       exact nT ⟨_,(soI a).symm,rfl,zv⟩
      ·replace a:=cF q a
       refine zT ?_
       refine zs ?_
       refine zB ?_
       refine nT (zr (rB (rT (rT ?_))))
       refine exL a fun hx => ?_
       subst hx
       refine oxR ?_
       replace c:=(eR (j _ c))
       refine rB (rT ?_)
       cases soI c
       exact zq
    ·replace a:=cF m a
     refine zT ?_
     refine zs ?_
     refine zB ?_
     refine nT (zr (rT (rB (rT (rT ?_)))))
     refine exL a fun hx => ?_
     subst hx
     refine oxR ?_
     replace c:=(eR (j _ c))
     refine rB (rT ?_)
     cases soI c
     exact zq
   ·replace a:=cF l a
    refine zU ?_
    refine AWp.exit (xT (xT ?_))
    refine exL a fun hx => ?_
    subst hx
    exact oxI ⟨rfl,c,zv⟩
  ·rintro _ ⟨c,rfl⟩
   have h:=(eL (j _ c))
   refine xB (nT (zs ?_))
   refine zA ?_
   refine nT (zr ?_)
   cases soI h
   exact zq
 ·replace h:=cF k h
  refine zT ?_
  refine zs ?_
  refine zB ?_
  refine nT (zr (rT ?_))
  cases soI h
  exact zq

theorem Z79w {A:Ar} (hA:SA A) {g i:Int} {o p c:List D} {q:Int} {C:Bool} (h:Z79 A g i o p c q=some C):ACall Tryz.prog 79 [.d (.agg [.int .i64 g,.int .i64 i,.list 1 o,.list 1 p]),zl 1 c,zi q] [] (.d (.bool C)) []:=by
 unfold Z79 at h
 refine zI Tryz.func79 ?_
 refine zs ?_
 refine zA ?_
 refine nT (zs (zs ?_))
 refine zA ?_
 refine nT ?_
 rcases tf (A.zeq (A.len c) g) with z | z
 ·replace h:=cT z h
  refine zU ?_
  refine zk (nT (zs (zs ?_)))
  refine zB ?_
  refine nT (zb ?_)
  obtain ⟨X,P,J,B,e⟩:=bindK h
  refine AWp.cutX 0 [] [] 0 (lb rfl) (fun τ=>J (.inl ())=some C/\τ={ env:=[],heap:=[],n:=42 }) ?_ ?_
  ·skip
   refine AWp.iter P [2,3,16,17,18] [] 0 (lb rfl) (fun m=>{ env:=[(2,zi q),(3,(.lbox [zi g,zi i,zl 1 o,zl 1 p])),(16,zl 1 c),(17,(.d (.int .i64 (A.len c)))),(18,zi m)],heap:=[],n:=42 }) ⟨rfl,zv⟩ ?_
   rintro m N b
   dsimp only [Z79L1] at b
   refine zs ?_
   refine zA ?_
   refine nT (zs ?_)
   rcases tf (A.zlt m (A.len c)) with s | s
   ·replace b:=cT s b
    refine zT ?_
    refine zk (nT (zs (zb (zs ?_))))
    obtain ⟨j,L,b⟩:=bindS b
    obtain ⟨R,S⟩:=gtI L
    refine zB ?_
    refine nT (zs (zs ?_))
    refine zB ?_
    refine nT ?_
    rcases tf (A.zeq (A.len j) i) with u | u
    ·replace b:=cT u b
     refine zU ?_
     refine zk (nT (zs ?_))
     refine zB ?_
     refine nT (zb ?_)
     obtain ⟨W,O,G,E,k⟩:=bindK b
     refine AWp.cutX 2 [2,3,16,17,18] [] 0 (lb rfl) (fun τ=>G (.inl ())=some N/\τ={ env:=[(2,zi q),(3,(.lbox [zi g,zi i,zl 1 o,zl 1 p])),(16,zl 1 c),(17,(.d (.int .i64 (A.len c)))),(18,zi m)],heap:=[],n:=42 }) ?_ ?_
     ·skip
      refine AWp.iter O [2,3,16,17,18,27,28,29] [] 0 (lb rfl) (fun r=>{ env:=[(2,zi q),(3,(.lbox [zi g,zi i,zl 1 o,zl 1 p])),(16,zl 1 c),(17,(.d (.int .i64 (A.len c)))),(18,zi m),(27,zl 1 j),(28,(.d (.int .i64 (A.len j)))),(29,zi r)],heap:=[],n:=42 }) ⟨rfl,zv⟩ ?_
      rintro r Q a
      dsimp only [Z79L0] at a
      refine zs ?_
      refine zA ?_
      refine nT (zs ?_)
      rcases tf (A.zlt r (A.len j)) with v | v
      ·replace a:=cT v a
       refine zT ?_
       refine zk (nT (zs (zb (zs ?_))))
       obtain ⟨K,M,a⟩:=bindS a
       obtain ⟨U,V⟩:=gtI M
       refine zB ?_
       refine nT (zs ?_)
       obtain ⟨F,l,a⟩:=bindS a
       refine AWp.cutN [2,3,16,17,18,27,28,29,39] [] 0 (lb rfl) (fun τ=>τ={ env:=[(2,zi q),(3,(.lbox [zi g,zi i,zl 1 o,zl 1 p])),(16,zl 1 c),(17,(.d (.int .i64 (A.len c)))),(18,zi m),(27,zl 1 j),(28,(.d (.int .i64 (A.len j)))),(29,zi r),(39,.d (.bool F))],heap:=[],n:=42 }) ?_ ?_
       ·skip
        rcases tf (A.zlt K 0) with w | w
        ·replace l:=cT w l
         refine zB ?_
         cases soI l
         exact zO
        ·replace l:=cF w l
         refine zB ?_
         cases soI l
         exact zO
       ·rintro _ rfl
        refine nT ?_
        rcases tf F with y | y
        ·replace a:=cT y a
         refine zT ?_
         refine zs ?_
         refine zB ?_
         refine nT (zr (rB (rT (rT ?_))))
         refine exL a fun hx => ?_
         subst hx
         refine oxR ?_
         replace k:=(eR (E _ k))
         refine rB (rB (rT (rT ?_)))
         refine exL k fun hx => ?_
         subst hx
         refine oxR ?_
         replace e:=(eR (B _ e))
         refine rB (rT ?_)
         cases soI e
         exact zq
        ·replace a:=cF y a
         refine zU ?_
         refine zk (nB (nT ?_))
         refine zB ?_
         exact nT ⟨_,(soI a).symm,rfl,zv⟩
      ·replace a:=cF v a
       refine zU ?_
       refine AWp.exit (xT (xT ?_))
       refine exL a fun hx => ?_
       subst hx
       exact oxI ⟨rfl,k,zv⟩
     ·rintro _ ⟨k,rfl⟩
      have b:=(eL (E _ k))
      refine xB (nB (nT ?_))
      refine zA ?_
      exact nT ⟨_,(soI b).symm,rfl,zc⟩
    ·replace b:=cF u b
     refine zT ?_
     refine zs ?_
     refine zB ?_
     refine nT (zr (rT (rB (rT (rT ?_)))))
     refine exL b fun hx => ?_
     subst hx
     refine oxR ?_
     replace e:=(eR (B _ e))
     refine rB (rT ?_)
     cases soI e
     exact zq
   ·replace b:=cF s b
    refine zU ?_
    refine AWp.exit (xT (xT ?_))
    refine exL b fun hx => ?_
    subst hx
    exact oxI ⟨rfl,e,zv⟩
  ·rintro _ ⟨e,rfl⟩
   have h:=(eL (B _ e))
   refine xB (nT (zs ?_))
   refine zA ?_
   refine nT (zr ?_)
   cases soI h
   exact zq
 ·replace h:=cF z h
  refine zT ?_
  refine zs ?_
  refine zB ?_
  refine nT (zr (rT ?_))
  cases soI h
  exact zq

theorem Z31w {A:Ar} (hA:SA A) {b c:Int} {m o:List D} {l:Bool} (h:Z31 A b c m o=some l):ACall Tryz.prog 31 [.d (.agg [.int .i64 b,.int .i64 c,.list 1 m,.list 1 o])] [] (.d (.bool l)) []:=by
 unfold Z31 at h
 refine zI Tryz.func31 ?_
 refine zs ?_
 refine zA ?_
 refine nT (zs ?_)
 obtain ⟨s,a,h⟩:=bindS h
 refine AWp.cutN [2] [] 0 (lb rfl) (fun τ=>τ={ env:=[(2,.d (.bool s))],heap:=[],n:=35 }) ?_ ?_
 ·skip
  refine zn ?_
  rcases tf (A.zle 1 b) with g | g
  ·replace a:=cT g a
   rcases tf (A.zle b 8) with i | i
   ·replace a:=cT i a
    rcases tf (A.zle 1 c) with j | j
    ·replace a:=cT j a
     rcases tf (A.zle c 4) with k | k
     ·replace a:=cT k a
      obtain ⟨r,q,a⟩:=bindS a
      refine zD (Z79w hA q) ?_ { tk:=[34] }
      rcases tf r with e | e
      ·replace a:=cT e a
       obtain ⟨u,p,a⟩:=bindS a
       refine zD (Z79w hA p) ?_ { tk:=[34] }
       refine zF ?_ { tk:=[34] }
       cases soI a
       exact zO
      ·replace a:=cF e a
       refine zF ?_ { tk:=[34] }
       cases soI a
       exact zO
     ·replace a:=cF k a
      refine zF ?_ { tk:=[34] }
      cases soI a
      exact zO
    ·replace a:=cF j a
     refine zF ?_ { tk:=[34] }
     cases soI a
     exact zO
   ·replace a:=cF i a
    refine zF ?_ { tk:=[34] }
    cases soI a
    exact zO
  ·replace a:=cF g a
   refine zF ?_ { tk:=[34] }
   cases soI a
   exact zO
 ·rintro _ rfl
  refine nT (zr ?_)
  cases soI h
  exact zq

theorem Z100w {A:Ar} (hA:SA A) {e g:Int} {i j k:List D} {c:Bool} (h:Z100 A e g i j k=some c):ACall Tryz.prog 100 [.d (.agg [.int .i64 e,.int .i64 g,.list 1 i,.list 1 j]),zl 1 k] [] (.d (.bool c)) []:=by
 unfold Z100 at h
 refine zI Tryz.func100 ?_
 refine zs ?_
 refine zA ?_
 refine nT (zs ?_)
 obtain ⟨o,a,h⟩:=bindS h
 refine AWp.cutN [4] [] 0 (lb rfl) (fun τ=>τ={ env:=[(4,.d (.bool o))],heap:=[],n:=14 }) ?_ ?_
 ·skip
  refine zn ?_
  obtain ⟨m,l,a⟩:=bindS a
  refine zC (Z31w hA l) ?_ { tk:=[13] }
  rcases tf m with b | b
  ·replace a:=cT b a
   refine zF ?_ { tk:=[13] }
   cases soI a
   exact zO
  ·replace a:=cF b a
   refine zF ?_ { tk:=[13] }
   cases soI a
   exact zO
 ·rintro _ rfl
  refine nT (zr ?_)
  cases soI h
  exact zq

theorem Z32w {A:Ar} (hA:SA A) {j g:List D} {s:Bool} (h:Z32 A j g=some s):ACall Tryz.prog 32 [zl 1 j,zl 1 g] [] (.d (.bool s)) []:=by
 unfold Z32 at h
 refine zI Tryz.func32 ?_
 refine zs ?_
 refine zA ?_
 refine nT (zs (zs (zn ?_)))
 obtain ⟨K,z,h⟩:=bindS h
 refine zC (Z77w hA z) ?_
 refine zE ?_
 refine nT ?_
 rcases tf K with o | o
 ·replace h:=cT o h
  refine zU ?_
  refine zk (nT (zs (zs ?_)))
  refine zB ?_
  refine nT (zb ?_)
  obtain ⟨U,J,y,q,c⟩:=bindK h
  refine AWp.cutX 0 [] [] 0 (lb rfl) (fun τ=>y (.inl ())=some s/\τ={ env:=[],heap:=[],n:=44 }) ?_ ?_
  ·skip
   refine AWp.iter J [0,1,5] [] 0 (lb rfl) (fun i=>{ env:=[(0,zl 1 j),(1,zl 1 g),(5,zi i)],heap:=[],n:=44 }) ⟨rfl,zv⟩ ?_
   rintro i F b
   dsimp only [Z32L1] at b
   refine zs (zs ?_)
   refine zA ?_
   refine nT ?_
   rcases tf (A.zlt i (A.len g)) with k | k
   ·replace b:=cT k b
    refine zT ?_
    refine zk (nT (zs (zb (zs (zs ?_)))))
    obtain ⟨u,B,b⟩:=bindS b
    obtain ⟨O,P⟩:=gtI B
    refine zB ?_
    refine nT ?_
    rcases tf (A.zlt 3 (A.len u)) with l | l
    ·replace b:=cT l b
     refine zT ?_
     refine zs ?_
     refine zB ?_
     refine nT (zr (rT (rB (rT (rT ?_)))))
     refine exL b fun hx => ?_
     subst hx
     refine oxR ?_
     replace c:=(eR (q _ c))
     refine rB (rT ?_)
     cases soI c
     exact zq
    ·replace b:=cF l b
     refine zU ?_
     refine zk (nT (zs ?_))
     refine zB ?_
     refine nT (zb ?_)
     obtain ⟨S,G,w,v,e⟩:=bindK b
     refine AWp.cutX 2 [0,1,5] [] 0 (lb rfl) (fun τ=>w (.inl ())=some F/\τ={ env:=[(0,zl 1 j),(1,zl 1 g),(5,zi i)],heap:=[],n:=44 }) ?_ ?_
     ·skip
      refine AWp.iter G [0,1,5,6] [] 0 (lb rfl) (fun r=>{ env:=[(0,zl 1 j),(1,zl 1 g),(5,zi i),(6,zi r)],heap:=[],n:=44 }) ⟨rfl,zv⟩ ?_
      rintro r N a
      dsimp only [Z32L0] at a
      refine zs (zs ?_)
      refine zB ?_
      refine nT ?_
      rcases tf (A.zlt r (A.len u)) with m | m
      ·replace a:=cT m a
       refine zT ?_
       refine zk (nT (zs (zb (zs (zn ?_)))))
       obtain ⟨M,C,a⟩:=bindS a
       obtain ⟨Q,R⟩:=gtI C
       obtain ⟨L,E,a⟩:=bindS a
       refine zD (Z77w hA E) ?_
       refine zF ?_
       refine nT ?_
       rcases tf L with p | p
       ·replace a:=cT p a
        refine zU ?_
        refine zk (nB (nT ?_))
        refine zB ?_
        exact nT ⟨_,(soI a).symm,rfl,zv⟩
       ·replace a:=cF p a
        refine zT ?_
        refine zs ?_
        refine zB ?_
        refine nT (zr (rB (rT (rT ?_))))
        refine exL a fun hx => ?_
        subst hx
        refine oxR ?_
        replace e:=(eR (v _ e))
        refine rB (rB (rT (rT ?_)))
        refine exL e fun hx => ?_
        subst hx
        refine oxR ?_
        replace c:=(eR (q _ c))
        refine rB (rT ?_)
        cases soI c
        exact zq
      ·replace a:=cF m a
       refine zU ?_
       refine AWp.exit (xT (xT ?_))
       refine exL a fun hx => ?_
       subst hx
       exact oxI ⟨rfl,e,zv⟩
     ·rintro _ ⟨e,rfl⟩
      have b:=(eL (v _ e))
      refine xB (nB (nT ?_))
      refine zA ?_
      exact nT ⟨_,(soI b).symm,rfl,zc⟩
   ·replace b:=cF k b
    refine zU ?_
    refine AWp.exit (xT (xT ?_))
    refine exL b fun hx => ?_
    subst hx
    exact oxI ⟨rfl,c,zv⟩
  ·rintro _ ⟨c,rfl⟩
   have h:=(eL (q _ c))
   refine xB (nT (zs ?_))
   refine zA ?_
   refine nT (zr ?_)
   cases soI h
   exact zq
 ·replace h:=cF o h
  refine zT ?_
  refine zs ?_
  refine zB ?_
  refine nT (zr (rT ?_))
  cases soI h
  exact zq

theorem Z67w {A:Ar} (hA:SA A) {e g:List D} {c:Int} (h:Z67 A e g=some c):ACall Tryz.prog 67 [zl 1 e,zl 1 g] [] (zi c) []:=by
 unfold Z67 at h
 refine zI Tryz.func67 ?_
 refine zs ?_
 refine zA ?_
 refine nT (zs (zs (zn ?_)))
 obtain ⟨k,i,h⟩:=bindS h
 refine zC (Z30w hA i) ?_
 refine zE ?_
 refine nT ?_
 rcases tf k with a | a
 ·replace h:=cT a h
  refine zU ?_
  refine zk (nT (zs (zs (zn ?_))))
  obtain ⟨l,j,h⟩:=bindS h
  refine zD (Z32w hA j) ?_
  refine zF ?_
  refine nT ?_
  rcases tf l with b | b
  ·replace h:=cT b h
   refine zU ?_
   refine zk (nT (zs ?_))
   refine zB ?_
   refine nT (zr ?_)
   cases soI h
   exact zq
  ·replace h:=cF b h
   refine zT ?_
   refine zs ?_
   refine zB ?_
   refine nT (zr (rT ?_))
   cases soI h
   exact zq
 ·replace h:=cF a h
  refine zT ?_
  refine zs ?_
  refine zB ?_
  refine nT (zr (rT ?_))
  cases soI h
  exact zq

theorem Z60w {A:Ar} (hA:SA A) {k l:Int} {m o e g:List D} {j:Int} (h:Z60 A k l m o e g=some j):ACall Tryz.prog 60 [.d (.agg [.int .i64 k,.int .i64 l,.list 1 m,.list 1 o]),zl 1 e,zl 1 g] [] (zi j) []:=by
 unfold Z60 at h
 refine zI Tryz.func60 ?_
 refine zs ?_
 refine zA ?_
 refine nT (zs (zs ?_))
 obtain ⟨i,a,h⟩:=bindS h
 refine AWp.cutN [1,2,14] [] 0 (lb rfl) (fun τ=>τ={ env:=[(1,zl 1 e),(2,zl 1 g),(14,.d (.bool i))],heap:=[],n:=18 }) ?_ ?_
 ·skip
  refine zn ?_
  obtain ⟨s,r,a⟩:=bindS a
  refine zC (Z30w hA r) ?_
  rcases tf s with c | c
  ·replace a:=cT c a
   obtain ⟨u,p,a⟩:=bindS a
   refine zD (Z100w hA p) ?_
   refine zF ?_
   cases soI a
   exact zO
  ·replace a:=cF c a
   refine zF ?_
   cases soI a
   exact zO
 ·rintro _ rfl
  refine nT ?_
  rcases tf i with b | b
  ·replace h:=cT b h
   refine zT ?_
   refine zs ?_
   refine zB ?_
   refine nT (zr (rT ?_))
   cases soI h
   exact zq
  ·replace h:=cF b h
   refine zU ?_
   refine zk (nT (zs (zn ?_)))
   obtain ⟨v,q,h⟩:=bindS h
   refine zD (Z67w hA q) ?_ { tk:=[17] }
   refine zF ?_ { tk:=[17] }
   refine nT (zr ?_)
   cases soI h
   exact zq
end Go.Am
