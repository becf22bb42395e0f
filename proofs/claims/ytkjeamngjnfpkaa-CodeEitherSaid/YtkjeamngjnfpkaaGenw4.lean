/- Own text: Genw4. -/
import Derived.Test.YtkjeamngjnfpkaaGenw3
set_option maxRecDepth 100000
set_option maxHeartbeats 2000000
set_option linter.unusedVariables false
set_option linter.unusedSimpArgs false
namespace Go.Am
open Go Go.Proofs
theorem K128Bw {A:Ar} (hA:SA A) {self123:Int->Int->Int->(List (D×D))->List D->List D->(Option (Int×List (D×D)))} (B : ∀ {c e g:Int} {i:List (D×D)} {a b:List D} {s:Int} {u:List (D×D)},self123 c e g i a b=some (s,u)->ACall Try.prog 128 [.ptr 1 0,.d (.agg [.int .u8 c,.int .i64 e,.int .i64 g])] [(.map true [.int .u8,.int .i64,.int .i64] i),(.cells [zl 4 a,zl 6 b,(.func 127 [] []),(.map 0)])] (zi s) [(.map true [.int .u8,.int .i64,.int .i64] u),(.cells [zl 4 a,zl 6 b,(.func 127 [] []),(.map 0)])]) {c e g:Int} {i:List (D×D)} {a b:List D} {q:Int} {r:List (D×D)} (h:K128B A self123 c e g i a b=some (q,r)):ACall Try.prog 128 [.ptr 1 0,.d (.agg [.int .u8 c,.int .i64 e,.int .i64 g])] [(.map true [.int .u8,.int .i64,.int .i64] i),(.cells [zl 4 a,zl 6 b,(.func 127 [] []),(.map 0)])] (zi q) [(.map true [.int .u8,.int .i64,.int .i64] r),(.cells [zl 4 a,zl 6 b,(.func 127 [] []),(.map 0)])]:=by
 unfold K128B at h
 refine ACall.enterT hT (fn:=Try.f128) Try.func128 rfl (by decide) (by simp [Try.f128]) rfl rfl rfl rfl (lb rfl) ?_
 refine AWpT.seq ?_
 refine AWpT.of ?_
 refine zA ?_ { esc:=[2] }
 refine nT ?_
 refine AWpT.seq ?_
 refine AWpT.of ?_
 refine zs ?_
 obtain ⟨⟨J,p⟩,k,h⟩:=bindS h
 refine AWp.cutN [2,3,5,6] [] 3 (lb rfl) (fun τ=>τ={ env:=[(2,.ptr 2 0),(3,(.lbox [.d (.int .u8 c),zi e,zi g])),(5,zi J),(6,.d (.bool p))],heap:=[(.map true [.int .u8,.int .i64,.int .i64] i),(.cells [zl 4 a,zl 6 b,(.func 127 [] []),(.map 0)]),.cells [.ptr 1 0]],n:=41 }) ?_ ?_
 ·skip
  obtain ⟨C,o,k⟩:=bindS k
  rcases C with _ | L
  ·have z:=lkN o
   refine AWp.rd hT hA { tk:=[17] } rfl zu (by kernel_rfl) (lb rfl) ?_
   cases soI k
   exact zO
  ·have z:=lkS o
   refine AWp.rd hT hA { tk:=[17] } rfl zu (by kernel_rfl) (lb rfl) ?_
   cases soI k
   exact zO
 ·rintro _ rfl
  refine nT (zs ?_)
  refine zA ?_
  refine nT ?_
  rcases tf p with l | l
  ·replace h:=cT l h
   refine zT ?_
   refine zs ?_
   refine zB ?_ { tk:=[5,20] }
   refine nT (zr (rT ?_))
   cases soI h
   exact zq
  ·replace h:=cF l h
   refine zU ?_
   refine zk (nT ?_)
   refine AWpT.seq ?_
   refine AWpT.of ?_
   refine zB ?_ { esc:=[7] }
   refine nT ?_
   refine AWpT.seq ?_
   refine AWpT.of ?_
   refine zs (zn ?_)
   obtain ⟨E,v,h⟩:=bindS h
   refine zD (K148aw hA v) ?_
   refine zF ?_
   refine nT ?_
   obtain ⟨K,j,h⟩:=bindS h
   refine AWp.cutN [2,3,7] [] 4 (lb rfl) (fun τ=>τ={ env:=[(2,.ptr 2 0),(3,(.lbox [.d (.int .u8 c),zi e,zi g])),(7,.ptr 3 0)],heap:=[(.map true [.int .u8,.int .i64,.int .i64] i),(.cells [zl 4 a,zl 6 b,(.func 127 [] []),(.map 0)]),.cells [.ptr 1 0],.cells [zi K]],n:=41 }) ?_ ?_
   ·skip
    rcases tf E with m | m
    ·replace j:=cT m j
     refine zT ?_
     refine zB ?_
     cases soI j
     exact zO
    ·replace j:=cF m j
     refine zU ?_
     refine zk ?_
     cases soI j
     exact zO
   ·rintro _ rfl
    refine nT ?_
    refine AWpT.seq ?_
    refine AWpT.seq ?_
    refine AWpT.of ?_
    refine zn ?_
    obtain ⟨⟨M,N,O⟩,w,h⟩:=bindS h
    refine zC (K149cw hA w) ?_
    refine zE ?_
    refine nT ?_
    refine AWpT.block ?_
    obtain ⟨⟨F,G⟩,y,h⟩:=bindS h
    refine AWpT.rangeFunc [2,7] (H':=[(.map true [.int .u8,.int .i64,.int .i64] F),(.cells [zl 4 a,zl 6 b,(.func 127 [] []),(.map 0)]),.cells [.ptr 1 0],.cells [zi G],.cells [.ptr 1 0],(.loop { st := .ready,pending:=none,env:=[(2,.ptr 2 0),(7,.ptr 3 0)],n:=41,params := #[27,28],assign:=KA128r0,body:=KB128r0 })]) rfl (lb rfl) rfl rfl rfl (K171aw hA B y) (st := .ready) (by decide) rfl ?_
    refine bN ?_
    refine nB (nT ?_)
    refine AWpT.of ?_
    refine zs ?_
    refine AWp.rd hT hA {} rfl zc (by kernel_rfl) (lb rfl) ?_
    refine nT (zs ?_)
    refine zA ?_ { tk:=[40] }
    refine nT (zr ?_)
    cases soI h
    exact zq

theorem K128Rw {A:Ar} (hA:SA A) : ∀ (n:Nat) {g i j:Int} {k:List (D×D)} {a b:List D} {c:Int} {e:List (D×D)},K128R A n g i j k a b=some (c,e)->ACall Try.prog 128 [.ptr 1 0,.d (.agg [.int .u8 g,.int .i64 i,.int .i64 j])] [(.map true [.int .u8,.int .i64,.int .i64] k),(.cells [zl 4 a,zl 6 b,(.func 127 [] []),(.map 0)])] (zi c) [(.map true [.int .u8,.int .i64,.int .i64] e),(.cells [zl 4 a,zl 6 b,(.func 127 [] []),(.map 0)])]
 | 0,_,_,_,_,_,_,_,_,h=>by cases h
 | n+1,_,_,_,_,_,_,_,_,h=>K128Bw hA (fun h=>K128Rw hA n h) h

theorem K128w {A:Ar} (hA:SA A) {g i j:Int} {k:List (D×D)} {a b:List D} {c:Int} {e:List (D×D)} (h:K128 A g i j k a b=some (c,e)):ACall Try.prog 128 [.ptr 1 0,.d (.agg [.int .u8 g,.int .i64 i,.int .i64 j])] [(.map true [.int .u8,.int .i64,.int .i64] k),(.cells [zl 4 a,zl 6 b,(.func 127 [] []),(.map 0)])] (zi c) [(.map true [.int .u8,.int .i64,.int .i64] e),(.cells [zl 4 a,zl 6 b,(.func 127 [] []),(.map 0)])]:=K128Rw hA fuel h

theorem K88w {A:Ar} (hA:SA A) {e g:List D} {b c:Int} (h:K88 A e g=some (b,c)):ACall Try.prog 88 [zl 4 e,zl 6 g] [] (.tuple [zi b,zi c]) []:=by
 unfold K88 at h
 refine zI Try.func88 ?_
 refine zs ?_
 refine zA ?_
 refine nT (zs (zs (zn ?_)))
 obtain ⟨l,i,h⟩:=bindS h
 refine zC (K125w hA i) ?_
 refine zE ?_
 refine nT (zs ?_)
 refine zA ?_
 refine nT ?_
 rcases tf (A.zeq l 0) with a | a
 ·replace h:=cT a h
  refine zU ?_
  refine zk (nT (zs (zn ?_)))
  obtain ⟨⟨o,p⟩,j,h⟩:=bindS h
  refine zD (K126w hA j) ?_
  obtain ⟨⟨m,n⟩,k,h⟩:=bindS h
  refine zD (K128w hA k) ?_
  refine zF ?_
  refine nT (zr ?_)
  cases soI h
  exact zq
 ·replace h:=cF a h
  refine zT ?_
  refine zs ?_
  refine zB ?_
  refine nT (zr (rT ?_))
  cases soI h
  exact zq

theorem K35w {A:Ar} (hA:SA A) {c e:List D} {a:Bool} {b:Int} (h:K35 A c e=some (a,b)):ACall Try.prog 35 [zl 4 c,zl 6 e] [] (.tuple [.d (.bool a),zi b]) []:=by
 unfold K35 at h
 refine zI Try.func35 ?_
 refine zs ?_
 refine zA ?_
 refine nT (zs (zn ?_))
 obtain ⟨⟨i,j⟩,g,h⟩:=bindS h
 refine zC (K88w hA g) ?_
 refine zE ?_
 refine nT (zs ?_)
 refine zA ?_
 refine nT (zr ?_)
 cases soI h
 exact zq

theorem K87w {A:Ar} (hA:SA A) {e g:Int} {i j k:List D} {c:Bool} (h:K87 A e g i j k=some c):ACall Try.prog 87 [.d (.agg [.int .i64 e,.int .i64 g,.list 1 i,.list 1 j]),zl 6 k] [] (.d (.bool c)) []:=by
 unfold K87 at h
 refine zI Try.func87 ?_
 refine zs ?_
 refine zA ?_
 refine nT (zs (zn ?_))
 obtain ⟨⟨p,m⟩,l,h⟩:=bindS h
 refine zC (K35w hA l) ?_
 refine zE ?_
 refine nT (zs ?_)
 obtain ⟨o,a,h⟩:=bindS h
 refine AWp.cutN [4] [] 0 (lb rfl) (fun τ=>τ={ env:=[(4,.d (.bool o))],heap:=[],n:=19 }) ?_ ?_
 ·skip
  rcases tf (A.zeq m 0) with b | b
  ·replace a:=cT b a
   refine zB ?_ { tk:=[18] }
   cases soI a
   exact zO
  ·replace a:=cF b a
   refine zB ?_ { tk:=[18] }
   cases soI a
   exact zO
 ·rintro _ rfl
  refine nT (zr ?_)
  cases soI h
  exact zq

theorem K86w {A:Ar} (hA:SA A) {m B:List D} {N O P Q R S U o p q r s u v w y z C:Int} {b E F:List D} {G J:Int} {K L:List D} {M:List (D×D)} {c:List D} {j:Bool} {k:List (D×D)} {l:List D} (h:K86 A m B N O P Q R S U o p q r s u v w y z C b E F G J K L M c=some (j,k,l)):ACall Try.prog 86 [.d (.ref [.list 1 m,.list 1 B,.int .i64 N,.int .i64 O,.int .i64 P,.int .i64 Q,.int .i64 R,.int .i64 S,.int .i64 U,.int .i64 o,.int .i64 p,.int .i64 q,.int .i64 r,.int .i64 s,.int .i64 u,.int .i64 v,.int .i64 w,.int .i64 y,.int .i64 z,.int .i64 C,.list 6 b,.list 1 E]),zl 1 F,.ptr 0 0,.iptr [.int .i64 G,.int .i64 J,.list 1 K,.list 1 L],.ptr 2 0] [(.cells [(.map 1)]),(.map true [.int .i64,.int .i64,.int .i64,.int .i64,.int .i64,.int .i64,.int .i64,.int .i64,.int .i64,.int .i64,.int .i64,.int .i64,.int .i64,.int .i64,.int .i64,.int .i64,.int .i64,.int .i64,.int .i64,.int .i64,.int .i64,.int .i64,.int .i64,.int .i64,.int .i64,.int .i64,.int .i64,.int .i64,.int .i64,.int .i64,.int .i64,.int .i64,.int .i64,.int .i64,.int .i64,.int .i64] M),.cells [zl 1 c]] (.d (.bool j)) [(.cells [(.map 1)]),(.map true [.int .i64,.int .i64,.int .i64,.int .i64,.int .i64,.int .i64,.int .i64,.int .i64,.int .i64,.int .i64,.int .i64,.int .i64,.int .i64,.int .i64,.int .i64,.int .i64,.int .i64,.int .i64,.int .i64,.int .i64,.int .i64,.int .i64,.int .i64,.int .i64,.int .i64,.int .i64,.int .i64,.int .i64,.int .i64,.int .i64,.int .i64,.int .i64,.int .i64,.int .i64,.int .i64,.int .i64] k),.cells [zl 1 l]]:=by
 unfold K86 at h
 refine zI Try.func86 ?_
 refine zs ?_
 refine zA ?_
 refine nT (zs ?_)
 refine zA ?_ { arr:=[8] }
 refine nT (zs ?_)
 obtain ⟨_,Y,h⟩:=bindS h
 have o0:=ckI Y
 obtain ⟨_,a0,h⟩:=bindS h
 have p0:=ckI a0
 refine AWp.rd hT hA {} rfl zu (by kernel_rfl) (lb rfl) ?_
 refine nT (zs (zs ?_))
 obtain ⟨W,a,h⟩:=bindS h
 refine AWp.cutN [0,1,2,3,4,8,18] [] 4 (lb rfl) (fun τ=>τ={ env:=[(0,.d (.ref [.list 1 m,.list 1 B,.int .i64 N,.int .i64 O,.int .i64 P,.int .i64 Q,.int .i64 R,.int .i64 S,.int .i64 U,.int .i64 o,.int .i64 p,.int .i64 q,.int .i64 r,.int .i64 s,.int .i64 u,.int .i64 v,.int .i64 w,.int .i64 y,.int .i64 z,.int .i64 C,.list 6 b,.list 1 E])),(1,zl 1 F),(2,.ptr 0 0),(3,.iptr [.int .i64 G,.int .i64 J,.list 1 K,.list 1 L]),(4,.ptr 2 0),(8,.ptr 3 0),(18,.d (.bool W))],heap:=[(.cells [(.map 1)]),(.map true [.int .i64,.int .i64,.int .i64,.int .i64,.int .i64,.int .i64,.int .i64,.int .i64,.int .i64,.int .i64,.int .i64,.int .i64,.int .i64,.int .i64,.int .i64,.int .i64,.int .i64,.int .i64,.int .i64,.int .i64,.int .i64,.int .i64,.int .i64,.int .i64,.int .i64,.int .i64,.int .i64,.int .i64,.int .i64,.int .i64,.int .i64,.int .i64,.int .i64,.int .i64,.int .i64,.int .i64] M),.cells [zl 1 c],(.arr 1 (A.spl (A.rep (Int.ofNat 36) (.int .i64 0)) (A.zmul 0 (Int.ofNat 6)) (A.flat b)))],n:=29 }) ?_ ?_
 ·skip
  obtain ⟨a1,b0,a⟩:=bindS a
  obtain ⟨q0,r0,s0⟩:=gaI b0
  obtain ⟨_,d0,a⟩:=bindS a
  have u0:=ckI d0
  obtain ⟨l0,V,a⟩:=bindS a
  rcases l0 with _ | n0
  ·have j0:=lkN V
   refine zB ?_
   cases soI a
   exact zO
  ·have j0:=lkS V
   refine zB ?_
   cases soI a
   exact zO
 ·rintro _ rfl
  refine nT ?_
  obtain ⟨X,k0,h⟩:=jnI h
  refine AWp.cutN [] [] 4 (lb rfl) (fun τ => ∃ i,X i=some (j,k,l)/\τ={ env:=[],heap:=[(.cells [(.map 1)]),(.map true [.int .i64,.int .i64,.int .i64,.int .i64,.int .i64,.int .i64,.int .i64,.int .i64,.int .i64,.int .i64,.int .i64,.int .i64,.int .i64,.int .i64,.int .i64,.int .i64,.int .i64,.int .i64,.int .i64,.int .i64,.int .i64,.int .i64,.int .i64,.int .i64,.int .i64,.int .i64,.int .i64,.int .i64,.int .i64,.int .i64,.int .i64,.int .i64,.int .i64,.int .i64,.int .i64,.int .i64] i),.cells [zl 1 c],(.arr 1 (A.spl (A.rep (Int.ofNat 36) (.int .i64 0)) (A.zmul 0 (Int.ofNat 6)) (A.flat b)))],n:=29 }) ?_ ?_
  ·skip
   rcases tf W with e | e
   ·replace h:=cT e h
    refine zT ?_
    refine zs (zs ?_)
    refine AWp.regionDraw rfl (lb rfl) ?_
    obtain ⟨m0,e0,h⟩:=bindS h
    refine DOps.c0 hT hA {} rfl zu (K87w hA e0) rfl rfl (lb rfl) rfl rfl ?_
    refine DOps.cd hT hA {} rfl zu (by kernel_rfl) ?_
    refine nT ?_
    rcases tf m0 with g | g
    ·replace h:=cT g h
     refine zU ?_
     refine zk (nT ?_)
     obtain ⟨b1,g0,h⟩:=bindS h
     obtain ⟨v0,w0,y0⟩:=gaI g0
     obtain ⟨_,i0,h⟩:=bindS h
     have z0:=ckI i0
     refine zB ?_
     exact oNi ⟨rfl,_,h,zv⟩
    ·replace h:=cF g h
     refine zT ?_
     refine zs ?_
     refine zB ?_ { tk:=[1,26] }
     refine nT (zs ?_)
     refine zB ?_
     refine nT (zr (rT ?_))
     refine oNr ?_
     refine rT ?_
     cases soI h
     exact zq
   ·replace h:=cF e h
    refine zU ?_
    refine zk ?_
    exact oNi ⟨rfl,_,h,zv⟩
  ·rintro _ ⟨i,h,rfl⟩
   replace h:=k0 _ h
   refine nT (zs ?_)
   refine zA ?_
   refine nT (zr ?_)
   cases soI h
   exact zq

theorem K85eBw {A:Ar} (hA:SA A) {self136:List D->List D->Int->Int->Int->Int->Int->Int->Int->Int->Int->Int->Int->Int->Int->Int->Int->Int->Int->Int->List D->List D->Int->List D->List D->Int->Int->List D->List D->(List (D×D))->List D->(Option (Bool×List (D×D)×List D))} (y0 : ∀ {b q:List D} {v w y z B C E c e g i j k l m o p r:Int} {s u:List D} {F:Int} {G J:List D} {K L:Int} {M N:List D} {O:List (D×D)} {P:List D} {y1:Bool} {y2:List (D×D)} {y3:List D},self136 b q v w y z B C E c e g i j k l m o p r s u F G J K L M N O P=some (y1,y2,y3)->ACall Try.prog 85 [.d (.agg [.list 1 b,.list 1 q,.int .i64 v,.int .i64 w,.int .i64 y,.int .i64 z,.int .i64 B,.int .i64 C,.int .i64 E,.int .i64 c,.int .i64 e,.int .i64 g,.int .i64 i,.int .i64 j,.int .i64 k,.int .i64 l,.int .i64 m,.int .i64 o,.int .i64 p,.int .i64 r,.list 6 s,.list 1 u]),zi F,zl 1 G,zl 1 J,(.func 86 [] [.ptr 0 0,.iptr [.int .i64 K,.int .i64 L,.list 1 M,.list 1 N],.ptr 2 0])] [(.cells [(.map 1)]),(.map true [.int .i64,.int .i64,.int .i64,.int .i64,.int .i64,.int .i64,.int .i64,.int .i64,.int .i64,.int .i64,.int .i64,.int .i64,.int .i64,.int .i64,.int .i64,.int .i64,.int .i64,.int .i64,.int .i64,.int .i64,.int .i64,.int .i64,.int .i64,.int .i64,.int .i64,.int .i64,.int .i64,.int .i64,.int .i64,.int .i64,.int .i64,.int .i64,.int .i64,.int .i64,.int .i64,.int .i64] O),.cells [zl 1 P]] (.d (.bool y1)) [(.cells [(.map 1)]),(.map true [.int .i64,.int .i64,.int .i64,.int .i64,.int .i64,.int .i64,.int .i64,.int .i64,.int .i64,.int .i64,.int .i64,.int .i64,.int .i64,.int .i64,.int .i64,.int .i64,.int .i64,.int .i64,.int .i64,.int .i64,.int .i64,.int .i64,.int .i64,.int .i64,.int .i64,.int .i64,.int .i64,.int .i64,.int .i64,.int .i64,.int .i64,.int .i64,.int .i64,.int .i64,.int .i64,.int .i64] y2),.cells [zl 1 y3]]) {b q:List D} {v w y z B C E c e g i j k l m o p r:Int} {s u:List D} {F:Int} {G J:List D} {K L:Int} {M N:List D} {O:List (D×D)} {P:List D} {e0:Bool} {g0:List (D×D)} {i0:List D} (h:K85eB A self136 b q v w y z B C E c e g i j k l m o p r s u F G J K L M N O P=some (e0,g0,i0)):ACall Try.prog 85 [.d (.agg [.list 1 b,.list 1 q,.int .i64 v,.int .i64 w,.int .i64 y,.int .i64 z,.int .i64 B,.int .i64 C,.int .i64 E,.int .i64 c,.int .i64 e,.int .i64 g,.int .i64 i,.int .i64 j,.int .i64 k,.int .i64 l,.int .i64 m,.int .i64 o,.int .i64 p,.int .i64 r,.list 6 s,.list 1 u]),zi F,zl 1 G,zl 1 J,(.func 86 [] [.ptr 0 0,.iptr [.int .i64 K,.int .i64 L,.list 1 M,.list 1 N],.ptr 2 0])] [(.cells [(.map 1)]),(.map true [.int .i64,.int .i64,.int .i64,.int .i64,.int .i64,.int .i64,.int .i64,.int .i64,.int .i64,.int .i64,.int .i64,.int .i64,.int .i64,.int .i64,.int .i64,.int .i64,.int .i64,.int .i64,.int .i64,.int .i64,.int .i64,.int .i64,.int .i64,.int .i64,.int .i64,.int .i64,.int .i64,.int .i64,.int .i64,.int .i64,.int .i64,.int .i64,.int .i64,.int .i64,.int .i64,.int .i64] O),.cells [zl 1 P]] (.d (.bool e0)) [(.cells [(.map 1)]),(.map true [.int .i64,.int .i64,.int .i64,.int .i64,.int .i64,.int .i64,.int .i64,.int .i64,.int .i64,.int .i64,.int .i64,.int .i64,.int .i64,.int .i64,.int .i64,.int .i64,.int .i64,.int .i64,.int .i64,.int .i64,.int .i64,.int .i64,.int .i64,.int .i64,.int .i64,.int .i64,.int .i64,.int .i64,.int .i64,.int .i64,.int .i64,.int .i64,.int .i64,.int .i64,.int .i64,.int .i64] g0),.cells [zl 1 i0]]:=by
 unfold K85eB at h
 refine zI Try.func85 ?_
 refine zs ?_
 refine zA ?_ { esc:=[5] }
 refine nT (zs (zn ?_))
 obtain ⟨S,u0,h⟩:=bindS h
 refine zC (ACall.emb (K56w hA u0) [some 3] [(.cells [(.map 1)]),(.map true [.int .i64,.int .i64,.int .i64,.int .i64,.int .i64,.int .i64,.int .i64,.int .i64,.int .i64,.int .i64,.int .i64,.int .i64,.int .i64,.int .i64,.int .i64,.int .i64,.int .i64,.int .i64,.int .i64,.int .i64,.int .i64,.int .i64,.int .i64,.int .i64,.int .i64,.int .i64,.int .i64,.int .i64,.int .i64,.int .i64,.int .i64,.int .i64,.int .i64,.int .i64,.int .i64,.int .i64] O),.cells [zl 1 P],.cells [zl 1 b,zl 1 q,zi v,zi w,zi y,zi z,zi B,zi C,zi E,zi c,zi e,zi g,zi i,zi j,zi k,zi l,zi m,zi o,zi p,zi r,zl 6 s,zl 1 u]] rfl rfl rfl rfl rfl rfl rfl) ?_
 refine zE ?_
 refine nT (zs (zs ?_))
 obtain ⟨k0,R,h⟩:=bindS h
 refine AWp.cutW (fun τ=>τ={ env:=[(1,zi F),(2,zl 1 G),(3,zl 1 J),(4,(.func 86 [] [.ptr 0 0,.iptr [.int .i64 K,.int .i64 L,.list 1 M,.list 1 N],.ptr 2 0])),(5,.ptr 3 0),(11,zl 1 S),(24,.d (.bool k0))],heap:=[(.cells [(.map 1)]),(.map true [.int .i64,.int .i64,.int .i64,.int .i64,.int .i64,.int .i64,.int .i64,.int .i64,.int .i64,.int .i64,.int .i64,.int .i64,.int .i64,.int .i64,.int .i64,.int .i64,.int .i64,.int .i64,.int .i64,.int .i64,.int .i64,.int .i64,.int .i64,.int .i64,.int .i64,.int .i64,.int .i64,.int .i64,.int .i64,.int .i64,.int .i64,.int .i64,.int .i64,.int .i64,.int .i64,.int .i64] O),.cells [zl 1 P],.cells [zl 1 b,zl 1 q,zi v,zi w,zi y,zi z,zi B,zi C,zi E,zi c,zi e,zi g,zi i,zi j,zi k,zi l,zi m,zi o,zi p,zi r,zl 6 s,zl 1 u]],n:=55 }) ?_ ?_
 ·skip
  rcases tf (A.zeq (A.len S) 0) with Y | Y
  ·replace R:=cT Y R
   refine zB ?_
   cases soI R
   exact oWi ⟨_,zR [some 0,some 1,some 2,some 3] [1,2,3,4,5,11,24],rfl⟩
  ·replace R:=cF Y R
   refine zB ?_
   cases soI R
   exact oWi ⟨_,zR [some 0,some 1,some 2,some 3] [1,2,3,4,5,11,24],rfl⟩
 ·rintro _ rfl
  refine nT ?_
  rcases tf k0 with a0 | a0
  ·replace h:=cT a0 h
   refine zT ?_
   refine zs ?_
   refine AWp.weak (Wk.freezeObj 3 [5] (ds:=[.list 1 b,.list 1 q,.int .i64 v,.int .i64 w,.int .i64 y,.int .i64 z,.int .i64 B,.int .i64 C,.int .i64 E,.int .i64 c,.int .i64 e,.int .i64 g,.int .i64 i,.int .i64 j,.int .i64 k,.int .i64 l,.int .i64 m,.int .i64 o,.int .i64 p,.int .i64 r,.list 6 s,.list 1 u]) rfl rfl) ?_
   refine zn ?_
   obtain ⟨⟨u3,v3,w3⟩,v0,h⟩:=bindS h
   refine zD (K86w hA v0) ?_ { tk:=[27] }
   refine zF ?_ { tk:=[27] }
   refine nT (zr (rT ?_))
   cases soI h
   exact zq
  ·replace h:=cF a0 h
   refine zU ?_
   refine zk (nT (zs (zs ?_)))
   refine zB ?_
   refine nT (zb ?_)
   obtain ⟨z3,w0,l0,j0,Q⟩:=bindK h
   refine AWp.cutX 0 [] [] 4 (lb rfl) (fun τ => ∃ c0 d0,l0 (.inl (c0,d0))=some (e0,g0,i0)/\τ={ env:=[],heap:=[(.cells [(.map 1)]),(.map true [.int .i64,.int .i64,.int .i64,.int .i64,.int .i64,.int .i64,.int .i64,.int .i64,.int .i64,.int .i64,.int .i64,.int .i64,.int .i64,.int .i64,.int .i64,.int .i64,.int .i64,.int .i64,.int .i64,.int .i64,.int .i64,.int .i64,.int .i64,.int .i64,.int .i64,.int .i64,.int .i64,.int .i64,.int .i64,.int .i64,.int .i64,.int .i64,.int .i64,.int .i64,.int .i64,.int .i64] c0),.cells [zl 1 d0],.cells [zl 1 b,zl 1 q,zi v,zi w,zi y,zi z,zi B,zi C,zi E,zi c,zi e,zi g,zi i,zi j,zi k,zi l,zi m,zi o,zi p,zi r,zl 6 s,zl 1 u]],n:=55 }) ?_ ?_
   ·skip
    refine AWp.iter w0 [1,2,3,4,5,28,29,30] [] 4 (lb rfl) (fun (b0,U,V)=>{ env:=[(1,zi F),(2,zl 1 G),(3,zl 1 J),(4,(.func 86 [] [.ptr 0 0,.iptr [.int .i64 K,.int .i64 L,.list 1 M,.list 1 N],.ptr 2 0])),(5,.ptr 3 0),(28,zl 1 S),(29,(.d (.int .i64 (A.len S)))),(30,zi b0)],heap:=[(.cells [(.map 1)]),(.map true [.int .i64,.int .i64,.int .i64,.int .i64,.int .i64,.int .i64,.int .i64,.int .i64,.int .i64,.int .i64,.int .i64,.int .i64,.int .i64,.int .i64,.int .i64,.int .i64,.int .i64,.int .i64,.int .i64,.int .i64,.int .i64,.int .i64,.int .i64,.int .i64,.int .i64,.int .i64,.int .i64,.int .i64,.int .i64,.int .i64,.int .i64,.int .i64,.int .i64,.int .i64,.int .i64,.int .i64] U),.cells [zl 1 V],.cells [zl 1 b,zl 1 q,zi v,zi w,zi y,zi z,zi B,zi C,zi E,zi c,zi e,zi g,zi i,zi j,zi k,zi l,zi m,zi o,zi p,zi r,zl 6 s,zl 1 u]],n:=55 }) ⟨rfl,zv⟩ ?_
    rintro ⟨b0,U,V⟩ c2 a
    dsimp only [K85eL0] at a
    refine zs ?_
    refine zA ?_
    refine nT (zs ?_)
    rcases tf (A.zlt b0 (A.len S)) with W | W
    ·replace a:=cT W a
     refine zT ?_
     refine zk (nT (zs (zb (zs ?_))))
     obtain ⟨b2,m0,a⟩:=bindS a
     obtain ⟨d2,e2⟩:=gtI m0
     refine zB ?_
     refine nT (zs (zn ?_))
     obtain ⟨⟨z0,a1,b1,c1,d1,e1,g1,i1,j1,k1,l1,m1,n1,o1,p1,q1,r1,s1,u1,v1,w1,z1⟩,n0,a⟩:=bindS a
     refine zD (ACall.shift (K124w hA n0) rfl rfl [(.cells [(.map 1)]),(.map true [.int .i64,.int .i64,.int .i64,.int .i64,.int .i64,.int .i64,.int .i64,.int .i64,.int .i64,.int .i64,.int .i64,.int .i64,.int .i64,.int .i64,.int .i64,.int .i64,.int .i64,.int .i64,.int .i64,.int .i64,.int .i64,.int .i64,.int .i64,.int .i64,.int .i64,.int .i64,.int .i64,.int .i64,.int .i64,.int .i64,.int .i64,.int .i64,.int .i64,.int .i64,.int .i64,.int .i64] U),.cells [zl 1 V],.cells [zl 1 b,zl 1 q,zi v,zi w,zi y,zi z,zi B,zi C,zi E,zi c,zi e,zi g,zi i,zi j,zi k,zi l,zi m,zi o,zi p,zi r,zl 6 s,zl 1 u]] rfl rfl rfl rfl) ?_ { tk:=[35],esc:=[14] }
     refine zF ?_ { tk:=[35],esc:=[14] }
     refine nT (zs (zn ?_))
     obtain ⟨⟨q2,r2,s2,u2,v2,w2,z2,a3,b3,c3,d3,e3,g3,i3,j3,k3,l3,m3,n3,o3,p3,q3⟩,o0,a⟩:=bindS a
     refine zD (ACall.emb (K71w hA o0) [some 10,some 4,some 5,some 6,some 7,some 8,some 9] [(.cells [(.map 1)]),(.map true [.int .i64,.int .i64,.int .i64,.int .i64,.int .i64,.int .i64,.int .i64,.int .i64,.int .i64,.int .i64,.int .i64,.int .i64,.int .i64,.int .i64,.int .i64,.int .i64,.int .i64,.int .i64,.int .i64,.int .i64,.int .i64,.int .i64,.int .i64,.int .i64,.int .i64,.int .i64,.int .i64,.int .i64,.int .i64,.int .i64,.int .i64,.int .i64,.int .i64,.int .i64,.int .i64,.int .i64] U),.cells [zl 1 V],.cells [zl 1 b,zl 1 q,zi v,zi w,zi y,zi z,zi B,zi C,zi E,zi c,zi e,zi g,zi i,zi j,zi k,zi l,zi m,zi o,zi p,zi r,zl 6 s,zl 1 u],.gro 6 w1,.dead,.dead,.gro 1 z1,.dead,.dead,.cells [zl 1 z0,zl 1 a1,zi b1,zi c1,zi d1,zi e1,zi g1,zi i1,zi j1,zi k1,zi l1,zi m1,zi n1,zi o1,zi p1,zi q1,zi r1,zi s1,zi u1,zi v1,.gref 4 6,.gref 7 1]] rfl rfl rfl rfl rfl rfl rfl) ?_
     refine zF ?_
     refine nT (zs ?_)
     refine AWp.weak (Wk.freezeG 10 20 rfl rfl rfl) ?_
     refine AWp.weak (Wk.freezeG 10 21 rfl rfl rfl) ?_
     refine AWp.regionDraw rfl (lb rfl) ?_
     obtain ⟨o2,p0,a⟩:=bindS a
     obtain ⟨g2,i2,j2,k2⟩:=slI p0
     obtain ⟨_,q0,a⟩:=bindS a
     have l2:=ckI q0
     obtain ⟨p2,r0,a⟩:=bindS a
     obtain ⟨m2,n2⟩:=apI r0
     obtain ⟨⟨a2,r3,s3⟩,s0,a⟩:=bindS a
     refine DOps.cl hT hA {} rfl zu (y0 s0) rfl rfl rfl rfl rfl (lb rfl) rfl rfl ?_
     refine DOps.cd hT hA {} rfl zu (by kernel_rfl) ?_
     refine nT ?_
     rcases tf a2 with X | X
     ·replace a:=cT X a
      refine zU ?_
      refine zk (nB (nT ?_))
      refine zB ?_
      exact nT ⟨_,(soI a).symm,rfl,zv⟩
     ·replace a:=cF X a
      refine zT ?_
      refine zs ?_
      refine zB ?_
      refine nT (zr (rB (rT (rT ?_))))
      refine exL a fun hx => ?_
      subst hx
      refine oxR ?_
      replace Q:=(eR (j0 _ Q))
      refine rB (rT ?_)
      cases soI Q
      exact zq
    ·replace a:=cF W a
     refine zU ?_
     refine AWp.exit (xT (xT ?_))
     refine exL a fun hx => ?_
     subst hx
     exact oxI ⟨rfl,_,_,Q,zv⟩
   ·rintro _ ⟨c0,d0,Q,rfl⟩
    have h:=(eL (j0 _ Q))
    refine xB (nT (zs ?_))
    refine zA ?_
    refine nT (zr ?_)
    cases soI h
    exact zq

theorem K85eRw {A:Ar} (hA:SA A) : ∀ (n:Nat) {e s:List D} {J M N O P Q R g i j k l m o p q r u:Int} {v w:List D} {y:Int} {z B:List D} {C E:Int} {F G:List D} {K:List (D×D)} {L:List D} {a:Bool} {b:List (D×D)} {c:List D},K85eR A n e s J M N O P Q R g i j k l m o p q r u v w y z B C E F G K L=some (a,b,c)->ACall Try.prog 85 [.d (.agg [.list 1 e,.list 1 s,.int .i64 J,.int .i64 M,.int .i64 N,.int .i64 O,.int .i64 P,.int .i64 Q,.int .i64 R,.int .i64 g,.int .i64 i,.int .i64 j,.int .i64 k,.int .i64 l,.int .i64 m,.int .i64 o,.int .i64 p,.int .i64 q,.int .i64 r,.int .i64 u,.list 6 v,.list 1 w]),zi y,zl 1 z,zl 1 B,(.func 86 [] [.ptr 0 0,.iptr [.int .i64 C,.int .i64 E,.list 1 F,.list 1 G],.ptr 2 0])] [(.cells [(.map 1)]),(.map true [.int .i64,.int .i64,.int .i64,.int .i64,.int .i64,.int .i64,.int .i64,.int .i64,.int .i64,.int .i64,.int .i64,.int .i64,.int .i64,.int .i64,.int .i64,.int .i64,.int .i64,.int .i64,.int .i64,.int .i64,.int .i64,.int .i64,.int .i64,.int .i64,.int .i64,.int .i64,.int .i64,.int .i64,.int .i64,.int .i64,.int .i64,.int .i64,.int .i64,.int .i64,.int .i64,.int .i64] K),.cells [zl 1 L]] (.d (.bool a)) [(.cells [(.map 1)]),(.map true [.int .i64,.int .i64,.int .i64,.int .i64,.int .i64,.int .i64,.int .i64,.int .i64,.int .i64,.int .i64,.int .i64,.int .i64,.int .i64,.int .i64,.int .i64,.int .i64,.int .i64,.int .i64,.int .i64,.int .i64,.int .i64,.int .i64,.int .i64,.int .i64,.int .i64,.int .i64,.int .i64,.int .i64,.int .i64,.int .i64,.int .i64,.int .i64,.int .i64,.int .i64,.int .i64,.int .i64] b),.cells [zl 1 c]]
 | 0,_,_,_,_,_,_,_,_,_,_,_,_,_,_,_,_,_,_,_,_,_,_,_,_,_,_,_,_,_,_,_,_,_,_,h=>by cases h
 | n+1,_,_,_,_,_,_,_,_,_,_,_,_,_,_,_,_,_,_,_,_,_,_,_,_,_,_,_,_,_,_,_,_,_,_,h=>K85eBw hA (fun h=>K85eRw hA n h) h

theorem K85ew {A:Ar} (hA:SA A) {e r:List D} {G L M N O P Q g i j k l m n o p q s:Int} {u v:List D} {w:Int} {y z:List D} {B C:Int} {E F:List D} {J:List (D×D)} {K:List D} {a:Bool} {b:List (D×D)} {c:List D} (h:K85e A e r G L M N O P Q g i j k l m n o p q s u v w y z B C E F J K=some (a,b,c)):ACall Try.prog 85 [.d (.agg [.list 1 e,.list 1 r,.int .i64 G,.int .i64 L,.int .i64 M,.int .i64 N,.int .i64 O,.int .i64 P,.int .i64 Q,.int .i64 g,.int .i64 i,.int .i64 j,.int .i64 k,.int .i64 l,.int .i64 m,.int .i64 n,.int .i64 o,.int .i64 p,.int .i64 q,.int .i64 s,.list 6 u,.list 1 v]),zi w,zl 1 y,zl 1 z,(.func 86 [] [.ptr 0 0,.iptr [.int .i64 B,.int .i64 C,.list 1 E,.list 1 F],.ptr 2 0])] [(.cells [(.map 1)]),(.map true [.int .i64,.int .i64,.int .i64,.int .i64,.int .i64,.int .i64,.int .i64,.int .i64,.int .i64,.int .i64,.int .i64,.int .i64,.int .i64,.int .i64,.int .i64,.int .i64,.int .i64,.int .i64,.int .i64,.int .i64,.int .i64,.int .i64,.int .i64,.int .i64,.int .i64,.int .i64,.int .i64,.int .i64,.int .i64,.int .i64,.int .i64,.int .i64,.int .i64,.int .i64,.int .i64,.int .i64] J),.cells [zl 1 K]] (.d (.bool a)) [(.cells [(.map 1)]),(.map true [.int .i64,.int .i64,.int .i64,.int .i64,.int .i64,.int .i64,.int .i64,.int .i64,.int .i64,.int .i64,.int .i64,.int .i64,.int .i64,.int .i64,.int .i64,.int .i64,.int .i64,.int .i64,.int .i64,.int .i64,.int .i64,.int .i64,.int .i64,.int .i64,.int .i64,.int .i64,.int .i64,.int .i64,.int .i64,.int .i64,.int .i64,.int .i64,.int .i64,.int .i64,.int .i64,.int .i64] b),.cells [zl 1 c]]:=K85eRw hA fuel h

theorem K85dw {A:Ar} (hA:SA A) {b q:List D} {s w y z B C E c e g i j k l m o p r O:Int} {P Q:List D} {R S:Int} {U V M:List D} {N:List (D×D)} {u v:List D} {e0:Bool} {g0:List D} {i0:List (D×D)} (h:K85d A b q s w y z B C E c e g i j k l m o p r O P Q R S U V M N u v=some (e0,g0,i0)):ACall Try.prog 85 [.agg [zl 1 b,zl 1 q,zi s,zi w,zi y,zi z,zi B,zi C,zi E,zi c,zi e,zi g,zi i,zi j,zi k,zi l,zi m,zi o,zi p,zi r,.gref 3 6,.gref 6 1],zi O,zl 1 P,zl 1 Q,(.func 86 [] [.ptr 2 0,.iptr [.int .i64 R,.int .i64 S,.list 1 U,.list 1 V],.ptr 0 0])] [.cells [zl 1 M],(.map true [.int .i64,.int .i64,.int .i64,.int .i64,.int .i64,.int .i64,.int .i64,.int .i64,.int .i64,.int .i64,.int .i64,.int .i64,.int .i64,.int .i64,.int .i64,.int .i64,.int .i64,.int .i64,.int .i64,.int .i64,.int .i64,.int .i64,.int .i64,.int .i64,.int .i64,.int .i64,.int .i64,.int .i64,.int .i64,.int .i64,.int .i64,.int .i64,.int .i64,.int .i64,.int .i64,.int .i64] N),(.cells [(.map 1)]),.gro 6 u,.dead,.dead,.gro 1 v,.dead,.dead] (.d (.bool e0)) [.cells [zl 1 g0],(.map true [.int .i64,.int .i64,.int .i64,.int .i64,.int .i64,.int .i64,.int .i64,.int .i64,.int .i64,.int .i64,.int .i64,.int .i64,.int .i64,.int .i64,.int .i64,.int .i64,.int .i64,.int .i64,.int .i64,.int .i64,.int .i64,.int .i64,.int .i64,.int .i64,.int .i64,.int .i64,.int .i64,.int .i64,.int .i64,.int .i64,.int .i64,.int .i64,.int .i64,.int .i64,.int .i64,.int .i64] i0),(.cells [(.map 1)]),.dead,.dead,.dead,.dead,.dead,.dead]:=by
 unfold K85d at h
 refine zI Try.func85 ?_
 refine zs ?_
 refine zA ?_ { esc:=[5] }
 refine nT ?_
 refine AWp.weak (Wk.freezeG 9 20 rfl rfl rfl) ?_
 refine AWp.weak (Wk.freezeG 9 21 rfl rfl rfl) ?_
 refine zs (zn ?_)
 obtain ⟨J,u0,h⟩:=bindS h
 refine zC (ACall.emb (K56w hA u0) [some 9] [.cells [zl 1 M],(.map true [.int .i64,.int .i64,.int .i64,.int .i64,.int .i64,.int .i64,.int .i64,.int .i64,.int .i64,.int .i64,.int .i64,.int .i64,.int .i64,.int .i64,.int .i64,.int .i64,.int .i64,.int .i64,.int .i64,.int .i64,.int .i64,.int .i64,.int .i64,.int .i64,.int .i64,.int .i64,.int .i64,.int .i64,.int .i64,.int .i64,.int .i64,.int .i64,.int .i64,.int .i64,.int .i64,.int .i64] N),(.cells [(.map 1)]),.dead,.dead,.dead,.dead,.dead,.dead,.cells [zl 1 b,zl 1 q,zi s,zi w,zi y,zi z,zi B,zi C,zi E,zi c,zi e,zi g,zi i,zi j,zi k,zi l,zi m,zi o,zi p,zi r,zl 6 u,zl 1 v]] rfl rfl rfl rfl rfl rfl rfl) ?_
 refine zE ?_
 refine nT (zs (zs ?_))
 obtain ⟨k0,G,h⟩:=bindS h
 refine AWp.cutN [1,2,3,4,5,11,24] [] 10 (lb rfl) (fun τ=>τ={ env:=[(1,zi O),(2,zl 1 P),(3,zl 1 Q),(4,(.func 86 [] [.ptr 2 0,.iptr [.int .i64 R,.int .i64 S,.list 1 U,.list 1 V],.ptr 0 0])),(5,.ptr 9 0),(11,zl 1 J),(24,.d (.bool k0))],heap:=[.cells [zl 1 M],(.map true [.int .i64,.int .i64,.int .i64,.int .i64,.int .i64,.int .i64,.int .i64,.int .i64,.int .i64,.int .i64,.int .i64,.int .i64,.int .i64,.int .i64,.int .i64,.int .i64,.int .i64,.int .i64,.int .i64,.int .i64,.int .i64,.int .i64,.int .i64,.int .i64,.int .i64,.int .i64,.int .i64,.int .i64,.int .i64,.int .i64,.int .i64,.int .i64,.int .i64,.int .i64,.int .i64,.int .i64] N),(.cells [(.map 1)]),.dead,.dead,.dead,.dead,.dead,.dead,.cells [zl 1 b,zl 1 q,zi s,zi w,zi y,zi z,zi B,zi C,zi E,zi c,zi e,zi g,zi i,zi j,zi k,zi l,zi m,zi o,zi p,zi r,zl 6 u,zl 1 v]],n:=55 }) ?_ ?_
 ·skip
  rcases tf (A.zeq (A.len J) 0) with Y | Y
  ·replace G:=cT Y G
   refine zB ?_
   cases soI G
   exact zO
  ·replace G:=cF Y G
   refine zB ?_
   cases soI G
   exact zO
 ·rintro _ rfl
  refine nT ?_
  rcases tf k0 with a0 | a0
  ·replace h:=cT a0 h
   refine zT ?_
   refine zs ?_
   refine AWp.weak (Wk.freezeObj 9 [5] (ds:=[.list 1 b,.list 1 q,.int .i64 s,.int .i64 w,.int .i64 y,.int .i64 z,.int .i64 B,.int .i64 C,.int .i64 E,.int .i64 c,.int .i64 e,.int .i64 g,.int .i64 i,.int .i64 j,.int .i64 k,.int .i64 l,.int .i64 m,.int .i64 o,.int .i64 p,.int .i64 r,.list 6 u,.list 1 v]) rfl rfl) ?_
   refine zn ?_
   obtain ⟨⟨q3,r3,s3⟩,v0,h⟩:=bindS h
   refine zD (ACall.emb (K86w hA v0) [some 2,some 1,some 0] [.cells [zl 1 M],(.map true [.int .i64,.int .i64,.int .i64,.int .i64,.int .i64,.int .i64,.int .i64,.int .i64,.int .i64,.int .i64,.int .i64,.int .i64,.int .i64,.int .i64,.int .i64,.int .i64,.int .i64,.int .i64,.int .i64,.int .i64,.int .i64,.int .i64,.int .i64,.int .i64,.int .i64,.int .i64,.int .i64,.int .i64,.int .i64,.int .i64,.int .i64,.int .i64,.int .i64,.int .i64,.int .i64,.int .i64] N),(.cells [(.map 1)]),.dead,.dead,.dead,.dead,.dead,.dead,.dead] rfl rfl rfl rfl rfl rfl rfl) ?_ { tk:=[27] }
   refine zF ?_ { tk:=[27] }
   refine nT (zr (rT ?_))
   cases soI h
   exact zq
  ·replace h:=cF a0 h
   refine zU ?_
   refine zk (nT (zs (zs ?_)))
   refine zB ?_
   refine nT (zb ?_)
   obtain ⟨u3,w0,l0,j0,F⟩:=bindK h
   refine AWp.cutX 0 [] [] 10 (lb rfl) (fun τ => ∃ c0 d0,l0 (.inl (c0,d0))=some (e0,g0,i0)/\τ={ env:=[],heap:=[.cells [zl 1 c0],(.map true [.int .i64,.int .i64,.int .i64,.int .i64,.int .i64,.int .i64,.int .i64,.int .i64,.int .i64,.int .i64,.int .i64,.int .i64,.int .i64,.int .i64,.int .i64,.int .i64,.int .i64,.int .i64,.int .i64,.int .i64,.int .i64,.int .i64,.int .i64,.int .i64,.int .i64,.int .i64,.int .i64,.int .i64,.int .i64,.int .i64,.int .i64,.int .i64,.int .i64,.int .i64,.int .i64,.int .i64] d0),(.cells [(.map 1)]),.dead,.dead,.dead,.dead,.dead,.dead,.cells [zl 1 b,zl 1 q,zi s,zi w,zi y,zi z,zi B,zi C,zi E,zi c,zi e,zi g,zi i,zi j,zi k,zi l,zi m,zi o,zi p,zi r,zl 6 u,zl 1 v]],n:=55 }) ?_ ?_
   ·skip
    refine AWp.iter w0 [1,2,3,4,5,28,29,30] [] 10 (lb rfl) (fun (b0,K,L)=>{ env:=[(1,zi O),(2,zl 1 P),(3,zl 1 Q),(4,(.func 86 [] [.ptr 2 0,.iptr [.int .i64 R,.int .i64 S,.list 1 U,.list 1 V],.ptr 0 0])),(5,.ptr 9 0),(28,zl 1 J),(29,(.d (.int .i64 (A.len J)))),(30,zi b0)],heap:=[.cells [zl 1 K],(.map true [.int .i64,.int .i64,.int .i64,.int .i64,.int .i64,.int .i64,.int .i64,.int .i64,.int .i64,.int .i64,.int .i64,.int .i64,.int .i64,.int .i64,.int .i64,.int .i64,.int .i64,.int .i64,.int .i64,.int .i64,.int .i64,.int .i64,.int .i64,.int .i64,.int .i64,.int .i64,.int .i64,.int .i64,.int .i64,.int .i64,.int .i64,.int .i64,.int .i64,.int .i64,.int .i64,.int .i64] L),(.cells [(.map 1)]),.dead,.dead,.dead,.dead,.dead,.dead,.cells [zl 1 b,zl 1 q,zi s,zi w,zi y,zi z,zi B,zi C,zi E,zi c,zi e,zi g,zi i,zi j,zi k,zi l,zi m,zi o,zi p,zi r,zl 6 u,zl 1 v]],n:=55 }) ⟨rfl,zv⟩ ?_
    rintro ⟨b0,K,L⟩ a3 a
    dsimp only [K85dL0] at a
    refine zs ?_
    refine zA ?_
    refine nT (zs ?_)
    rcases tf (A.zlt b0 (A.len J)) with W | W
    ·replace a:=cT W a
     refine zT ?_
     refine zk (nT (zs (zb (zs ?_))))
     obtain ⟨z2,m0,a⟩:=bindS a
     obtain ⟨b3,c3⟩:=gtI m0
     refine zB ?_
     refine nT (zs (zn ?_))
     obtain ⟨⟨y0,z0,a1,b1,c1,d1,e1,g1,i1,j1,k1,l1,m1,n1,o1,p1,q1,r1,s1,u1,v1,w1⟩,n0,a⟩:=bindS a
     refine zD (ACall.shift (K124w hA n0) rfl rfl [.cells [zl 1 K],(.map true [.int .i64,.int .i64,.int .i64,.int .i64,.int .i64,.int .i64,.int .i64,.int .i64,.int .i64,.int .i64,.int .i64,.int .i64,.int .i64,.int .i64,.int .i64,.int .i64,.int .i64,.int .i64,.int .i64,.int .i64,.int .i64,.int .i64,.int .i64,.int .i64,.int .i64,.int .i64,.int .i64,.int .i64,.int .i64,.int .i64,.int .i64,.int .i64,.int .i64,.int .i64,.int .i64,.int .i64] L),(.cells [(.map 1)]),.dead,.dead,.dead,.dead,.dead,.dead,.cells [zl 1 b,zl 1 q,zi s,zi w,zi y,zi z,zi B,zi C,zi E,zi c,zi e,zi g,zi i,zi j,zi k,zi l,zi m,zi o,zi p,zi r,zl 6 u,zl 1 v]] rfl rfl rfl rfl) ?_ { tk:=[35],esc:=[14] }
     refine zF ?_ { tk:=[35],esc:=[14] }
     refine nT (zs (zn ?_))
     obtain ⟨⟨y1,z1,a2,b2,c2,d2,e2,g2,i2,j2,k2,l2,m2,n2,o2,p2,q2,r2,s2,u2,v2,w2⟩,o0,a⟩:=bindS a
     refine zD (ACall.emb (K71w hA o0) [some 16,some 10,some 11,some 12,some 13,some 14,some 15] [.cells [zl 1 K],(.map true [.int .i64,.int .i64,.int .i64,.int .i64,.int .i64,.int .i64,.int .i64,.int .i64,.int .i64,.int .i64,.int .i64,.int .i64,.int .i64,.int .i64,.int .i64,.int .i64,.int .i64,.int .i64,.int .i64,.int .i64,.int .i64,.int .i64,.int .i64,.int .i64,.int .i64,.int .i64,.int .i64,.int .i64,.int .i64,.int .i64,.int .i64,.int .i64,.int .i64,.int .i64,.int .i64,.int .i64] L),(.cells [(.map 1)]),.dead,.dead,.dead,.dead,.dead,.dead,.cells [zl 1 b,zl 1 q,zi s,zi w,zi y,zi z,zi B,zi C,zi E,zi c,zi e,zi g,zi i,zi j,zi k,zi l,zi m,zi o,zi p,zi r,zl 6 u,zl 1 v],.gro 6 v1,.dead,.dead,.gro 1 w1,.dead,.dead,.cells [zl 1 y0,zl 1 z0,zi a1,zi b1,zi c1,zi d1,zi e1,zi g1,zi i1,zi j1,zi k1,zi l1,zi m1,zi n1,zi o1,zi p1,zi q1,zi r1,zi s1,zi u1,.gref 10 6,.gref 13 1]] rfl rfl rfl rfl rfl rfl rfl) ?_
     refine zF ?_
     refine nT (zs ?_)
     refine AWp.weak (Wk.freezeG 16 20 rfl rfl rfl) ?_
     refine AWp.weak (Wk.freezeG 16 21 rfl rfl rfl) ?_
     refine AWp.regionDraw rfl (lb rfl) ?_
     obtain ⟨m3,p0,a⟩:=bindS a
     obtain ⟨d3,e3,g3,i3⟩:=slI p0
     obtain ⟨_,q0,a⟩:=bindS a
     have j3:=ckI q0
     obtain ⟨n3,r0,a⟩:=bindS a
     obtain ⟨k3,l3⟩:=apI r0
     obtain ⟨⟨y2,o3,p3⟩,s0,a⟩:=bindS a
     refine DOps.cl hT hA {} rfl zu (ACall.emb (K85ew hA s0) [some 2,some 1,some 0] [.cells [zl 1 K],(.map true [.int .i64,.int .i64,.int .i64,.int .i64,.int .i64,.int .i64,.int .i64,.int .i64,.int .i64,.int .i64,.int .i64,.int .i64,.int .i64,.int .i64,.int .i64,.int .i64,.int .i64,.int .i64,.int .i64,.int .i64,.int .i64,.int .i64,.int .i64,.int .i64,.int .i64,.int .i64,.int .i64,.int .i64,.int .i64,.int .i64,.int .i64,.int .i64,.int .i64,.int .i64,.int .i64,.int .i64] L),(.cells [(.map 1)]),.dead,.dead,.dead,.dead,.dead,.dead,.cells [zl 1 b,zl 1 q,zi s,zi w,zi y,zi z,zi B,zi C,zi E,zi c,zi e,zi g,zi i,zi j,zi k,zi l,zi m,zi o,zi p,zi r,zl 6 u,zl 1 v],.dead,.dead,.dead,.dead,.dead,.dead,.cells [zl 1 y1,zl 1 z1,zi a2,zi b2,zi c2,zi d2,zi e2,zi g2,zi i2,zi j2,zi k2,zi l2,zi m2,zi n2,zi o2,zi p2,zi q2,zi r2,zi s2,zi u2,zl 6 v2,zl 1 w2],.dead,.dead,.dead,.dead,.dead,.dead] rfl rfl rfl rfl rfl rfl rfl) rfl rfl rfl rfl rfl (lb rfl) rfl rfl ?_
     refine DOps.cd hT hA {} rfl zu (by kernel_rfl) ?_
     refine nT ?_
     rcases tf y2 with X | X
     ·replace a:=cT X a
      refine zU ?_
      refine zk (nB (nT ?_))
      refine zB ?_
      exact nT ⟨_,(soI a).symm,rfl,zv⟩
     ·replace a:=cF X a
      refine zT ?_
      refine zs ?_
      refine zB ?_
      refine nT (zr (rB (rT (rT ?_))))
      refine exL a fun hx => ?_
      subst hx
      refine oxR ?_
      replace F:=(eR (j0 _ F))
      refine rB (rT ?_)
      cases soI F
      exact zq
    ·replace a:=cF W a
     refine zU ?_
     refine AWp.exit (xT (xT ?_))
     refine exL a fun hx => ?_
     subst hx
     exact oxI ⟨rfl,_,_,F,zv⟩
   ·rintro _ ⟨c0,d0,F,rfl⟩
    have h:=(eL (j0 _ F))
    refine xB (nT (zs ?_))
    refine zA ?_
    refine nT (zr ?_)
    cases soI h
    exact zq

theorem K33w {A:Ar} (hA:SA A) {e g:Int} {i j m n:List D} {o:Int} {k:List D} {l:Int} (h:K33 A e g i j m n o=some (k,l)):ACall Try.prog 33 [.d (.agg [.int .i64 e,.int .i64 g,.list 1 i,.list 1 j]),zl 1 m,zl 1 n,zi o] [] (.tuple [zl 1 k,zi l]) []:=by
 unfold K33 at h
 refine zI Try.func33 ?_
 refine zs ?_
 refine zA ?_
 refine nT ?_
 refine AWp.freezeBox 4 [.int .i64 e,.int .i64 g,.list 1 i,.list 1 j] rfl rfl ?_
 refine zs (zs (zn ?_))
 obtain ⟨y,u,h⟩:=bindS h
 refine zC (K68w hA u) ?_
 refine zE ?_
 refine nT (zb (zs ?_))
 refine zA ?_
 refine nT ?_
 rcases tf (A.zeq y 0) with a | a
 ·replace h:=cT a h
  refine zU ?_
  refine zs (zn ?_)
  obtain ⟨v,p,h⟩:=bindS h
  refine zD (K84w hA p) ?_
  refine zF ?_
  refine nT ?_
  rcases tf v with b | b
  ·replace h:=cT b h
   refine zU ?_
   refine zk (nB (nT (zs ?_)))
   refine zB ?_ { esc:=[11] }
   refine nT (zs ?_)
   refine zB ?_ { tk:=[26],esc:=[12] }
   refine nT (zs ?_)
   refine AWp.weak (Wk.softC 0 0 rfl rfl rfl) ?_
   refine zn ?_
   obtain ⟨⟨z,B⟩,q,h⟩:=bindS h
   refine zD (ACall.shift (K69w hA q) rfl rfl [(.cells [.d (.list 1 [])]),(.map true [.int .i64,.int .i64,.int .i64,.int .i64,.int .i64,.int .i64,.int .i64,.int .i64,.int .i64,.int .i64,.int .i64,.int .i64,.int .i64,.int .i64,.int .i64,.int .i64,.int .i64,.int .i64,.int .i64,.int .i64,.int .i64,.int .i64,.int .i64,.int .i64,.int .i64,.int .i64,.int .i64,.int .i64,.int .i64,.int .i64,.int .i64,.int .i64,.int .i64,.int .i64,.int .i64,.int .i64] []),(.cells [(.map 1)])] rfl rfl rfl rfl) ?_
   obtain ⟨⟨w,C,E⟩,r,h⟩:=bindS h
   refine zD (K85dw hA r) ?_
   refine zF ?_
   refine nT (zs (zs ?_))
   refine zB ?_
   refine nT ?_
   rcases tf w with c | c
   ·replace h:=cT c h
    refine zT ?_
    refine zs ?_
    refine zB ?_
    refine nT (zr (rT ?_))
    cases soI h
    exact zq
   ·replace h:=cF c h
    refine zU ?_
    refine zk (nT (zs (zn ?_)))
    obtain ⟨F,s,h⟩:=bindS h
    refine zD (K54w hA s) ?_
    refine zF ?_
    refine nT (zr ?_)
    cases soI h
    exact zq
  ·replace h:=cF b h
   refine zT ?_
   refine zs ?_
   refine zB ?_
   refine nT (zr (rB (rT ?_)))
   cases soI h
   exact zq
 ·replace h:=cF a h
  refine zT ?_
  refine zs ?_
  refine zB ?_
  refine nT (zr (rB (rT ?_)))
  cases soI h
  exact zq

theorem K32w {A:Ar} (hA:SA A) {e g:Int} {i j k l:List D} {m:Int} {b:Bool} {c:Int} (h:K32 A e g i j k l m=some (b,c)):ACall Try.prog 32 [.d (.agg [.int .i64 e,.int .i64 g,.list 1 i,.list 1 j]),zl 1 k,zl 1 l,zi m] [] (.tuple [.d (.bool b),zi c]) []:=by
 unfold K32 at h
 refine zI Try.func32 ?_
 refine zs ?_
 refine zA ?_
 refine nT (zs (zn ?_))
 obtain ⟨⟨p,o⟩,n,h⟩:=bindS h
 refine zC (K33w hA n) ?_
 refine zE ?_
 refine nT (zs (zs ?_))
 refine zA ?_
 refine nT ?_
 rcases tf (A.zeq o 5) with a | a
 ·replace h:=cT a h
  refine zT ?_
  refine zs ?_
  refine zB ?_
  refine nT (zr (rT ?_))
  cases soI h
  exact zq
 ·replace h:=cF a h
  refine zU ?_
  refine zk (nT (zs ?_))
  refine zB ?_
  refine nT (zr ?_)
  cases soI h
  exact zq

theorem K34w {A:Ar} (hA:SA A) {j k:Int} {l m o p q:List D} {g:Bool} {i:Int} (h:K34 A j k l m o p q=some (g,i)):ACall Try.prog 34 [.d (.agg [.int .i64 j,.int .i64 k,.list 1 l,.list 1 m]),zl 1 o,zl 1 p,zl 1 q] [] (.tuple [.d (.bool g),zi i]) []:=by
 unfold K34 at h
 refine zI Try.func34 ?_
 refine zs ?_
 refine zA ?_
 refine nT (zs (zs (zn ?_)))
 obtain ⟨v,u,h⟩:=bindS h
 refine zC (K68w hA u) ?_
 refine zE ?_
 refine nT (zs ?_)
 refine zA ?_
 refine nT ?_
 rcases tf (A.zeq v 0) with b | b
 ·replace h:=cT b h
  refine zU ?_
  refine zk (nT (zs (zn ?_)))
  obtain ⟨⟨y,e⟩,r,h⟩:=bindS h
  refine zD (K13w hA r) ?_
  refine zF ?_
  refine nT (zs ?_)
  obtain ⟨w,a,h⟩:=bindS h
  refine AWp.cutN [8,9] [] 0 (lb rfl) (fun τ=>τ={ env:=[(8,.d (.bool w)),(9,zi e)],heap:=[],n:=36 }) ?_ ?_
  ·skip
   refine zn ?_
   rcases tf (A.zeq e 0) with c | c
   ·replace a:=cT c a
    obtain ⟨z,s,a⟩:=bindS a
    refine zD (K87w hA s) ?_
    refine zF ?_
    cases soI a
    exact zO
   ·replace a:=cF c a
    refine zF ?_
    cases soI a
    exact zO
  ·rintro _ rfl
   refine nT (zr ?_)
   cases soI h
   exact zq
 ·replace h:=cF b h
  refine zT ?_
  refine zs ?_
  refine zB ?_
  refine nT (zr (rT ?_))
  cases soI h
  exact zq

theorem K70bw {A:Ar} (hA:SA A) {r G:List D} {M N O P Q R S s u v w y z B C E F J:Int} {K L:List D} {i:Int} {q:Bool} (h:K70b A r G M N O P Q R S s u v w y z B C E F J K L i=some q):ACall Try.prog 70 [.iptr [.list 1 r,.list 1 G,.int .i64 M,.int .i64 N,.int .i64 O,.int .i64 P,.int .i64 Q,.int .i64 R,.int .i64 S,.int .i64 s,.int .i64 u,.int .i64 v,.int .i64 w,.int .i64 y,.int .i64 z,.int .i64 B,.int .i64 C,.int .i64 E,.int .i64 F,.int .i64 J,.list 6 K,.list 1 L],zi i] [] (.d (.bool q)) []:=by
 unfold K70b at h
 refine zI Try.func70 ?_
 refine zs ?_
 refine zA ?_
 refine nT (zs ?_)
 obtain ⟨i0,a,h⟩:=bindS h
 refine AWp.cutN [4] [] 0 (lb rfl) (fun τ=>τ={ env:=[(4,.d (.bool i0))],heap:=[],n:=31 }) ?_ ?_
 ·skip
  refine AWp.regionDraw rfl (lb rfl) ?_
  obtain ⟨g0,U,a⟩:=bindS a
  refine DOps.c0 hT hA { tk:=[30] } rfl zc (K47w hA U) rfl rfl (lb rfl) rfl rfl ?_
  rcases tf g0 with b | b
  ·replace a:=cT b a
   rcases tf (A.zeq i 0) with c | c
   ·replace a:=cT c a
    obtain ⟨X,Y,j⟩:=ixF hA (n:=2) c (by decide)
    obtain ⟨j0,V,a⟩:=bindS a
    obtain ⟨a0,k⟩:=gtI V
    have l:=k
    rw [j] at l
    refine DOps.cd hT hA { tk:=[30] } rfl (by (repeat (cbv;simp only [b,X,Y,j,l,a0,k]));try cbv) (by kernel_rfl) ?_
    cases soI a
    exact (zO (g:=(by first | (cbv;done) | ((repeat (cbv;simp only [b]));try cbv))))
   ·replace a:=cF c a
    rcases tf (A.zeq i 1) with e | e
    ·replace a:=cT e a
     obtain ⟨b0,d0,m⟩:=ixF hA (n:=2) e (by decide)
     obtain ⟨k0,W,a⟩:=bindS a
     obtain ⟨e0,o⟩:=gtI W
     have p:=o
     rw [m] at p
     refine DOps.cd hT hA { tk:=[30] } rfl (by (repeat (cbv;simp only [b,b0,d0,m,p,e0,o]));try cbv) (by kernel_rfl) ?_
     cases soI a
     exact (zO (g:=(by first | (cbv;done) | ((repeat (cbv;simp only [b]));try cbv))))
    ·replace a:=cF e a
     cases a
  ·replace a:=cF b a
   refine DOps.cd hT hA { tk:=[30] } rfl (by (repeat (cbv;simp only [b]));try cbv) (by kernel_rfl) ?_
   cases soI a
   exact (zO (g:=(by first | (cbv;done) | ((repeat (cbv;simp only [b]));try cbv))))
 ·rintro _ rfl
  refine nT (zr ?_)
  cases soI h
  exact zq

theorem K56aw {A:Ar} (hA:SA A) {g c:List D} {y z B C E F G i j k l m o p q r s u:Int} {v w N:List D} (h:K56a A g c y z B C E F G i j k l m o p q r s u v w=some N):ACall Try.prog 56 [.iptr [.list 1 g,.list 1 c,.int .i64 y,.int .i64 z,.int .i64 B,.int .i64 C,.int .i64 E,.int .i64 F,.int .i64 G,.int .i64 i,.int .i64 j,.int .i64 k,.int .i64 l,.int .i64 m,.int .i64 o,.int .i64 p,.int .i64 q,.int .i64 r,.int .i64 s,.int .i64 u,.list 6 v,.list 1 w]] [] (.own 1 N) []:=by
 unfold K56a at h
 refine zI Try.func56 ?_
 refine zs ?_
 refine zA ?_
 refine nT (zs ?_)
 refine zA ?_
 refine nT (zs (zs ?_))
 refine zA ?_
 refine nT (zb ?_)
 obtain ⟨c0,U,P,S,L⟩:=bindK h
 refine AWp.cutX 0 [3] [] 0 (lb rfl) (fun τ => ∃ M,P M=some N/\τ={ env:=[(3,(.own 1 M))],heap:=[],n:=22 }) ?_ ?_
 ·skip
  refine AWp.iter U [0,3,9,10] [] 0 (lb rfl) (fun (O,e)=>{ env:=[(0,.iptr [.list 1 g,.list 1 c,.int .i64 y,.int .i64 z,.int .i64 B,.int .i64 C,.int .i64 E,.int .i64 F,.int .i64 G,.int .i64 i,.int .i64 j,.int .i64 k,.int .i64 l,.int .i64 m,.int .i64 o,.int .i64 p,.int .i64 q,.int .i64 r,.int .i64 s,.int .i64 u,.list 6 v,.list 1 w]),(3,(.own 1 O)),(9,(.d (.int .i64 (A.len c)))),(10,zi e)],heap:=[],n:=22 }) ⟨rfl,zc⟩ ?_
  rintro ⟨O,e⟩ X a
  dsimp only [K56aL0] at a
  refine zs ?_
  refine zA ?_
  refine nT (zs ?_)
  rcases tf (A.zlt e (A.len c)) with J | J
  ·replace a:=cT J a
   refine zT ?_
   refine zk (nT (zs (zb (zs ?_))))
   refine zB ?_
   refine nT (zs (zn ?_))
   obtain ⟨V,Q,a⟩:=bindS a
   refine zD (K70bw hA Q) ?_
   refine zF ?_
   refine nT ?_
   obtain ⟨W,b,a⟩:=bindS a
   refine AWp.cutN [0,3,9,10] [] 0 (lb rfl) (fun τ=>τ={ env:=[(0,.iptr [.list 1 g,.list 1 c,.int .i64 y,.int .i64 z,.int .i64 B,.int .i64 C,.int .i64 E,.int .i64 F,.int .i64 G,.int .i64 i,.int .i64 j,.int .i64 k,.int .i64 l,.int .i64 m,.int .i64 o,.int .i64 p,.int .i64 q,.int .i64 r,.int .i64 s,.int .i64 u,.list 6 v,.list 1 w]),(3,(.own 1 W)),(9,(.d (.int .i64 (A.len c)))),(10,zi e)],heap:=[],n:=22 }) ?_ ?_
   ·skip
    rcases tf V with K | K
    ·replace b:=cT K b
     refine zT ?_
     obtain ⟨b0,R,b⟩:=bindS b
     obtain ⟨Y,a0⟩:=apI R
     refine zB ?_ { tk:=[3,19] }
     cases soI b
     exact zO
    ·replace b:=cF K b
     refine zU ?_
     refine zk ?_
     cases soI b
     exact zO
   ·rintro _ rfl
    refine nB (nT ?_)
    refine zA ?_
    exact nT ⟨_,(soI a).symm,rfl,zc⟩
  ·replace a:=cF J a
   refine zU ?_
   refine AWp.exit (xT (xT ?_))
   refine exL a fun hx => ?_
   subst hx
   exact oxI ⟨rfl,_,L,zv⟩
 ·rintro _ ⟨M,L,rfl⟩
  have h:=(S _ L)
  refine xB (nT (zs ?_))
  refine zA ?_ { tk:=[3,21] }
  refine nT (zr ?_)
  cases soI h
  exact zq

theorem K55w {A:Ar} (hA:SA A) {a o:List D} {s u v w y z B b c e g i j k l m n p:Int} {q r C:List D} (h:K55 A a o s u v w y z B b c e g i j k l m n p q r=some C):ACall Try.prog 55 [.d (.agg [.list 1 a,.list 1 o,.int .i64 s,.int .i64 u,.int .i64 v,.int .i64 w,.int .i64 y,.int .i64 z,.int .i64 B,.int .i64 b,.int .i64 c,.int .i64 e,.int .i64 g,.int .i64 i,.int .i64 j,.int .i64 k,.int .i64 l,.int .i64 m,.int .i64 n,.int .i64 p,.list 6 q,.list 1 r])] [] (.own 1 C) []:=by
 unfold K55 at h
 refine zI Try.func55 ?_
 refine zs ?_
 refine zA ?_
 refine nT ?_
 refine AWp.freezeBox 1 [.list 1 a,.list 1 o,.int .i64 s,.int .i64 u,.int .i64 v,.int .i64 w,.int .i64 y,.int .i64 z,.int .i64 B,.int .i64 b,.int .i64 c,.int .i64 e,.int .i64 g,.int .i64 i,.int .i64 j,.int .i64 k,.int .i64 l,.int .i64 m,.int .i64 n,.int .i64 p,.list 6 q,.list 1 r] rfl rfl ?_
 refine zs (zn ?_)
 obtain ⟨F,E,h⟩:=bindS h
 refine zC (K56aw hA E) ?_ { tk:=[3] }
 refine zE ?_ { tk:=[3] }
 refine nT (zr ?_)
 cases soI h
 exact zq

theorem K44aw {A:Ar} (hA:SA A) {g i j c:List D} {e:Int} (h:K44a A g i j=some (c,e)):ACall Try.prog 44 [zl 1 g,zl 1 i,zl 1 j,(.func 55 [] [])] [] (.tuple [zl 1 c,zi e]) []:=by
 unfold K44a at h
 refine zI Try.func44 ?_
 refine zs ?_
 refine zA ?_
 refine nT (zs (zs (zn ?_)))
 obtain ⟨o,l,h⟩:=bindS h
 refine zC (K89w hA l) ?_
 refine zE ?_
 refine nT (zs ?_)
 refine zA ?_
 refine nT ?_
 rcases tf (A.zeq o 0) with b | b
 ·replace h:=cT b h
  refine zU ?_
  refine zk (nT (zs (zn ?_)))
  obtain ⟨⟨Q,R,p,q,r,s,u,v,w,y,z,B,C,E,F,G,J,K,L,M,N,O,n⟩,m,h⟩:=bindS h
  refine zD (K104w hA m) ?_ { tk:=[24] }
  refine zF ?_ { tk:=[24] }
  refine nT (zs (zs ?_))
  refine zB ?_
  refine nT ?_
  rcases tf n with a | a
  ·replace h:=cT a h
   refine zU ?_
   refine zk (nT (zs (zn ?_)))
   obtain ⟨P,k,h⟩:=bindS h
   refine zD (K55w hA k) ?_
   refine zF ?_
   refine nT (zr ?_)
   cases soI h
   exact zq
  ·replace h:=cF a h
   refine zT ?_
   refine zs ?_
   refine zB ?_
   refine nT (zr (rT ?_))
   cases soI h
   exact zq
 ·replace h:=cF b h
  refine zT ?_
  refine zs ?_
  refine zB ?_
  refine nT (zr (rT ?_))
  cases soI h
  exact zq

theorem K20w {A:Ar} (hA:SA A) {c e g a:List D} {b:Int} (h:K20 A c e g=some (a,b)):ACall Try.prog 20 [zl 1 c,zl 1 e,zl 1 g] [] (.tuple [zl 1 a,zi b]) []:=by
 unfold K20 at h
 refine zI Try.func20 ?_
 refine zs ?_
 refine zA ?_
 refine nT (zs (zn ?_))
 obtain ⟨⟨j,k⟩,i,h⟩:=bindS h
 refine zC (K44aw hA i) ?_
 refine zE ?_
 refine nT (zr ?_)
 cases soI h
 exact zq

theorem K24w {A:Ar} (hA:SA A) {i j:Int} {k l m o p:List D} {q:Int} {F:List D} {G J:Bool} (h:K24 A i j k l m o p q=some (F,G,J)):ACall Try.prog 24 [.d (.agg [.int .i64 i,.int .i64 j,.list 1 k,.list 1 l,.list 1 m,.list 1 o]),zl 1 p,zi q] [] (.tuple [zl 1 F,.d (.bool G),.d (.bool J)]) []:=by
 unfold K24 at h
 refine zI Try.func24 ?_
 refine zs ?_
 refine zA ?_
 refine nT (zs (zs ?_))
 refine zA ?_
 refine nT (zb ?_)
 obtain ⟨p0,U,L,r,b⟩:=bindK h
 refine AWp.cutX 0 [3,6] [] 0 (lb rfl) (fun τ => ∃ E,L (.inl E)=some (F,G,J)/\τ={ env:=[(3,(.lbox [zi i,zi j,zl 1 k,zl 1 l,zl 1 m,zl 1 o])),(6,(.own 1 E))],heap:=[],n:=81 }) ?_ ?_
 ·skip
  refine AWp.iter U [1,2,3,6,9] [] 0 (lb rfl) (fun (s,g)=>{ env:=[(1,zl 1 p),(2,zi q),(3,(.lbox [zi i,zi j,zl 1 k,zl 1 l,zl 1 m,zl 1 o])),(6,(.own 1 s)),(9,zi g)],heap:=[],n:=81 }) ⟨rfl,zc⟩ ?_
  rintro ⟨s,g⟩ b0 a
  dsimp only [K24L0] at a
  refine zs (zs ?_)
  refine zA ?_
  refine nT ?_
  rcases tf (A.zlt g q) with u | u
  ·replace a:=cT u a
   refine zT ?_
   refine zk (nT (zs (zb (zs (zn ?_)))))
   obtain ⟨⟨V,W⟩,M,a⟩:=bindS a
   refine zD (K20w hA M) ?_
   refine zF ?_
   refine nT (zs (zs ?_))
   refine zB ?_
   refine nT ?_
   rcases tf (A.zeq W 0) with v | v
   ·replace a:=cT v a
    refine zU ?_
    refine zk (nT (zs (zs ?_)))
    refine zB ?_
    refine nT ?_
    rcases tf (A.zeq (A.len V) 0) with w | w
    ·replace a:=cT w a
     refine zT ?_
     refine zs ?_
     refine zB ?_ { tk:=[6,34] }
     refine nT (zr (rT (rB (rT (rT ?_)))))
     refine exL a fun hx => ?_
     subst hx
     refine oxR ?_
     replace b:=(eR (r _ b))
     refine rB (rT ?_)
     cases soI b
     exact zq
    ·replace a:=cF w a
     refine zU ?_
     refine zk (nT (zs ?_))
     obtain ⟨X,N,a⟩:=bindS a
     have c0:=gcI N
     refine zB ?_
     refine nT (zs (zs ?_))
     refine zB ?_
     refine nT ?_
     obtain ⟨C,c,a⟩:=bindS a
     refine AWp.cutN [1,2,3,6,9,12] [] 0 (lb rfl) (fun τ=>τ={ env:=[(1,zl 1 p),(2,zi q),(3,(.lbox [zi i,zi j,zl 1 k,zl 1 l,zl 1 m,zl 1 o])),(6,(.own 1 s)),(9,zi g),(12,zi C)],heap:=[],n:=81 }) ?_ ?_
     ·skip
      rcases tf (A.zlt g (A.len p)) with y | y
      ·replace c:=cT y c
       refine zT ?_
       obtain ⟨Y,O,c⟩:=bindS c
       obtain ⟨d0,e0⟩:=gtI O
       obtain ⟨_,P,c⟩:=bindS c
       have g0:=nkI P
       obtain ⟨a0,Q,c⟩:=bindS c
       obtain ⟨i0,j0⟩:=gtI Q
       refine zB ?_
       cases soI c
       exact zO
      ·replace c:=cF y c
       refine zU ?_
       refine zk ?_
       cases soI c
       exact zO
     ·rintro _ rfl
      refine nT (zs (zs ?_))
      obtain ⟨K,e,a⟩:=bindS a
      refine AWp.cutN [1,2,3,6,9,12,61] [] 0 (lb rfl) (fun τ=>τ={ env:=[(1,zl 1 p),(2,zi q),(3,(.lbox [zi i,zi j,zl 1 k,zl 1 l,zl 1 m,zl 1 o])),(6,(.own 1 s)),(9,zi g),(12,zi C),(61,.d (.bool K))],heap:=[],n:=81 }) ?_ ?_
      ·skip
       rcases tf (A.zlt C 0) with z | z
       ·replace e:=cT z e
        refine zB ?_
        cases soI e
        exact zO
       ·replace e:=cF z e
        refine zB ?_
        cases soI e
        exact zO
      ·rintro _ rfl
       refine nT ?_
       rcases tf K with B | B
       ·replace a:=cT B a
        refine zT ?_
        refine zs ?_
        refine zB ?_
        refine nT (zr (rT (rB (rT (rT ?_)))))
        refine exL a fun hx => ?_
        subst hx
        refine oxR ?_
        replace b:=(eR (r _ b))
        refine rB (rT ?_)
        cases soI b
        exact zq
       ·replace a:=cF B a
        refine zU ?_
        refine zk (nT ?_)
        obtain ⟨m0,R,a⟩:=bindS a
        obtain ⟨k0,l0⟩:=apI R
        refine zB ?_ { tk:=[6,65] }
        refine nB (nT ?_)
        refine zB ?_
        exact nT ⟨_,(soI a).symm,rfl,zv⟩
   ·replace a:=cF v a
    refine zT ?_
    refine zs ?_
    refine zB ?_
    refine nT (zr (rT (rB (rT (rT ?_)))))
    refine exL a fun hx => ?_
    subst hx
    refine oxR ?_
    replace b:=(eR (r _ b))
    refine rB (rT ?_)
    cases soI b
    exact zq
  ·replace a:=cF u a
   refine zU ?_
   refine AWp.exit (xT (xT ?_))
   refine exL a fun hx => ?_
   subst hx
   exact oxI ⟨rfl,_,b,zv⟩
 ·rintro _ ⟨E,b,rfl⟩
  have h:=(eL (r _ b))
  refine xB (nT (zs (zn ?_)))
  obtain ⟨⟨n0,o0⟩,S,h⟩:=bindS h
  refine zC (K20w hA S) ?_
  refine zE ?_
  refine nT (zs ?_)
  refine zA ?_ { tk:=[6,75] }
  refine nT (zr ?_)
  cases soI h
  exact zq
end Go.Am
