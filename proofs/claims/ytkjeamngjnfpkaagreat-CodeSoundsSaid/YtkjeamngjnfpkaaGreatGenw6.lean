/- Own text: Genw6. -/
import Derived.Test.YtkjeamngjnfpkaaGreatGenw5
set_option maxRecDepth 100000
set_option maxHeartbeats 2000000
set_option linter.unusedVariables false
set_option linter.unusedSimpArgs false
namespace Go.Am
open Go Go.Proofs
theorem Z36eBw {A:Ar} (hA:SA A) {self194:List D->List D->Int->Int->Int->Int->Int->Int->Int->Int->Int->Int->Int->Int->Int->Int->Int->Int->Int->Int->List D->List D->Int->List D->List D->Int->Int->List D->List D->(List (D×D))->List D->(Option (Bool×List (D×D)×List D))} (y0 : ∀ {b q:List D} {v w y z B C E c e g i j k l m o p r:Int} {s u:List D} {F:Int} {G J:List D} {K L:Int} {M N:List D} {O:List (D×D)} {P:List D} {y1:Bool} {y2:List (D×D)} {y3:List D},self194 b q v w y z B C E c e g i j k l m o p r s u F G J K L M N O P=some (y1,y2,y3)->ACall Tryz.prog 36 [.d (.agg [.list 1 b,.list 1 q,.int .i64 v,.int .i64 w,.int .i64 y,.int .i64 z,.int .i64 B,.int .i64 C,.int .i64 E,.int .i64 c,.int .i64 e,.int .i64 g,.int .i64 i,.int .i64 j,.int .i64 k,.int .i64 l,.int .i64 m,.int .i64 o,.int .i64 p,.int .i64 r,.list 6 s,.list 1 u]),zi F,zl 1 G,zl 1 J,(.func 37 [] [.ptr 0 0,.iptr [.int .i64 K,.int .i64 L,.list 1 M,.list 1 N],.ptr 2 0])] [(.cells [(.map 1)]),(.map true [.int .i64,.int .i64,.int .i64,.int .i64,.int .i64,.int .i64,.int .i64,.int .i64,.int .i64,.int .i64,.int .i64,.int .i64,.int .i64,.int .i64,.int .i64,.int .i64,.int .i64,.int .i64,.int .i64,.int .i64,.int .i64,.int .i64,.int .i64,.int .i64,.int .i64,.int .i64,.int .i64,.int .i64,.int .i64,.int .i64,.int .i64,.int .i64,.int .i64,.int .i64,.int .i64,.int .i64] O),.cells [zl 1 P]] (.d (.bool y1)) [(.cells [(.map 1)]),(.map true [.int .i64,.int .i64,.int .i64,.int .i64,.int .i64,.int .i64,.int .i64,.int .i64,.int .i64,.int .i64,.int .i64,.int .i64,.int .i64,.int .i64,.int .i64,.int .i64,.int .i64,.int .i64,.int .i64,.int .i64,.int .i64,.int .i64,.int .i64,.int .i64,.int .i64,.int .i64,.int .i64,.int .i64,.int .i64,.int .i64,.int .i64,.int .i64,.int .i64,.int .i64,.int .i64,.int .i64] y2),.cells [zl 1 y3]]) {b q:List D} {v w y z B C E c e g i j k l m o p r:Int} {s u:List D} {F:Int} {G J:List D} {K L:Int} {M N:List D} {O:List (D×D)} {P:List D} {e0:Bool} {g0:List (D×D)} {i0:List D} (h:Z36eB A self194 b q v w y z B C E c e g i j k l m o p r s u F G J K L M N O P=some (e0,g0,i0)):ACall Tryz.prog 36 [.d (.agg [.list 1 b,.list 1 q,.int .i64 v,.int .i64 w,.int .i64 y,.int .i64 z,.int .i64 B,.int .i64 C,.int .i64 E,.int .i64 c,.int .i64 e,.int .i64 g,.int .i64 i,.int .i64 j,.int .i64 k,.int .i64 l,.int .i64 m,.int .i64 o,.int .i64 p,.int .i64 r,.list 6 s,.list 1 u]),zi F,zl 1 G,zl 1 J,(.func 37 [] [.ptr 0 0,.iptr [.int .i64 K,.int .i64 L,.list 1 M,.list 1 N],.ptr 2 0])] [(.cells [(.map 1)]),(.map true [.int .i64,.int .i64,.int .i64,.int .i64,.int .i64,.int .i64,.int .i64,.int .i64,.int .i64,.int .i64,.int .i64,.int .i64,.int .i64,.int .i64,.int .i64,.int .i64,.int .i64,.int .i64,.int .i64,.int .i64,.int .i64,.int .i64,.int .i64,.int .i64,.int .i64,.int .i64,.int .i64,.int .i64,.int .i64,.int .i64,.int .i64,.int .i64,.int .i64,.int .i64,.int .i64,.int .i64] O),.cells [zl 1 P]] (.d (.bool e0)) [(.cells [(.map 1)]),(.map true [.int .i64,.int .i64,.int .i64,.int .i64,.int .i64,.int .i64,.int .i64,.int .i64,.int .i64,.int .i64,.int .i64,.int .i64,.int .i64,.int .i64,.int .i64,.int .i64,.int .i64,.int .i64,.int .i64,.int .i64,.int .i64,.int .i64,.int .i64,.int .i64,.int .i64,.int .i64,.int .i64,.int .i64,.int .i64,.int .i64,.int .i64,.int .i64,.int .i64,.int .i64,.int .i64,.int .i64] g0),.cells [zl 1 i0]]:=by
 unfold Z36eB at h
 refine zI Tryz.func36 ?_
 refine zs ?_
 refine zA ?_ { esc:=[5] }
 refine nT (zs (zn ?_))
 obtain ⟨S,u0,h⟩:=bindS h
 refine zC (ACall.emb (Z55aw hA u0) [some 3] [(.cells [(.map 1)]),(.map true [.int .i64,.int .i64,.int .i64,.int .i64,.int .i64,.int .i64,.int .i64,.int .i64,.int .i64,.int .i64,.int .i64,.int .i64,.int .i64,.int .i64,.int .i64,.int .i64,.int .i64,.int .i64,.int .i64,.int .i64,.int .i64,.int .i64,.int .i64,.int .i64,.int .i64,.int .i64,.int .i64,.int .i64,.int .i64,.int .i64,.int .i64,.int .i64,.int .i64,.int .i64,.int .i64,.int .i64] O),.cells [zl 1 P],.cells [zl 1 b,zl 1 q,zi v,zi w,zi y,zi z,zi B,zi C,zi E,zi c,zi e,zi g,zi i,zi j,zi k,zi l,zi m,zi o,zi p,zi r,zl 6 s,zl 1 u]] rfl rfl rfl rfl rfl rfl rfl) ?_
 refine zE ?_
 refine nT (zs (zs ?_))
 obtain ⟨k0,R,h⟩:=bindS h
 refine AWp.cutW (fun τ=>τ={ env:=[(1,zi F),(2,zl 1 G),(3,zl 1 J),(4,(.func 37 [] [.ptr 0 0,.iptr [.int .i64 K,.int .i64 L,.list 1 M,.list 1 N],.ptr 2 0])),(5,.ptr 3 0),(11,zl 1 S),(24,.d (.bool k0))],heap:=[(.cells [(.map 1)]),(.map true [.int .i64,.int .i64,.int .i64,.int .i64,.int .i64,.int .i64,.int .i64,.int .i64,.int .i64,.int .i64,.int .i64,.int .i64,.int .i64,.int .i64,.int .i64,.int .i64,.int .i64,.int .i64,.int .i64,.int .i64,.int .i64,.int .i64,.int .i64,.int .i64,.int .i64,.int .i64,.int .i64,.int .i64,.int .i64,.int .i64,.int .i64,.int .i64,.int .i64,.int .i64,.int .i64,.int .i64] O),.cells [zl 1 P],.cells [zl 1 b,zl 1 q,zi v,zi w,zi y,zi z,zi B,zi C,zi E,zi c,zi e,zi g,zi i,zi j,zi k,zi l,zi m,zi o,zi p,zi r,zl 6 s,zl 1 u]],n:=55 }) ?_ ?_
 ·skip
  rcases tf (A.zeq (A.len S) 0) with Y | Y
  ·replace R:=cT Y R
   refine zB ?_
   cases soI R
   exact oWi ⟨_,zR [some 0,some 1,some 2,some 3] [1,2,3,4,5,11,24],rfl⟩
  ·replace R:=cF Y R
   refine zB ?_
   cases soI R
   exact oWi ⟨_,zR [some 0,some 1,some 2,some 3] [1,2,3,4,5,11,24],rfl⟩
 ·rintro _ rfl
  refine nT ?_
  rcases tf k0 with a0 | a0
  ·replace h:=cT a0 h
   refine zT ?_
   refine zs ?_
   refine AWp.weak (Wk.freezeObj 3 [5] (ds:=[.list 1 b,.list 1 q,.int .i64 v,.int .i64 w,.int .i64 y,.int .i64 z,.int .i64 B,.int .i64 C,.int .i64 E,.int .i64 c,.int .i64 e,.int .i64 g,.int .i64 i,.int .i64 j,.int .i64 k,.int .i64 l,.int .i64 m,.int .i64 o,.int .i64 p,.int .i64 r,.list 6 s,.list 1 u]) rfl rfl) ?_
   refine zn ?_
   obtain ⟨⟨u3,v3,w3⟩,v0,h⟩:=bindS h
   refine zD (Z37w hA v0) ?_ { tk:=[27] }
   refine zF ?_ { tk:=[27] }
   refine nT (zr (rT ?_))
   cases soI h
   exact zq
  ·replace h:=cF a0 h
   refine zU ?_
   refine zk (nT (zs (zs ?_)))
   refine zB ?_
   refine nT (zb ?_)
   obtain ⟨z3,w0,l0,j0,Q⟩:=bindK h
   refine AWp.cutX 0 [] [] 4 (lb rfl) (fun τ => ∃ c0 d0,l0 (.inl (c0,d0))=some (e0,g0,i0)/\τ={ env:=[],heap:=[(.cells [(.map 1)]),(.map true [.int .i64,.int .i64,.int .i64,.int .i64,.int .i64,.int .i64,.int .i64,.int .i64,.int .i64,.int .i64,.int .i64,.int .i64,.int .i64,.int .i64,.int .i64,.int .i64,.int .i64,.int .i64,.int .i64,.int .i64,.int .i64,.int .i64,.int .i64,.int .i64,.int .i64,.int .i64,.int .i64,.int .i64,.int .i64,.int .i64,.int .i64,.int .i64,.int .i64,.int .i64,.int .i64,.int .i64] c0),.cells [zl 1 d0],.cells [zl 1 b,zl 1 q,zi v,zi w,zi y,zi z,zi B,zi C,zi E,zi c,zi e,zi g,zi i,zi j,zi k,zi l,zi m,zi o,zi p,zi r,zl 6 s,zl 1 u]],n:=55 }) ?_ ?_
   ·skip
    refine AWp.iter w0 [1,2,3,4,5,28,29,30] [] 4 (lb rfl) (fun (b0,U,V)=>{ env:=[(1,zi F),(2,zl 1 G),(3,zl 1 J),(4,(.func 37 [] [.ptr 0 0,.iptr [.int .i64 K,.int .i64 L,.list 1 M,.list 1 N],.ptr 2 0])),(5,.ptr 3 0),(28,zl 1 S),(29,(.d (.int .i64 (A.len S)))),(30,zi b0)],heap:=[(.cells [(.map 1)]),(.map true [.int .i64,.int .i64,.int .i64,.int .i64,.int .i64,.int .i64,.int .i64,.int .i64,.int .i64,.int .i64,.int .i64,.int .i64,.int .i64,.int .i64,.int .i64,.int .i64,.int .i64,.int .i64,.int .i64,.int .i64,.int .i64,.int .i64,.int .i64,.int .i64,.int .i64,.int .i64,.int .i64,.int .i64,.int .i64,.int .i64,.int .i64,.int .i64,.int .i64,.int .i64,.int .i64,.int .i64] U),.cells [zl 1 V],.cells [zl 1 b,zl 1 q,zi v,zi w,zi y,zi z,zi B,zi C,zi E,zi c,zi e,zi g,zi i,zi j,zi k,zi l,zi m,zi o,zi p,zi r,zl 6 s,zl 1 u]],n:=55 }) ⟨rfl,zv⟩ ?_
    rintro ⟨b0,U,V⟩ c2 a
    dsimp only [Z36eL0] at a
    refine zs ?_
    refine zA ?_
    refine nT (zs ?_)
    rcases tf (A.zlt b0 (A.len S)) with W | W
    ·replace a:=cT W a
     refine zT ?_
     refine zk (nT (zs (zb (zs ?_))))
     obtain ⟨b2,m0,a⟩:=bindS a
     obtain ⟨d2,e2⟩:=gtI m0
     refine zB ?_
     refine nT (zs (zn ?_))
     obtain ⟨⟨z0,a1,b1,c1,d1,e1,g1,i1,j1,k1,l1,m1,n1,o1,p1,q1,r1,s1,u1,v1,w1,z1⟩,n0,a⟩:=bindS a
     refine zD (ACall.shift (Z83w hA n0) rfl rfl [(.cells [(.map 1)]),(.map true [.int .i64,.int .i64,.int .i64,.int .i64,.int .i64,.int .i64,.int .i64,.int .i64,.int .i64,.int .i64,.int .i64,.int .i64,.int .i64,.int .i64,.int .i64,.int .i64,.int .i64,.int .i64,.int .i64,.int .i64,.int .i64,.int .i64,.int .i64,.int .i64,.int .i64,.int .i64,.int .i64,.int .i64,.int .i64,.int .i64,.int .i64,.int .i64,.int .i64,.int .i64,.int .i64,.int .i64] U),.cells [zl 1 V],.cells [zl 1 b,zl 1 q,zi v,zi w,zi y,zi z,zi B,zi C,zi E,zi c,zi e,zi g,zi i,zi j,zi k,zi l,zi m,zi o,zi p,zi r,zl 6 s,zl 1 u]] rfl rfl rfl rfl) ?_ { tk:=[35],esc:=[14] }
     refine zF ?_ { tk:=[35],esc:=[14] }
     refine nT (zs (zn ?_))
     obtain ⟨⟨q2,r2,s2,u2,v2,w2,z2,a3,b3,c3,d3,e3,g3,i3,j3,k3,l3,m3,n3,o3,p3,q3⟩,o0,a⟩:=bindS a
     refine zD (ACall.emb (Z84w hA o0) [some 10,some 4,some 5,some 6,some 7,some 8,some 9] [(.cells [(.map 1)]),(.map true [.int .i64,.int .i64,.int .i64,.int .i64,.int .i64,.int .i64,.int .i64,.int .i64,.int .i64,.int .i64,.int .i64,.int .i64,.int .i64,.int .i64,.int .i64,.int .i64,.int .i64,.int .i64,.int .i64,.int .i64,.int .i64,.int .i64,.int .i64,.int .i64,.int .i64,.int .i64,.int .i64,.int .i64,.int .i64,.int .i64,.int .i64,.int .i64,.int .i64,.int .i64,.int .i64,.int .i64] U),.cells [zl 1 V],.cells [zl 1 b,zl 1 q,zi v,zi w,zi y,zi z,zi B,zi C,zi E,zi c,zi e,zi g,zi i,zi j,zi k,zi l,zi m,zi o,zi p,zi r,zl 6 s,zl 1 u],.gro 6 w1,.dead,.dead,.gro 1 z1,.dead,.dead,.cells [zl 1 z0,zl 1 a1,zi b1,zi c1,zi d1,zi e1,zi g1,zi i1,zi j1,zi k1,zi l1,zi m1,zi n1,zi o1,zi p1,zi q1,zi r1,zi s1,zi u1,zi v1,.gref 4 6,.gref 7 1]] rfl rfl rfl rfl rfl rfl rfl) ?_
     refine zF ?_
     refine nT (zs ?_)
     refine AWp.weak (Wk.freezeG 10 20 rfl rfl rfl) ?_
     refine AWp.weak (Wk.freezeG 10 21 rfl rfl rfl) ?_
     refine AWp.regionDraw rfl (lb rfl) ?_
     obtain ⟨o2,p0,a⟩:=bindS a
     obtain ⟨g2,i2,j2,k2⟩:=slI p0
     obtain ⟨_,q0,a⟩:=bindS a
     have l2:=ckI q0
     obtain ⟨p2,r0,a⟩:=bindS a
     obtain ⟨m2,n2⟩:=apI r0
     obtain ⟨⟨a2,r3,s3⟩,s0,a⟩:=bindS a
     refine DOps.cl hT hA {} rfl zu (y0 s0) rfl rfl rfl rfl rfl (lb rfl) rfl rfl ?_
     refine DOps.cd hT hA {} rfl zu (by kernel_rfl) ?_
     refine nT ?_
     rcases tf a2 with X | X
     ·replace a:=cT X a
      refine zU ?_
      refine zk (nB (nT ?_))
      refine zB ?_
      exact nT ⟨_,(soI a).symm,rfl,zv⟩
     ·replace a:=cF X a
      refine zT ?_
      refine zs ?_
      refine zB ?_
      refine nT (zr (rB (rT (rT ?_))))
      refine exL a fun hx => ?_
      subst hx
      refine oxR ?_
      replace Q:=(eR (j0 _ Q))
      refine rB (rT ?_)
      cases soI Q
      exact zq
    ·replace a:=cF W a
     refine zU ?_
     refine AWp.exit (xT (xT ?_))
     refine exL a fun hx => ?_
     subst hx
     exact oxI ⟨rfl,_,_,Q,zv⟩
   ·rintro _ ⟨c0,d0,Q,rfl⟩
    have h:=(eL (j0 _ Q))
    refine xB (nT (zs ?_))
    refine zA ?_
    refine nT (zr ?_)
    cases soI h
    exact zq

theorem Z36eRw {A:Ar} (hA:SA A) : ∀ (n:Nat) {e s:List D} {J M N O P Q R g i j k l m o p q r u:Int} {v w:List D} {y:Int} {z B:List D} {C E:Int} {F G:List D} {K:List (D×D)} {L:List D} {a:Bool} {b:List (D×D)} {c:List D},Z36eR A n e s J M N O P Q R g i j k l m o p q r u v w y z B C E F G K L=some (a,b,c)->ACall Tryz.prog 36 [.d (.agg [.list 1 e,.list 1 s,.int .i64 J,.int .i64 M,.int .i64 N,.int .i64 O,.int .i64 P,.int .i64 Q,.int .i64 R,.int .i64 g,.int .i64 i,.int .i64 j,.int .i64 k,.int .i64 l,.int .i64 m,.int .i64 o,.int .i64 p,.int .i64 q,.int .i64 r,.int .i64 u,.list 6 v,.list 1 w]),zi y,zl 1 z,zl 1 B,(.func 37 [] [.ptr 0 0,.iptr [.int .i64 C,.int .i64 E,.list 1 F,.list 1 G],.ptr 2 0])] [(.cells [(.map 1)]),(.map true [.int .i64,.int .i64,.int .i64,.int .i64,.int .i64,.int .i64,.int .i64,.int .i64,.int .i64,.int .i64,.int .i64,.int .i64,.int .i64,.int .i64,.int .i64,.int .i64,.int .i64,.int .i64,.int .i64,.int .i64,.int .i64,.int .i64,.int .i64,.int .i64,.int .i64,.int .i64,.int .i64,.int .i64,.int .i64,.int .i64,.int .i64,.int .i64,.int .i64,.int .i64,.int .i64,.int .i64] K),.cells [zl 1 L]] (.d (.bool a)) [(.cells [(.map 1)]),(.map true [.int .i64,.int .i64,.int .i64,.int .i64,.int .i64,.int .i64,.int .i64,.int .i64,.int .i64,.int .i64,.int .i64,.int .i64,.int .i64,.int .i64,.int .i64,.int .i64,.int .i64,.int .i64,.int .i64,.int .i64,.int .i64,.int .i64,.int .i64,.int .i64,.int .i64,.int .i64,.int .i64,.int .i64,.int .i64,.int .i64,.int .i64,.int .i64,.int .i64,.int .i64,.int .i64,.int .i64] b),.cells [zl 1 c]]
 | 0,_,_,_,_,_,_,_,_,_,_,_,_,_,_,_,_,_,_,_,_,_,_,_,_,_,_,_,_,_,_,_,_,_,_,h=>by cases h
 | n+1,_,_,_,_,_,_,_,_,_,_,_,_,_,_,_,_,_,_,_,_,_,_,_,_,_,_,_,_,_,_,_,_,_,_,h=>Z36eBw hA (fun h=>Z36eRw hA n h) h

theorem Z36ew {A:Ar} (hA:SA A) {e r:List D} {G L M N O P Q g i j k l m n o p q s:Int} {u v:List D} {w:Int} {y z:List D} {B C:Int} {E F:List D} {J:List (D×D)} {K:List D} {a:Bool} {b:List (D×D)} {c:List D} (h:Z36e A e r G L M N O P Q g i j k l m n o p q s u v w y z B C E F J K=some (a,b,c)):ACall Tryz.prog 36 [.d (.agg [.list 1 e,.list 1 r,.int .i64 G,.int .i64 L,.int .i64 M,.int .i64 N,.int .i64 O,.int .i64 P,.int .i64 Q,.int .i64 g,.int .i64 i,.int .i64 j,.int .i64 k,.int .i64 l,.int .i64 m,.int .i64 n,.int .i64 o,.int .i64 p,.int .i64 q,.int .i64 s,.list 6 u,.list 1 v]),zi w,zl 1 y,zl 1 z,(.func 37 [] [.ptr 0 0,.iptr [.int .i64 B,.int .i64 C,.list 1 E,.list 1 F],.ptr 2 0])] [(.cells [(.map 1)]),(.map true [.int .i64,.int .i64,.int .i64,.int .i64,.int .i64,.int .i64,.int .i64,.int .i64,.int .i64,.int .i64,.int .i64,.int .i64,.int .i64,.int .i64,.int .i64,.int .i64,.int .i64,.int .i64,.int .i64,.int .i64,.int .i64,.int .i64,.int .i64,.int .i64,.int .i64,.int .i64,.int .i64,.int .i64,.int .i64,.int .i64,.int .i64,.int .i64,.int .i64,.int .i64,.int .i64,.int .i64] J),.cells [zl 1 K]] (.d (.bool a)) [(.cells [(.map 1)]),(.map true [.int .i64,.int .i64,.int .i64,.int .i64,.int .i64,.int .i64,.int .i64,.int .i64,.int .i64,.int .i64,.int .i64,.int .i64,.int .i64,.int .i64,.int .i64,.int .i64,.int .i64,.int .i64,.int .i64,.int .i64,.int .i64,.int .i64,.int .i64,.int .i64,.int .i64,.int .i64,.int .i64,.int .i64,.int .i64,.int .i64,.int .i64,.int .i64,.int .i64,.int .i64,.int .i64,.int .i64] b),.cells [zl 1 c]]:=Z36eRw hA fuel h

theorem Z36dw {A:Ar} (hA:SA A) {b q:List D} {s w y z B C E c e g i j k l m o p r O:Int} {P Q:List D} {R S:Int} {U V M:List D} {N:List (D×D)} {u v:List D} {e0:Bool} {g0:List D} {i0:List (D×D)} (h:Z36d A b q s w y z B C E c e g i j k l m o p r O P Q R S U V M N u v=some (e0,g0,i0)):ACall Tryz.prog 36 [.agg [zl 1 b,zl 1 q,zi s,zi w,zi y,zi z,zi B,zi C,zi E,zi c,zi e,zi g,zi i,zi j,zi k,zi l,zi m,zi o,zi p,zi r,.gref 3 6,.gref 6 1],zi O,zl 1 P,zl 1 Q,(.func 37 [] [.ptr 2 0,.iptr [.int .i64 R,.int .i64 S,.list 1 U,.list 1 V],.ptr 0 0])] [.cells [zl 1 M],(.map true [.int .i64,.int .i64,.int .i64,.int .i64,.int .i64,.int .i64,.int .i64,.int .i64,.int .i64,.int .i64,.int .i64,.int .i64,.int .i64,.int .i64,.int .i64,.int .i64,.int .i64,.int .i64,.int .i64,.int .i64,.int .i64,.int .i64,.int .i64,.int .i64,.int .i64,.int .i64,.int .i64,.int .i64,.int .i64,.int .i64,.int .i64,.int .i64,.int .i64,.int .i64,.int .i64,.int .i64] N),(.cells [(.map 1)]),.gro 6 u,.dead,.dead,.gro 1 v,.dead,.dead] (.d (.bool e0)) [.cells [zl 1 g0],(.map true [.int .i64,.int .i64,.int .i64,.int .i64,.int .i64,.int .i64,.int .i64,.int .i64,.int .i64,.int .i64,.int .i64,.int .i64,.int .i64,.int .i64,.int .i64,.int .i64,.int .i64,.int .i64,.int .i64,.int .i64,.int .i64,.int .i64,.int .i64,.int .i64,.int .i64,.int .i64,.int .i64,.int .i64,.int .i64,.int .i64,.int .i64,.int .i64,.int .i64,.int .i64,.int .i64,.int .i64] i0),(.cells [(.map 1)]),.dead,.dead,.dead,.dead,.dead,.dead]:=by
 unfold Z36d at h
 refine zI Tryz.func36 ?_
 refine zs ?_
 refine zA ?_ { esc:=[5] }
 refine nT ?_
 refine AWp.weak (Wk.freezeG 9 20 rfl rfl rfl) ?_
 refine AWp.weak (Wk.freezeG 9 21 rfl rfl rfl) ?_
 refine zs (zn ?_)
 obtain ⟨J,u0,h⟩:=bindS h
 refine zC (ACall.emb (Z55aw hA u0) [some 9] [.cells [zl 1 M],(.map true [.int .i64,.int .i64,.int .i64,.int .i64,.int .i64,.int .i64,.int .i64,.int .i64,.int .i64,.int .i64,.int .i64,.int .i64,.int .i64,.int .i64,.int .i64,.int .i64,.int .i64,.int .i64,.int .i64,.int .i64,.int .i64,.int .i64,.int .i64,.int .i64,.int .i64,.int .i64,.int .i64,.int .i64,.int .i64,.int .i64,.int .i64,.int .i64,.int .i64,.int .i64,.int .i64,.int .i64] N),(.cells [(.map 1)]),.dead,.dead,.dead,.dead,.dead,.dead,.cells [zl 1 b,zl 1 q,zi s,zi w,zi y,zi z,zi B,zi C,zi E,zi c,zi e,zi g,zi i,zi j,zi k,zi l,zi m,zi o,zi p,zi r,zl 6 u,zl 1 v]] rfl rfl rfl rfl rfl rfl rfl) ?_
 refine zE ?_
 refine nT (zs (zs ?_))
 obtain ⟨k0,G,h⟩:=bindS h
 refine AWp.cutN [1,2,3,4,5,11,24] [] 10 (lb rfl) (fun τ=>τ={ env:=[(1,zi O),(2,zl 1 P),(3,zl 1 Q),(4,(.func 37 [] [.ptr 2 0,.iptr [.int .i64 R,.int .i64 S,.list 1 U,.list 1 V],.ptr 0 0])),(5,.ptr 9 0),(11,zl 1 J),(24,.d (.bool k0))],heap:=[.cells [zl 1 M],(.map true [.int .i64,.int .i64,.int .i64,.int .i64,.int .i64,.int .i64,.int .i64,.int .i64,.int .i64,.int .i64,.int .i64,.int .i64,.int .i64,.int .i64,.int .i64,.int .i64,.int .i64,.int .i64,.int .i64,.int .i64,.int .i64,.int .i64,.int .i64,.int .i64,.int .i64,.int .i64,.int .i64,.int .i64,.int .i64,.int .i64,.int .i64,.int .i64,.int .i64,.int .i64,.int .i64,.int .i64] N),(.cells [(.map 1)]),.dead,.dead,.dead,.dead,.dead,.dead,.cells [zl 1 b,zl 1 q,zi s,zi w,zi y,zi z,zi B,zi C,zi E,zi c,zi e,zi g,zi i,zi j,zi k,zi l,zi m,zi o,zi p,zi r,zl 6 u,zl 1 v]],n:=55 }) ?_ ?_
 ·skip
  rcases tf (A.zeq (A.len J) 0) with Y | Y
  ·replace G:=cT Y G
   refine zB ?_
   cases soI G
   exact zO
  ·replace G:=cF Y G
   refine zB ?_
   cases soI G
   exact zO
 ·rintro _ rfl
  refine nT ?_
  rcases tf k0 with a0 | a0
  ·replace h:=cT a0 h
   refine zT ?_
   refine zs ?_
   refine AWp.weak (Wk.freezeObj 9 [5] (ds:=[.list 1 b,.list 1 q,.int .i64 s,.int .i64 w,.int .i64 y,.int .i64 z,.int .i64 B,.int .i64 C,.int .i64 E,.int .i64 c,.int .i64 e,.int .i64 g,.int .i64 i,.int .i64 j,.int .i64 k,.int .i64 l,.int .i64 m,.int .i64 o,.int .i64 p,.int .i64 r,.list 6 u,.list 1 v]) rfl rfl) ?_
   refine zn ?_
   obtain ⟨⟨q3,r3,s3⟩,v0,h⟩:=bindS h
   refine zD (ACall.emb (Z37w hA v0) [some 2,some 1,some 0] [.cells [zl 1 M],(.map true [.int .i64,.int .i64,.int .i64,.int .i64,.int .i64,.int .i64,.int .i64,.int .i64,.int .i64,.int .i64,.int .i64,.int .i64,.int .i64,.int .i64,.int .i64,.int .i64,.int .i64,.int .i64,.int .i64,.int .i64,.int .i64,.int .i64,.int .i64,.int .i64,.int .i64,.int .i64,.int .i64,.int .i64,.int .i64,.int .i64,.int .i64,.int .i64,.int .i64,.int .i64,.int .i64,.int .i64] N),(.cells [(.map 1)]),.dead,.dead,.dead,.dead,.dead,.dead,.dead] rfl rfl rfl rfl rfl rfl rfl) ?_ { tk:=[27] }
   refine zF ?_ { tk:=[27] }
   refine nT (zr (rT ?_))
   cases soI h
   exact zq
  ·replace h:=cF a0 h
   refine zU ?_
   refine zk (nT (zs (zs ?_)))
   refine zB ?_
   refine nT (zb ?_)
   obtain ⟨u3,w0,l0,j0,F⟩:=bindK h
   refine AWp.cutX 0 [] [] 10 (lb rfl) (fun τ => ∃ c0 d0,l0 (.inl (c0,d0))=some (e0,g0,i0)/\τ={ env:=[],heap:=[.cells [zl 1 c0],(.map true [.int .i64,.int .i64,.int .i64,.int .i64,.int .i64,.int .i64,.int .i64,.int .i64,.int .i64,.int .i64,.int .i64,.int .i64,.int .i64,.int .i64,.int .i64,.int .i64,.int .i64,.int .i64,.int .i64,.int .i64,.int .i64,.int .i64,.int .i64,.int .i64,.int .i64,.int .i64,.int .i64,.int .i64,.int .i64,.int .i64,.int .i64,.int .i64,.int .i64,.int .i64,.int .i64,.int .i64] d0),(.cells [(.map 1)]),.dead,.dead,.dead,.dead,.dead,.dead,.cells [zl 1 b,zl 1 q,zi s,zi w,zi y,zi z,zi B,zi C,zi E,zi c,zi e,zi g,zi i,zi j,zi k,zi l,zi m,zi o,zi p,zi r,zl 6 u,zl 1 v]],n:=55 }) ?_ ?_
   ·skip
    refine AWp.iter w0 [1,2,3,4,5,28,29,30] [] 10 (lb rfl) (fun (b0,K,L)=>{ env:=[(1,zi O),(2,zl 1 P),(3,zl 1 Q),(4,(.func 37 [] [.ptr 2 0,.iptr [.int .i64 R,.int .i64 S,.list 1 U,.list 1 V],.ptr 0 0])),(5,.ptr 9 0),(28,zl 1 J),(29,(.d (.int .i64 (A.len J)))),(30,zi b0)],heap:=[.cells [zl 1 K],(.map true [.int .i64,.int .i64,.int .i64,.int .i64,.int .i64,.int .i64,.int .i64,.int .i64,.int .i64,.int .i64,.int .i64,.int .i64,.int .i64,.int .i64,.int .i64,.int .i64,.int .i64,.int .i64,.int .i64,.int .i64,.int .i64,.int .i64,.int .i64,.int .i64,.int .i64,.int .i64,.int .i64,.int .i64,.int .i64,.int .i64,.int .i64,.int .i64,.int .i64,.int .i64,.int .i64,.int .i64] L),(.cells [(.map 1)]),.dead,.dead,.dead,.dead,.dead,.dead,.cells [zl 1 b,zl 1 q,zi s,zi w,zi y,zi z,zi B,zi C,zi E,zi c,zi e,zi g,zi i,zi j,zi k,zi l,zi m,zi o,zi p,zi r,zl 6 u,zl 1 v]],n:=55 }) ⟨rfl,zv⟩ ?_
    rintro ⟨b0,K,L⟩ a3 a
    dsimp only [Z36dL0] at a
    refine zs ?_
    refine zA ?_
    refine nT (zs ?_)
    rcases tf (A.zlt b0 (A.len J)) with W | W
    ·replace a:=cT W a
     refine zT ?_
     refine zk (nT (zs (zb (zs ?_))))
     obtain ⟨z2,m0,a⟩:=bindS a
     obtain ⟨b3,c3⟩:=gtI m0
     refine zB ?_
     refine nT (zs (zn ?_))
     obtain ⟨⟨y0,z0,a1,b1,c1,d1,e1,g1,i1,j1,k1,l1,m1,n1,o1,p1,q1,r1,s1,u1,v1,w1⟩,n0,a⟩:=bindS a
     refine zD (ACall.shift (Z83w hA n0) rfl rfl [.cells [zl 1 K],(.map true [.int .i64,.int .i64,.int .i64,.int .i64,.int .i64,.int .i64,.int .i64,.int .i64,.int .i64,.int .i64,.int .i64,.int .i64,.int .i64,.int .i64,.int .i64,.int .i64,.int .i64,.int .i64,.int .i64,.int .i64,.int .i64,.int .i64,.int .i64,.int .i64,.int .i64,.int .i64,.int .i64,.int .i64,.int .i64,.int .i64,.int .i64,.int .i64,.int .i64,.int .i64,.int .i64,.int .i64] L),(.cells [(.map 1)]),.dead,.dead,.dead,.dead,.dead,.dead,.cells [zl 1 b,zl 1 q,zi s,zi w,zi y,zi z,zi B,zi C,zi E,zi c,zi e,zi g,zi i,zi j,zi k,zi l,zi m,zi o,zi p,zi r,zl 6 u,zl 1 v]] rfl rfl rfl rfl) ?_ { tk:=[35],esc:=[14] }
     refine zF ?_ { tk:=[35],esc:=[14] }
     refine nT (zs (zn ?_))
     obtain ⟨⟨y1,z1,a2,b2,c2,d2,e2,g2,i2,j2,k2,l2,m2,n2,o2,p2,q2,r2,s2,u2,v2,w2⟩,o0,a⟩:=bindS a
     refine zD (ACall.emb (Z84w hA o0) [some 16,some 10,some 11,some 12,some 13,some 14,some 15] [.cells [zl 1 K],(.map true [.int .i64,.int .i64,.int .i64,.int .i64,.int .i64,.int .i64,.int .i64,.int .i64,.int .i64,.int .i64,.int .i64,.int .i64,.int .i64,.int .i64,.int .i64,.int .i64,.int .i64,.int .i64,.int .i64,.int .i64,.int .i64,.int .i64,.int .i64,.int .i64,.int .i64,.int .i64,.int .i64,.int .i64,.int .i64,.int .i64,.int .i64,.int .i64,.int .i64,.int .i64,.int .i64,.int .i64] L),(.cells [(.map 1)]),.dead,.dead,.dead,.dead,.dead,.dead,.cells [zl 1 b,zl 1 q,zi s,zi w,zi y,zi z,zi B,zi C,zi E,zi c,zi e,zi g,zi i,zi j,zi k,zi l,zi m,zi o,zi p,zi r,zl 6 u,zl 1 v],.gro 6 v1,.dead,.dead,.gro 1 w1,.dead,.dead,.cells [zl 1 y0,zl 1 z0,zi a1,zi b1,zi c1,zi d1,zi e1,zi g1,zi i1,zi j1,zi k1,zi l1,zi m1,zi n1,zi o1,zi p1,zi q1,zi r1,zi s1,zi u1,.gref 10 6,.gref 13 1]] rfl rfl rfl rfl rfl rfl rfl) ?_
     refine zF ?_
     refine nT (zs ?_)
     refine AWp.weak (Wk.freezeG 16 20 rfl rfl rfl) ?_
     refine AWp.weak (Wk.freezeG 16 21 rfl rfl rfl) ?_
     refine AWp.regionDraw rfl (lb rfl) ?_
     obtain ⟨m3,p0,a⟩:=bindS a
     obtain ⟨d3,e3,g3,i3⟩:=slI p0
     obtain ⟨_,q0,a⟩:=bindS a
     have j3:=ckI q0
     obtain ⟨n3,r0,a⟩:=bindS a
     obtain ⟨k3,l3⟩:=apI r0
     obtain ⟨⟨y2,o3,p3⟩,s0,a⟩:=bindS a
     refine DOps.cl hT hA {} rfl zu (ACall.emb (Z36ew hA s0) [some 2,some 1,some 0] [.cells [zl 1 K],(.map true [.int .i64,.int .i64,.int .i64,.int .i64,.int .i64,.int .i64,.int .i64,.int .i64,.int .i64,.int .i64,.int .i64,.int .i64,.int .i64,.int .i64,.int .i64,.int .i64,.int .i64,.int .i64,.int .i64,.int .i64,.int .i64,.int .i64,.int .i64,.int .i64,.int .i64,.int .i64,.int .i64,.int .i64,.int .i64,.int .i64,.int .i64,.int .i64,.int .i64,.int .i64,.int .i64,.int .i64] L),(.cells [(.map 1)]),.dead,.dead,.dead,.dead,.dead,.dead,.cells [zl 1 b,zl 1 q,zi s,zi w,zi y,zi z,zi B,zi C,zi E,zi c,zi e,zi g,zi i,zi j,zi k,zi l,zi m,zi o,zi p,zi r,zl 6 u,zl 1 v],.dead,.dead,.dead,.dead,.dead,.dead,.cells [zl 1 y1,zl 1 z1,zi a2,zi b2,zi c2,zi d2,zi e2,zi g2,zi i2,zi j2,zi k2,zi l2,zi m2,zi n2,zi o2,zi p2,zi q2,zi r2,zi s2,zi u2,zl 6 v2,zl 1 w2],.dead,.dead,.dead,.dead,.dead,.dead] rfl rfl rfl rfl rfl rfl rfl) rfl rfl rfl rfl rfl (lb rfl) rfl rfl ?_
     refine DOps.cd hT hA {} rfl zu (by kernel_rfl) ?_
     refine nT ?_
     rcases tf y2 with X | X
     ·replace a:=cT X a
      refine zU ?_
      refine zk (nB (nT ?_))
      refine zB ?_
      exact nT ⟨_,(soI a).symm,rfl,zv⟩
     ·replace a:=cF X a
      refine zT ?_
      refine zs ?_
      refine zB ?_
      refine nT (zr (rB (rT (rT ?_))))
      refine exL a fun hx => ?_
      subst hx
      refine oxR ?_
      replace F:=(eR (j0 _ F))
      refine rB (rT ?_)
      cases soI F
      exact zq
    ·replace a:=cF W a
     refine zU ?_
     refine AWp.exit (xT (xT ?_))
     refine exL a fun hx => ?_
     subst hx
     exact oxI ⟨rfl,_,_,F,zv⟩
   ·rintro _ ⟨c0,d0,F,rfl⟩
    have h:=(eL (j0 _ F))
    refine xB (nT (zs ?_))
    refine zA ?_
    refine nT (zr ?_)
    cases soI h
    exact zq

theorem Z11w {A:Ar} (hA:SA A) {e g:Int} {i j m n:List D} {o:Int} {k:List D} {l:Int} (h:Z11 A e g i j m n o=some (k,l)):ACall Tryz.prog 11 [.d (.agg [.int .i64 e,.int .i64 g,.list 1 i,.list 1 j]),zl 1 m,zl 1 n,zi o] [] (.tuple [zl 1 k,zi l]) []:=by
 unfold Z11 at h
 refine zI Tryz.func11 ?_
 refine zs ?_
 refine zA ?_
 refine nT ?_
 refine AWp.freezeBox 4 [.int .i64 e,.int .i64 g,.list 1 i,.list 1 j] rfl rfl ?_
 refine zs (zs (zn ?_))
 obtain ⟨y,u,h⟩:=bindS h
 refine zC (Z33w hA u) ?_
 refine zE ?_
 refine nT (zb (zs ?_))
 refine zA ?_
 refine nT ?_
 rcases tf (A.zeq y 0) with a | a
 ·replace h:=cT a h
  refine zU ?_
  refine zs (zn ?_)
  obtain ⟨v,p,h⟩:=bindS h
  refine zD (Z34w hA p) ?_
  refine zF ?_
  refine nT ?_
  rcases tf v with b | b
  ·replace h:=cT b h
   refine zU ?_
   refine zk (nB (nT (zs ?_)))
   refine zB ?_ { esc:=[11] }
   refine nT (zs ?_)
   refine zB ?_ { tk:=[26],esc:=[12] }
   refine nT (zs ?_)
   refine AWp.weak (Wk.softC 0 0 rfl rfl rfl) ?_
   refine zn ?_
   obtain ⟨⟨z,B⟩,q,h⟩:=bindS h
   refine zD (ACall.shift (Z35w hA q) rfl rfl [(.cells [.d (.list 1 [])]),(.map true [.int .i64,.int .i64,.int .i64,.int .i64,.int .i64,.int .i64,.int .i64,.int .i64,.int .i64,.int .i64,.int .i64,.int .i64,.int .i64,.int .i64,.int .i64,.int .i64,.int .i64,.int .i64,.int .i64,.int .i64,.int .i64,.int .i64,.int .i64,.int .i64,.int .i64,.int .i64,.int .i64,.int .i64,.int .i64,.int .i64,.int .i64,.int .i64,.int .i64,.int .i64,.int .i64,.int .i64] []),(.cells [(.map 1)])] rfl rfl rfl rfl) ?_
   obtain ⟨⟨w,C,E⟩,r,h⟩:=bindS h
   refine zD (Z36dw hA r) ?_
   refine zF ?_
   refine nT (zs (zs ?_))
   refine zB ?_
   refine nT ?_
   rcases tf w with c | c
   ·replace h:=cT c h
    refine zT ?_
    refine zs ?_
    refine zB ?_
    refine nT (zr (rT ?_))
    cases soI h
    exact zq
   ·replace h:=cF c h
    refine zU ?_
    refine zk (nT (zs (zn ?_)))
    obtain ⟨F,s,h⟩:=bindS h
    refine zD (Z39w hA s) ?_
    refine zF ?_
    refine nT (zr ?_)
    cases soI h
    exact zq
  ·replace h:=cF b h
   refine zT ?_
   refine zs ?_
   refine zB ?_
   refine nT (zr (rB (rT ?_)))
   cases soI h
   exact zq
 ·replace h:=cF a h
  refine zT ?_
  refine zs ?_
  refine zB ?_
  refine nT (zr (rB (rT ?_)))
  cases soI h
  exact zq

theorem Z10w {A:Ar} (hA:SA A) {e g:Int} {i j k l:List D} {m:Int} {b:Bool} {c:Int} (h:Z10 A e g i j k l m=some (b,c)):ACall Tryz.prog 10 [.d (.agg [.int .i64 e,.int .i64 g,.list 1 i,.list 1 j]),zl 1 k,zl 1 l,zi m] [] (.tuple [.d (.bool b),zi c]) []:=by
 unfold Z10 at h
 refine zI Tryz.func10 ?_
 refine zs ?_
 refine zA ?_
 refine nT (zs (zn ?_))
 obtain ⟨⟨p,o⟩,n,h⟩:=bindS h
 refine zC (Z11w hA n) ?_
 refine zE ?_
 refine nT (zs (zs ?_))
 refine zA ?_
 refine nT ?_
 rcases tf (A.zeq o 5) with a | a
 ·replace h:=cT a h
  refine zT ?_
  refine zs ?_
  refine zB ?_
  refine nT (zr (rT ?_))
  cases soI h
  exact zq
 ·replace h:=cF a h
  refine zU ?_
  refine zk (nT (zs ?_))
  refine zB ?_
  refine nT (zr ?_)
  cases soI h
  exact zq

theorem Z61w {A:Ar} (hA:SA A) {k l:List D} {m i:Int} (h:Z61 A k l m=some i):ACall Tryz.prog 61 [zl 1 k,zl 1 l,zi m] [] (zi i) []:=by
 unfold Z61 at h
 refine zI Tryz.func61 ?_
 refine zs ?_
 refine zA ?_
 refine nT (zs (zn ?_))
 obtain ⟨g,o,h⟩:=bindS h
 refine zC (Z67w hA o) ?_ { tk:=[10] }
 refine zE ?_ { tk:=[10] }
 refine nT (zs (zs ?_))
 obtain ⟨j,a,h⟩:=bindS h
 refine AWp.cutN [7,17] [] 0 (lb rfl) (fun τ=>τ={ env:=[(7,zi g),(17,.d (.bool j))],heap:=[],n:=19 }) ?_ ?_
 ·skip
  refine zn ?_
  rcases tf (A.zeq g 0) with e | e
  ·replace a:=cT e a
   obtain ⟨r,p,a⟩:=bindS a
   refine zD (Z77w hA p) ?_
   refine zF ?_
   cases soI a
   exact zO
  ·replace a:=cF e a
   refine zF ?_
   cases soI a
   exact zO
 ·rintro _ rfl
  refine nT ?_
  obtain ⟨q,b,h⟩:=bindS h
  refine AWp.cutN [7] [] 0 (lb rfl) (fun τ=>τ={ env:=[(7,zi q)],heap:=[],n:=19 }) ?_ ?_
  ·skip
   rcases tf j with c | c
   ·replace b:=cT c b
    refine zT ?_
    refine zB ?_
    cases soI b
    exact zO
   ·replace b:=cF c b
    refine zU ?_
    refine zk ?_
    cases soI b
    exact zO
  ·rintro _ rfl
   refine nT (zs ?_)
   refine zA ?_ { tk:=[7,18] }
   refine nT (zr ?_)
   cases soI h
   exact zq

theorem Z20w {A:Ar} (hA:SA A) {e g:Int} {i j s u:List D} {v:Int} {q:List D} {r:Int} (h:Z20 A e g i j s u v=some (q,r)):ACall Tryz.prog 20 [.d (.agg [.int .i64 e,.int .i64 g,.list 1 i,.list 1 j]),zl 1 s,zl 1 u,zi v] [] (.tuple [zl 1 q,zi r]) []:=by
 unfold Z20 at h
 refine zI Tryz.func20 ?_
 refine zs ?_
 refine zA ?_
 refine nT (zs (zn ?_))
 obtain ⟨M,J,h⟩:=bindS h
 refine zC (Z60w hA J) ?_
 refine zE ?_
 refine nT (zs (zs ?_))
 refine zA ?_
 refine nT ?_
 obtain ⟨z,b,h⟩:=bindS h
 refine AWp.cutN [1,2,3,4,10] [] 0 (lb rfl) (fun τ=>τ={ env:=[(1,zl 1 s),(2,zl 1 u),(3,zi v),(4,(.lbox [zi e,zi g,zl 1 i,zl 1 j])),(10,zi z)],heap:=[],n:=52 }) ?_ ?_
 ·skip
  rcases tf (A.zeq M 0) with k | k
  ·replace b:=cT k b
   refine zT ?_
   refine zn ?_
   obtain ⟨e0,C,b⟩:=bindS b
   refine zD (Z61w hA C) ?_
   refine zF ?_
   cases soI b
   exact zO
  ·replace b:=cF k b
   refine zU ?_
   refine zk ?_
   cases soI b
   exact zO
 ·rintro _ rfl
  refine nT (zs (zs ?_))
  refine zA ?_
  refine nT ?_
  rcases tf (A.zeq z 0) with l | l
  ·replace h:=cT l h
   refine zU ?_
   refine zk (nT (zs (zn ?_)))
   obtain ⟨y,E,h⟩:=bindS h
   refine zD (Z62w hA E) ?_
   refine zF ?_
   refine nT (zs (zs ?_))
   refine zB ?_
   refine nT (zb ?_)
   obtain ⟨g0,K,B,w,c⟩:=bindK h
   refine AWp.cutX 0 [] [] 0 (lb rfl) (fun τ=>B (.inl ())=some (q,r)/\τ={ env:=[],heap:=[],n:=52 }) ?_ ?_
   ·skip
    refine AWp.iter K [4,11,12] [] 0 (lb rfl) (fun p=>{ env:=[(4,(.lbox [zi e,zi g,zl 1 i,zl 1 j])),(11,zl 2 y),(12,zi p)],heap:=[],n:=52 }) ⟨rfl,zv⟩ ?_
    rintro p a0 a
    dsimp only [Z20L0] at a
    refine zs (zs ?_)
    refine zA ?_
    refine nT ?_
    rcases tf (A.zlt p (A.len y)) with m | m
    ·replace a:=cT m a
     refine zT ?_
     refine zk (nT (zs (zb (zs ?_))))
     refine AWp.regionDraw rfl (lb rfl) ?_
     obtain ⟨⟨N,O,P,Q,R,S,U,V,W,X,Y⟩,F,a⟩:=bindS a
     obtain ⟨b0,d0⟩:=gtI F
     obtain ⟨L,G,a⟩:=bindS a
     refine DOps.c0 hT hA {} rfl zu (Z63w hA G) rfl rfl (lb rfl) rfl rfl ?_
     refine DOps.cd hT hA {} rfl zu (by kernel_rfl) ?_
     refine nT ?_
     rcases tf L with o | o
     ·replace a:=cT o a
      refine zU ?_
      refine zk (nB (nT ?_))
      refine zB ?_
      exact nT ⟨_,(soI a).symm,rfl,zv⟩
     ·replace a:=cF o a
      refine zT ?_
      refine zs ?_
      refine zB ?_
      refine nT (zr (rB (rT (rT ?_))))
      refine exL a fun hx => ?_
      subst hx
      refine oxR ?_
      replace c:=(eR (w _ c))
      refine rB (rT ?_)
      cases soI c
      exact zq
    ·replace a:=cF m a
     refine zU ?_
     refine AWp.exit (xT (xT ?_))
     refine exL a fun hx => ?_
     subst hx
     exact oxI ⟨rfl,c,zv⟩
   ·rintro _ ⟨c,rfl⟩
    have h:=(eL (w _ c))
    refine xB (nT (zs ?_))
    refine zA ?_
    refine nT (zr ?_)
    cases soI h
    exact zq
  ·replace h:=cF l h
   refine zT ?_
   refine zs ?_
   refine zB ?_
   refine nT (zr (rT ?_))
   cases soI h
   exact zq

theorem Z19w {A:Ar} (hA:SA A) {e g:Int} {i j k l:List D} {m:Int} {b:Bool} {c:Int} (h:Z19 A e g i j k l m=some (b,c)):ACall Tryz.prog 19 [.d (.agg [.int .i64 e,.int .i64 g,.list 1 i,.list 1 j]),zl 1 k,zl 1 l,zi m] [] (.tuple [.d (.bool b),zi c]) []:=by
 unfold Z19 at h
 refine zI Tryz.func19 ?_
 refine zs ?_
 refine zA ?_
 refine nT (zs (zn ?_))
 obtain ⟨⟨p,o⟩,n,h⟩:=bindS h
 refine zC (Z20w hA n) ?_
 refine zE ?_
 refine nT (zs (zs ?_))
 refine zA ?_
 refine nT ?_
 rcases tf (A.zeq o 5) with a | a
 ·replace h:=cT a h
  refine zT ?_
  refine zs ?_
  refine zB ?_
  refine nT (zr (rT ?_))
  cases soI h
  exact zq
 ·replace h:=cF a h
  refine zU ?_
  refine zk (nT (zs ?_))
  refine zB ?_
  refine nT (zr ?_)
  cases soI h
  exact zq

theorem Z4w {A:Ar} (hA:SA A) {k l:Int} {m o p q:List D} {r:Int} {j:Bool} (h:Z4 A k l m o p q r=some j):ACall Tryz.prog 4 [.d (.agg [.int .i64 k,.int .i64 l,.list 1 m,.list 1 o,.list 1 p,.list 1 q]),zi r] [] (.d (.bool j)) []:=by
 unfold Z4 at h
 refine zI Tryz.func4 ?_
 refine zs ?_
 refine zA ?_
 refine nT (zs (zs (zn ?_)))
 obtain ⟨N,C,h⟩:=bindS h
 refine zC (Z18w hA C) ?_
 refine zE ?_
 refine nT ?_
 rcases tf N with b | b
 ·replace h:=cT b h
  refine zT ?_
  refine zs (zn ?_)
  obtain ⟨P,s,h⟩:=bindS h
  refine zD (Z9w hA s) ?_ { tk:=[15] }
  refine zF ?_ { tk:=[15] }
  refine nT (zr (rT ?_))
  cases soI h
  exact zq
 ·replace h:=cF b h
  refine zU ?_
  refine zk (nT (zs (zn ?_)))
  obtain ⟨⟨E,F⟩,u,h⟩:=bindS h
  refine zD (Z10w hA u) ?_
  refine zF ?_
  refine nT (zs (zn ?_))
  obtain ⟨⟨G,J⟩,v,h⟩:=bindS h
  refine zD (Z19w hA v) ?_
  refine zF ?_
  refine nT (zs (zn ?_))
  obtain ⟨⟨Q,K⟩,w,h⟩:=bindS h
  refine zD (Z11w hA w) ?_
  refine zF ?_
  refine nT (zs (zn ?_))
  obtain ⟨⟨R,L⟩,y,h⟩:=bindS h
  refine zD (Z20w hA y) ?_
  refine zF ?_
  refine nT (zs ?_)
  obtain ⟨O,a,h⟩:=bindS h
  refine AWp.cutN [4] [] 0 (lb rfl) (fun τ=>τ={ env:=[(4,.d (.bool O))],heap:=[],n:=81 }) ?_ ?_
  ·skip
   refine zn ?_
   rcases tf (A.beq E G) with c | c
   ·replace a:=cT c a
    rcases tf (A.zeq F J) with e | e
    ·replace a:=cT e a
     obtain ⟨M,z,a⟩:=bindS a
     refine zD (Z21w hA z) ?_ { tk:=[80] }
     rcases tf M with g | g
     ·replace a:=cT g a
      rcases tf (A.zeq K L) with i | i
      ·replace a:=cT i a
       obtain ⟨S,B,a⟩:=bindS a
       refine zD (Z9w hA B) ?_ { tk:=[80] }
       refine zF ?_ { tk:=[80] }
       cases soI a
       exact zO
      ·replace a:=cF i a
       refine zF ?_ { tk:=[80] }
       cases soI a
       exact zO
     ·replace a:=cF g a
      refine zF ?_ { tk:=[80] }
      cases soI a
      exact zO
    ·replace a:=cF e a
     refine zF ?_ { tk:=[80] }
     cases soI a
     exact zO
   ·replace a:=cF c a
    refine zF ?_ { tk:=[80] }
    cases soI a
    exact zO
  ·rintro _ rfl
   refine nT (zr ?_)
   cases soI h
   exact zq
end Go.Am
