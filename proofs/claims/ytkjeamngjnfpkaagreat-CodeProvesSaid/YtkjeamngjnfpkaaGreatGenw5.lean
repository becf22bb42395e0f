/- Own text: Genw5. -/
import Derived.Test.YtkjeamngjnfpkaaGreatGenw4
set_option maxRecDepth 100000
set_option maxHeartbeats 2000000
set_option linter.unusedVariables false
set_option linter.unusedSimpArgs false
namespace Go.Am
open Go Go.Proofs
theorem Z36aBw {A:Ar} (hA:SA A) {self162:List D→List D→Int→Int→Int→Int→Int→Int→Int→Int→Int→Int→Int→Int→Int→Int→Int→Int→Int→Int→List D→List D→Int→List D→List D→Int→Int→List D→List D→Option (Bool)} (p0 : ∀ {b q:List D} {v w y z B C E c e g i j k l m o p r:Int} {s u:List D} {F:Int} {G J:List D} {K L:Int} {M N:List D} {y1:Bool},self162 b q v w y z B C E c e g i j k l m o p r s u F G J K L M N=some y1→ACall Tryz.prog 36 [.d (.agg [.list 1 b,.list 1 q,.int .i64 v,.int .i64 w,.int .i64 y,.int .i64 z,.int .i64 B,.int .i64 C,.int .i64 E,.int .i64 c,.int .i64 e,.int .i64 g,.int .i64 i,.int .i64 j,.int .i64 k,.int .i64 l,.int .i64 m,.int .i64 o,.int .i64 p,.int .i64 r,.list 6 s,.list 1 u]),zi F,zl 1 G,zl 1 J,(.func 54 [] [.iptr [.int .i64 K,.int .i64 L,.list 1 M,.list 1 N]])] [] (.d (.bool y1)) []) {b q:List D} {v w y z B C E c e g i j k l m o p r:Int} {s u:List D} {F:Int} {G J:List D} {K L:Int} {M N:List D} {X:Bool} (h:Z36aB A self162 b q v w y z B C E c e g i j k l m o p r s u F G J K L M N=some X):ACall Tryz.prog 36 [.d (.agg [.list 1 b,.list 1 q,.int .i64 v,.int .i64 w,.int .i64 y,.int .i64 z,.int .i64 B,.int .i64 C,.int .i64 E,.int .i64 c,.int .i64 e,.int .i64 g,.int .i64 i,.int .i64 j,.int .i64 k,.int .i64 l,.int .i64 m,.int .i64 o,.int .i64 p,.int .i64 r,.list 6 s,.list 1 u]),zi F,zl 1 G,zl 1 J,(.func 54 [] [.iptr [.int .i64 K,.int .i64 L,.list 1 M,.list 1 N]])] [] (.d (.bool X)) []:=by
 unfold Z36aB at h
 refine zI Tryz.func36 ?_
 refine zs ?_
 refine zA ?_ { esc:=[5] }
 refine nT (zs (zn ?_))
 obtain ⟨Q,m0,h⟩:=bindS h
 refine zC (Z55aw hA m0) ?_
 refine zE ?_
 refine nT (zs (zs ?_))
 obtain ⟨a0,P,h⟩:=bindS h
 refine AWp.cutW (fun τ=>τ={ env:=[(1,zi F),(2,zl 1 G),(3,zl 1 J),(4,(.func 54 [] [.iptr [.int .i64 K,.int .i64 L,.list 1 M,.list 1 N]])),(5,.ptr 0 0),(11,zl 1 Q),(24,.d (.bool a0))],heap:=[.cells [zl 1 b,zl 1 q,zi v,zi w,zi y,zi z,zi B,zi C,zi E,zi c,zi e,zi g,zi i,zi j,zi k,zi l,zi m,zi o,zi p,zi r,zl 6 s,zl 1 u]],n:=55 }) ?_ ?_
 ·skip
  rcases tf (A.zeq (A.len Q) 0) with U | U
  ·replace P:=cT U P
   refine zB ?_
   cases soI P
   exact oWi ⟨_,zR [some 0] [1,2,3,4,5,11,24],rfl⟩
  ·replace P:=cF U P
   refine zB ?_
   cases soI P
   exact oWi ⟨_,zR [some 0] [1,2,3,4,5,11,24],rfl⟩
 ·rintro _ rfl
  refine nT ?_
  rcases tf a0 with V | V
  ·replace h:=cT V h
   refine zT ?_
   refine zs ?_
   refine AWp.weak (Wk.freezeObj 0 [5] (ds:=[.list 1 b,.list 1 q,.int .i64 v,.int .i64 w,.int .i64 y,.int .i64 z,.int .i64 B,.int .i64 C,.int .i64 E,.int .i64 c,.int .i64 e,.int .i64 g,.int .i64 i,.int .i64 j,.int .i64 k,.int .i64 l,.int .i64 m,.int .i64 o,.int .i64 p,.int .i64 r,.list 6 s,.list 1 u]) rfl rfl) ?_
   refine zn ?_
   obtain ⟨j3,n0,h⟩:=bindS h
   refine zD (Z54w hA n0) ?_ { tk:=[27] }
   refine zF ?_ { tk:=[27] }
   refine nT (zr (rT ?_))
   cases soI h
   exact zq
  ·replace h:=cF V h
   refine zU ?_
   refine zk (nT (zs (zs ?_)))
   refine zB ?_
   refine nT (zb ?_)
   obtain ⟨k3,o0,b0,Y,O⟩:=bindK h
   refine AWp.cutX 0 [] [] 1 (lb rfl) (fun τ=>b0 (.inl ())=some X∧τ={ env:=[],heap:=[.cells [zl 1 b,zl 1 q,zi v,zi w,zi y,zi z,zi B,zi C,zi E,zi c,zi e,zi g,zi i,zi j,zi k,zi l,zi m,zi o,zi p,zi r,zl 6 s,zl 1 u]],n:=55 }) ?_ ?_
   ·skip
    refine AWp.iter o0 [1,2,3,4,5,28,29,30] [] 1 (lb rfl) (fun W=>{ env:=[(1,zi F),(2,zl 1 G),(3,zl 1 J),(4,(.func 54 [] [.iptr [.int .i64 K,.int .i64 L,.list 1 M,.list 1 N]])),(5,.ptr 0 0),(28,zl 1 Q),(29,(.d (.int .i64 (A.len Q)))),(30,zi W)],heap:=[.cells [zl 1 b,zl 1 q,zi v,zi w,zi y,zi z,zi B,zi C,zi E,zi c,zi e,zi g,zi i,zi j,zi k,zi l,zi m,zi o,zi p,zi r,zl 6 s,zl 1 u]],n:=55 }) ⟨rfl,zv⟩ ?_
    rintro W s1 a
    dsimp only [Z36aL0] at a
    refine zs ?_
    refine zA ?_
    refine nT (zs ?_)
    rcases tf (A.zlt W (A.len Q)) with R | R
    ·replace a:=cT R a
     refine zT ?_
     refine zk (nT (zs (zb (zs ?_))))
     obtain ⟨r1,d0,a⟩:=bindS a
     obtain ⟨u1,v1⟩:=gtI d0
     refine zB ?_
     refine nT (zs (zn ?_))
     obtain ⟨⟨q0,r0,s0,u0,v0,w0,y0,z0,a1,b1,c1,d1,e1,g1,i1,j1,k1,l1,m1,n1,o1,p1⟩,e0,a⟩:=bindS a
     refine zD (ACall.shift (Z83w hA e0) rfl rfl [.cells [zl 1 b,zl 1 q,zi v,zi w,zi y,zi z,zi B,zi C,zi E,zi c,zi e,zi g,zi i,zi j,zi k,zi l,zi m,zi o,zi p,zi r,zl 6 s,zl 1 u]] rfl rfl rfl rfl) ?_ { tk:=[35],esc:=[14] }
     refine zF ?_ { tk:=[35],esc:=[14] }
     refine nT (zs (zn ?_))
     obtain ⟨⟨j2,k2,l2,m2,n2,o2,p2,q2,r2,s2,u2,v2,w2,y2,z2,a3,b3,c3,d3,e3,g3,i3⟩,g0,a⟩:=bindS a
     refine zD (ACall.emb (Z84w hA g0) [some 7,some 1,some 2,some 3,some 4,some 5,some 6] [.cells [zl 1 b,zl 1 q,zi v,zi w,zi y,zi z,zi B,zi C,zi E,zi c,zi e,zi g,zi i,zi j,zi k,zi l,zi m,zi o,zi p,zi r,zl 6 s,zl 1 u],.gro 6 o1,.dead,.dead,.gro 1 p1,.dead,.dead,.cells [zl 1 q0,zl 1 r0,zi s0,zi u0,zi v0,zi w0,zi y0,zi z0,zi a1,zi b1,zi c1,zi d1,zi e1,zi g1,zi i1,zi j1,zi k1,zi l1,zi m1,zi n1,.gref 1 6,.gref 4 1]] rfl rfl rfl rfl rfl rfl rfl) ?_
     refine zF ?_
     refine nT (zs ?_)
     refine AWp.weak (Wk.freezeG 7 20 rfl rfl rfl) ?_
     refine AWp.weak (Wk.freezeG 7 21 rfl rfl rfl) ?_
     refine AWp.regionDraw rfl (lb rfl) ?_
     obtain ⟨g2,i0,a⟩:=bindS a
     obtain ⟨w1,z1,a2,b2⟩:=slI i0
     obtain ⟨_,j0,a⟩:=bindS a
     have c2:=ckI j0
     obtain ⟨i2,k0,a⟩:=bindS a
     obtain ⟨d2,e2⟩:=apI k0
     obtain ⟨q1,l0,a⟩:=bindS a
     refine DOps.c0 hT hA {} rfl zu (p0 l0) rfl rfl (lb rfl) rfl rfl ?_
     refine DOps.cd hT hA {} rfl zu (by kernel_rfl) ?_
     refine nT ?_
     rcases tf q1 with S | S
     ·replace a:=cT S a
      refine zU ?_
      refine zk (nB (nT ?_))
      refine zB ?_
      exact nT ⟨_,(soI a).symm,rfl,zv⟩
     ·replace a:=cF S a
      refine zT ?_
      refine zs ?_
      refine zB ?_
      refine nT (zr (rB (rT (rT ?_))))
      refine exL a fun hx => ?_
      subst hx
      refine oxR ?_
      replace O:=(eR (Y _ O))
      refine rB (rT ?_)
      cases soI O
      exact zq
    ·replace a:=cF R a
     refine zU ?_
     refine AWp.exit (xT (xT ?_))
     refine exL a fun hx => ?_
     subst hx
     exact oxI ⟨rfl,O,zv⟩
   ·rintro _ ⟨O,rfl⟩
    have h:=(eL (Y _ O))
    refine xB (nT (zs ?_))
    refine zA ?_
    refine nT (zr ?_)
    cases soI h
    exact zq

theorem Z36aRw {A:Ar} (hA:SA A) : ∀ (n:Nat) {b q:List D} {F G J K L M N c e g i j k l m o p r:Int} {s u:List D} {v:Int} {w y:List D} {z B:Int} {C E:List D} {a:Bool},Z36aR A n b q F G J K L M N c e g i j k l m o p r s u v w y z B C E=some a→ACall Tryz.prog 36 [.d (.agg [.list 1 b,.list 1 q,.int .i64 F,.int .i64 G,.int .i64 J,.int .i64 K,.int .i64 L,.int .i64 M,.int .i64 N,.int .i64 c,.int .i64 e,.int .i64 g,.int .i64 i,.int .i64 j,.int .i64 k,.int .i64 l,.int .i64 m,.int .i64 o,.int .i64 p,.int .i64 r,.list 6 s,.list 1 u]),zi v,zl 1 w,zl 1 y,(.func 54 [] [.iptr [.int .i64 z,.int .i64 B,.list 1 C,.list 1 E]])] [] (.d (.bool a)) []
 | 0,_,_,_,_,_,_,_,_,_,_,_,_,_,_,_,_,_,_,_,_,_,_,_,_,_,_,_,_,_,_,h=>by cases h
 | n+1,_,_,_,_,_,_,_,_,_,_,_,_,_,_,_,_,_,_,_,_,_,_,_,_,_,_,_,_,_,_,h=>Z36aBw hA (fun h=>Z36aRw hA n h) h

theorem Z36aw {A:Ar} (hA:SA A) {b p:List D} {E F G J K L M c e g i j k l m n o q:Int} {r s:List D} {u:Int} {v w:List D} {y z:Int} {B C:List D} {a:Bool} (h:Z36a A b p E F G J K L M c e g i j k l m n o q r s u v w y z B C=some a):ACall Tryz.prog 36 [.d (.agg [.list 1 b,.list 1 p,.int .i64 E,.int .i64 F,.int .i64 G,.int .i64 J,.int .i64 K,.int .i64 L,.int .i64 M,.int .i64 c,.int .i64 e,.int .i64 g,.int .i64 i,.int .i64 j,.int .i64 k,.int .i64 l,.int .i64 m,.int .i64 n,.int .i64 o,.int .i64 q,.list 6 r,.list 1 s]),zi u,zl 1 v,zl 1 w,(.func 54 [] [.iptr [.int .i64 y,.int .i64 z,.list 1 B,.list 1 C]])] [] (.d (.bool a)) []:=Z36aRw hA fuel h

theorem Z36w {A:Ar} (hA:SA A) {b q:List D} {v w y z B C E c e g i j k l m o p r K:Int} {L M:List D} {N O:Int} {P Q s u:List D} {X:Bool} (h:Z36 A b q v w y z B C E c e g i j k l m o p r K L M N O P Q s u=some X):ACall Tryz.prog 36 [.agg [zl 1 b,zl 1 q,zi v,zi w,zi y,zi z,zi B,zi C,zi E,zi c,zi e,zi g,zi i,zi j,zi k,zi l,zi m,zi o,zi p,zi r,.gref 0 6,.gref 3 1],zi K,zl 1 L,zl 1 M,(.func 54 [] [.iptr [.int .i64 N,.int .i64 O,.list 1 P,.list 1 Q]])] [.gro 6 s,.dead,.dead,.gro 1 u,.dead,.dead] (.d (.bool X)) [.dead,.dead,.dead,.dead,.dead,.dead]:=by
 unfold Z36 at h
 refine zI Tryz.func36 ?_
 refine zs ?_
 refine zA ?_ { esc:=[5] }
 refine nT ?_
 refine AWp.weak (Wk.freezeG 6 20 rfl rfl rfl) ?_
 refine AWp.weak (Wk.freezeG 6 21 rfl rfl rfl) ?_
 refine zs (zn ?_)
 obtain ⟨J,m0,h⟩:=bindS h
 refine zC (ACall.emb (Z55aw hA m0) [some 6] [.dead,.dead,.dead,.dead,.dead,.dead,.cells [zl 1 b,zl 1 q,zi v,zi w,zi y,zi z,zi B,zi C,zi E,zi c,zi e,zi g,zi i,zi j,zi k,zi l,zi m,zi o,zi p,zi r,zl 6 s,zl 1 u]] rfl rfl rfl rfl rfl rfl rfl) ?_
 refine zE ?_
 refine nT (zs (zs ?_))
 obtain ⟨a0,G,h⟩:=bindS h
 refine AWp.cutN [1,2,3,4,5,11,24] [] 7 (lb rfl) (fun τ=>τ={ env:=[(1,zi K),(2,zl 1 L),(3,zl 1 M),(4,(.func 54 [] [.iptr [.int .i64 N,.int .i64 O,.list 1 P,.list 1 Q]])),(5,.ptr 6 0),(11,zl 1 J),(24,.d (.bool a0))],heap:=[.dead,.dead,.dead,.dead,.dead,.dead,.cells [zl 1 b,zl 1 q,zi v,zi w,zi y,zi z,zi B,zi C,zi E,zi c,zi e,zi g,zi i,zi j,zi k,zi l,zi m,zi o,zi p,zi r,zl 6 s,zl 1 u]],n:=55 }) ?_ ?_
 ·skip
  rcases tf (A.zeq (A.len J) 0) with U | U
  ·replace G:=cT U G
   refine zB ?_
   cases soI G
   exact zO
  ·replace G:=cF U G
   refine zB ?_
   cases soI G
   exact zO
 ·rintro _ rfl
  refine nT ?_
  rcases tf a0 with V | V
  ·replace h:=cT V h
   refine zT ?_
   refine zs ?_
   refine AWp.weak (Wk.freezeObj 6 [5] (ds:=[.list 1 b,.list 1 q,.int .i64 v,.int .i64 w,.int .i64 y,.int .i64 z,.int .i64 B,.int .i64 C,.int .i64 E,.int .i64 c,.int .i64 e,.int .i64 g,.int .i64 i,.int .i64 j,.int .i64 k,.int .i64 l,.int .i64 m,.int .i64 o,.int .i64 p,.int .i64 r,.list 6 s,.list 1 u]) rfl rfl) ?_
   refine zn ?_
   obtain ⟨g3,n0,h⟩:=bindS h
   refine zD (Z54w hA n0) ?_ { tk:=[27] }
   refine zF ?_ { tk:=[27] }
   refine nT (zr (rT ?_))
   cases soI h
   exact zq
  ·replace h:=cF V h
   refine zU ?_
   refine zk (nT (zs (zs ?_)))
   refine zB ?_
   refine nT (zb ?_)
   obtain ⟨i3,o0,b0,Y,F⟩:=bindK h
   refine AWp.cutX 0 [] [] 7 (lb rfl) (fun τ=>b0 (.inl ())=some X∧τ={ env:=[],heap:=[.dead,.dead,.dead,.dead,.dead,.dead,.cells [zl 1 b,zl 1 q,zi v,zi w,zi y,zi z,zi B,zi C,zi E,zi c,zi e,zi g,zi i,zi j,zi k,zi l,zi m,zi o,zi p,zi r,zl 6 s,zl 1 u]],n:=55 }) ?_ ?_
   ·skip
    refine AWp.iter o0 [1,2,3,4,5,28,29,30] [] 7 (lb rfl) (fun W=>{ env:=[(1,zi K),(2,zl 1 L),(3,zl 1 M),(4,(.func 54 [] [.iptr [.int .i64 N,.int .i64 O,.list 1 P,.list 1 Q]])),(5,.ptr 6 0),(28,zl 1 J),(29,(.d (.int .i64 (A.len J)))),(30,zi W)],heap:=[.dead,.dead,.dead,.dead,.dead,.dead,.cells [zl 1 b,zl 1 q,zi v,zi w,zi y,zi z,zi B,zi C,zi E,zi c,zi e,zi g,zi i,zi j,zi k,zi l,zi m,zi o,zi p,zi r,zl 6 s,zl 1 u]],n:=55 }) ⟨rfl,zv⟩ ?_
    rintro W r1 a
    dsimp only [Z36L0] at a
    refine zs ?_
    refine zA ?_
    refine nT (zs ?_)
    rcases tf (A.zlt W (A.len J)) with R | R
    ·replace a:=cT R a
     refine zT ?_
     refine zk (nT (zs (zb (zs ?_))))
     obtain ⟨q1,d0,a⟩:=bindS a
     obtain ⟨s1,u1⟩:=gtI d0
     refine zB ?_
     refine nT (zs (zn ?_))
     obtain ⟨⟨p0,q0,r0,s0,u0,v0,w0,y0,z0,a1,b1,c1,d1,e1,g1,i1,j1,k1,l1,m1,n1,o1⟩,e0,a⟩:=bindS a
     refine zD (ACall.shift (Z83w hA e0) rfl rfl [.dead,.dead,.dead,.dead,.dead,.dead,.cells [zl 1 b,zl 1 q,zi v,zi w,zi y,zi z,zi B,zi C,zi E,zi c,zi e,zi g,zi i,zi j,zi k,zi l,zi m,zi o,zi p,zi r,zl 6 s,zl 1 u]] rfl rfl rfl rfl) ?_ { tk:=[35],esc:=[14] }
     refine zF ?_ { tk:=[35],esc:=[14] }
     refine nT (zs (zn ?_))
     obtain ⟨⟨g2,i2,j2,k2,l2,m2,n2,o2,p2,q2,r2,s2,u2,v2,w2,y2,z2,a3,b3,c3,d3,e3⟩,g0,a⟩:=bindS a
     refine zD (ACall.emb (Z84w hA g0) [some 13,some 7,some 8,some 9,some 10,some 11,some 12] [.dead,.dead,.dead,.dead,.dead,.dead,.cells [zl 1 b,zl 1 q,zi v,zi w,zi y,zi z,zi B,zi C,zi E,zi c,zi e,zi g,zi i,zi j,zi k,zi l,zi m,zi o,zi p,zi r,zl 6 s,zl 1 u],.gro 6 n1,.dead,.dead,.gro 1 o1,.dead,.dead,.cells [zl 1 p0,zl 1 q0,zi r0,zi s0,zi u0,zi v0,zi w0,zi y0,zi z0,zi a1,zi b1,zi c1,zi d1,zi e1,zi g1,zi i1,zi j1,zi k1,zi l1,zi m1,.gref 7 6,.gref 10 1]] rfl rfl rfl rfl rfl rfl rfl) ?_
     refine zF ?_
     refine nT (zs ?_)
     refine AWp.weak (Wk.freezeG 13 20 rfl rfl rfl) ?_
     refine AWp.weak (Wk.freezeG 13 21 rfl rfl rfl) ?_
     refine AWp.regionDraw rfl (lb rfl) ?_
     obtain ⟨d2,i0,a⟩:=bindS a
     obtain ⟨v1,w1,y1,z1⟩:=slI i0
     obtain ⟨_,j0,a⟩:=bindS a
     have a2:=ckI j0
     obtain ⟨e2,k0,a⟩:=bindS a
     obtain ⟨b2,c2⟩:=apI k0
     obtain ⟨p1,l0,a⟩:=bindS a
     refine DOps.c0 hT hA {} rfl zu (Z36aw hA l0) rfl rfl (lb rfl) rfl rfl ?_
     refine DOps.cd hT hA {} rfl zu (by kernel_rfl) ?_
     refine nT ?_
     rcases tf p1 with S | S
     ·replace a:=cT S a
      refine zU ?_
      refine zk (nB (nT ?_))
      refine zB ?_
      exact nT ⟨_,(soI a).symm,rfl,zv⟩
     ·replace a:=cF S a
      refine zT ?_
      refine zs ?_
      refine zB ?_
      refine nT (zr (rB (rT (rT ?_))))
      refine exL a fun hx => ?_
      subst hx
      refine oxR ?_
      replace F:=(eR (Y _ F))
      refine rB (rT ?_)
      cases soI F
      exact zq
    ·replace a:=cF R a
     refine zU ?_
     refine AWp.exit (xT (xT ?_))
     refine exL a fun hx => ?_
     subst hx
     exact oxI ⟨rfl,F,zv⟩
   ·rintro _ ⟨F,rfl⟩
    have h:=(eL (Y _ F))
    refine xB (nT (zs ?_))
    refine zA ?_
    refine nT (zr ?_)
    cases soI h
    exact zq

theorem Z16w {A:Ar} (hA:SA A) {c e:Int} {g i l m n:List D} {j:Bool} {k:Int} (h:Z16 A c e g i l m n=some (j,k)):ACall Tryz.prog 16 [.d (.agg [.int .i64 c,.int .i64 e,.list 1 g,.list 1 i]),zl 1 l,zl 1 m,zl 1 n] [] (.tuple [.d (.bool j),zi k]) []:=by
 unfold Z16 at h
 refine zI Tryz.func16 ?_
 refine zs ?_
 refine zA ?_
 refine nT ?_
 refine AWp.freezeBox 4 [.int .i64 c,.int .i64 e,.list 1 g,.list 1 i] rfl rfl ?_
 refine zs (zs (zn ?_))
 obtain ⟨u,r,h⟩:=bindS h
 refine zC (Z33w hA r) ?_
 refine zE ?_
 refine nT (zb (zs ?_))
 refine zA ?_
 refine nT ?_
 rcases tf (A.zeq u 0) with a | a
 ·replace h:=cT a h
  refine zU ?_
  refine zs (zn ?_)
  obtain ⟨s,o,h⟩:=bindS h
  refine zD (Z53w hA o) ?_
  refine zF ?_
  refine nT ?_
  rcases tf s with b | b
  ·replace h:=cT b h
   refine zU ?_
   refine zk (nB (nT (zs (zn ?_))))
   obtain ⟨⟨v,w⟩,p,h⟩:=bindS h
   refine zD (Z35w hA p) ?_
   obtain ⟨y,q,h⟩:=bindS h
   refine zD (Z36w hA q) ?_
   refine zF ?_
   refine nT (zr ?_)
   cases soI h
   exact zq
  ·replace h:=cF b h
   refine zT ?_
   refine zs ?_
   refine zB ?_
   refine nT (zr (rB (rT ?_)))
   cases soI h
   exact zq
 ·replace h:=cF a h
  refine zT ?_
  refine zs ?_
  refine zB ?_
  refine nT (zr (rB (rT ?_)))
  cases soI h
  exact zq

theorem Z94cw {A:Ar} (hA:SA A) {r G:List D} {M N O P Q R S s u v w y z B C E F J:Int} {K L:List D} {i:Int} {q:Bool} (h:Z94c A r G M N O P Q R S s u v w y z B C E F J K L i=some q):ACall Tryz.prog 94 [.iptr [.list 1 r,.list 1 G,.int .i64 M,.int .i64 N,.int .i64 O,.int .i64 P,.int .i64 Q,.int .i64 R,.int .i64 S,.int .i64 s,.int .i64 u,.int .i64 v,.int .i64 w,.int .i64 y,.int .i64 z,.int .i64 B,.int .i64 C,.int .i64 E,.int .i64 F,.int .i64 J,.list 6 K,.list 1 L],zi i] [] (.d (.bool q)) []:=by
 unfold Z94c at h
 refine zI Tryz.func94 ?_
 refine zs ?_
 refine zA ?_
 refine nT (zs ?_)
 obtain ⟨i0,a,h⟩:=bindS h
 refine AWp.cutN [4] [] 0 (lb rfl) (fun τ=>τ={ env:=[(4,.d (.bool i0))],heap:=[],n:=31 }) ?_ ?_
 ·skip
  refine AWp.regionDraw rfl (lb rfl) ?_
  obtain ⟨g0,U,a⟩:=bindS a
  refine DOps.c0 hT hA { tk:=[30] } rfl zc (Z82w hA U) rfl rfl (lb rfl) rfl rfl ?_
  rcases tf g0 with b | b
  ·replace a:=cT b a
   rcases tf (A.zeq i 0) with c | c
   ·replace a:=cT c a
    obtain ⟨X,Y,j⟩:=ixF hA (n:=2) c (by decide)
    obtain ⟨j0,V,a⟩:=bindS a
    obtain ⟨a0,k⟩:=gtI V
    have l:=k
    rw [j] at l
    refine DOps.cd hT hA { tk:=[30] } rfl (by (repeat (cbv;simp only [b,X,Y,j,l,a0,k]));try cbv) (by kernel_rfl) ?_
    cases soI a
    exact (zO (g:=(by first | (cbv;done) | ((repeat (cbv;simp only [b]));try cbv))))
   ·replace a:=cF c a
    rcases tf (A.zeq i 1) with e | e
    ·replace a:=cT e a
     obtain ⟨b0,d0,m⟩:=ixF hA (n:=2) e (by decide)
     obtain ⟨k0,W,a⟩:=bindS a
     obtain ⟨e0,o⟩:=gtI W
     have p:=o
     rw [m] at p
     refine DOps.cd hT hA { tk:=[30] } rfl (by (repeat (cbv;simp only [b,b0,d0,m,p,e0,o]));try cbv) (by kernel_rfl) ?_
     cases soI a
     exact (zO (g:=(by first | (cbv;done) | ((repeat (cbv;simp only [b]));try cbv))))
    ·replace a:=cF e a
     cases a
  ·replace a:=cF b a
   refine DOps.cd hT hA { tk:=[30] } rfl (by (repeat (cbv;simp only [b]));try cbv) (by kernel_rfl) ?_
   cases soI a
   exact (zO (g:=(by first | (cbv;done) | ((repeat (cbv;simp only [b]));try cbv))))
 ·rintro _ rfl
  refine nT (zr ?_)
  cases soI h
  exact zq

theorem Z55bw {A:Ar} (hA:SA A) {g c:List D} {y z B C E F G i j k l m o p q r s u:Int} {v w N:List D} (h:Z55b A g c y z B C E F G i j k l m o p q r s u v w=some N):ACall Tryz.prog 55 [.iptr [.list 1 g,.list 1 c,.int .i64 y,.int .i64 z,.int .i64 B,.int .i64 C,.int .i64 E,.int .i64 F,.int .i64 G,.int .i64 i,.int .i64 j,.int .i64 k,.int .i64 l,.int .i64 m,.int .i64 o,.int .i64 p,.int .i64 q,.int .i64 r,.int .i64 s,.int .i64 u,.list 6 v,.list 1 w]] [] (.own 1 N) []:=by
 unfold Z55b at h
 refine zI Tryz.func55 ?_
 refine zs ?_
 refine zA ?_
 refine nT (zs ?_)
 refine zA ?_
 refine nT (zs (zs ?_))
 refine zA ?_
 refine nT (zb ?_)
 obtain ⟨c0,U,P,S,L⟩:=bindK h
 refine AWp.cutX 0 [3] [] 0 (lb rfl) (fun τ => ∃ M,P M=some N∧τ={ env:=[(3,(.own 1 M))],heap:=[],n:=22 }) ?_ ?_
 ·skip
  refine AWp.iter U [0,3,9,10] [] 0 (lb rfl) (fun (O,e)=>{ env:=[(0,.iptr [.list 1 g,.list 1 c,.int .i64 y,.int .i64 z,.int .i64 B,.int .i64 C,.int .i64 E,.int .i64 F,.int .i64 G,.int .i64 i,.int .i64 j,.int .i64 k,.int .i64 l,.int .i64 m,.int .i64 o,.int .i64 p,.int .i64 q,.int .i64 r,.int .i64 s,.int .i64 u,.list 6 v,.list 1 w]),(3,(.own 1 O)),(9,(.d (.int .i64 (A.len c)))),(10,zi e)],heap:=[],n:=22 }) ⟨rfl,zc⟩ ?_
  rintro ⟨O,e⟩ X a
  dsimp only [Z55bL0] at a
  refine zs ?_
  refine zA ?_
  refine nT (zs ?_)
  rcases tf (A.zlt e (A.len c)) with J | J
  ·replace a:=cT J a
   refine zT ?_
   refine zk (nT (zs (zb (zs ?_))))
   refine zB ?_
   refine nT (zs (zn ?_))
   obtain ⟨V,Q,a⟩:=bindS a
   refine zD (Z94cw hA Q) ?_
   refine zF ?_
   refine nT ?_
   obtain ⟨W,b,a⟩:=bindS a
   refine AWp.cutN [0,3,9,10] [] 0 (lb rfl) (fun τ=>τ={ env:=[(0,.iptr [.list 1 g,.list 1 c,.int .i64 y,.int .i64 z,.int .i64 B,.int .i64 C,.int .i64 E,.int .i64 F,.int .i64 G,.int .i64 i,.int .i64 j,.int .i64 k,.int .i64 l,.int .i64 m,.int .i64 o,.int .i64 p,.int .i64 q,.int .i64 r,.int .i64 s,.int .i64 u,.list 6 v,.list 1 w]),(3,(.own 1 W)),(9,(.d (.int .i64 (A.len c)))),(10,zi e)],heap:=[],n:=22 }) ?_ ?_
   ·skip
    rcases tf V with K | K
    ·replace b:=cT K b
     refine zT ?_
     obtain ⟨b0,R,b⟩:=bindS b
     obtain ⟨Y,a0⟩:=apI R
     refine zB ?_ { tk:=[3,19] }
     cases soI b
     exact zO
    ·replace b:=cF K b
     refine zU ?_
     refine zk ?_
     cases soI b
     exact zO
   ·rintro _ rfl
    refine nB (nT ?_)
    refine zA ?_
    exact nT ⟨_,(soI a).symm,rfl,zc⟩
  ·replace a:=cF J a
   refine zU ?_
   refine AWp.exit (xT (xT ?_))
   refine exL a fun hx => ?_
   subst hx
   exact oxI ⟨rfl,_,L,zv⟩
 ·rintro _ ⟨M,L,rfl⟩
  have h:=(S _ L)
  refine xB (nT (zs ?_))
  refine zA ?_ { tk:=[3,21] }
  refine nT (zr ?_)
  cases soI h
  exact zq

theorem Z105w {A:Ar} (hA:SA A) {a o:List D} {s u v w y z B b c e g i j k l m n p:Int} {q r C:List D} (h:Z105 A a o s u v w y z B b c e g i j k l m n p q r=some C):ACall Tryz.prog 105 [.d (.agg [.list 1 a,.list 1 o,.int .i64 s,.int .i64 u,.int .i64 v,.int .i64 w,.int .i64 y,.int .i64 z,.int .i64 B,.int .i64 b,.int .i64 c,.int .i64 e,.int .i64 g,.int .i64 i,.int .i64 j,.int .i64 k,.int .i64 l,.int .i64 m,.int .i64 n,.int .i64 p,.list 6 q,.list 1 r])] [] (.own 1 C) []:=by
 unfold Z105 at h
 refine zI Tryz.func105 ?_
 refine zs ?_
 refine zA ?_
 refine nT ?_
 refine AWp.freezeBox 1 [.list 1 a,.list 1 o,.int .i64 s,.int .i64 u,.int .i64 v,.int .i64 w,.int .i64 y,.int .i64 z,.int .i64 B,.int .i64 b,.int .i64 c,.int .i64 e,.int .i64 g,.int .i64 i,.int .i64 j,.int .i64 k,.int .i64 l,.int .i64 m,.int .i64 n,.int .i64 p,.list 6 q,.list 1 r] rfl rfl ?_
 refine zs (zn ?_)
 obtain ⟨F,E,h⟩:=bindS h
 refine zC (Z55bw hA E) ?_ { tk:=[3] }
 refine zE ?_ { tk:=[3] }
 refine nT (zr ?_)
 cases soI h
 exact zq

theorem Z51aw {A:Ar} (hA:SA A) {g i j c:List D} {e:Int} (h:Z51a A g i j=some (c,e)):ACall Tryz.prog 51 [zl 1 g,zl 1 i,zl 1 j,(.func 105 [] [])] [] (.tuple [zl 1 c,zi e]) []:=by
 unfold Z51a at h
 refine zI Tryz.func51 ?_
 refine zs ?_
 refine zA ?_
 refine nT (zs (zs (zn ?_)))
 obtain ⟨o,l,h⟩:=bindS h
 refine zC (Z40w hA l) ?_
 refine zE ?_
 refine nT (zs ?_)
 refine zA ?_
 refine nT ?_
 rcases tf (A.zeq o 0) with b | b
 ·replace h:=cT b h
  refine zU ?_
  refine zk (nT (zs (zn ?_)))
  obtain ⟨⟨Q,R,p,q,r,s,u,v,w,y,z,B,C,E,F,G,J,K,L,M,N,O,n⟩,m,h⟩:=bindS h
  refine zD (Z69w hA m) ?_ { tk:=[24] }
  refine zF ?_ { tk:=[24] }
  refine nT (zs (zs ?_))
  refine zB ?_
  refine nT ?_
  rcases tf n with a | a
  ·replace h:=cT a h
   refine zU ?_
   refine zk (nT (zs (zn ?_)))
   obtain ⟨P,k,h⟩:=bindS h
   refine zD (Z105w hA k) ?_
   refine zF ?_
   refine nT (zr ?_)
   cases soI h
   exact zq
  ·replace h:=cF a h
   refine zT ?_
   refine zs ?_
   refine zB ?_
   refine nT (zr (rT ?_))
   cases soI h
   exact zq
 ·replace h:=cF b h
  refine zT ?_
  refine zs ?_
  refine zB ?_
  refine nT (zr (rT ?_))
  cases soI h
  exact zq

theorem Z71w {A:Ar} (hA:SA A) {c e g a:List D} {b:Int} (h:Z71 A c e g=some (a,b)):ACall Tryz.prog 71 [zl 1 c,zl 1 e,zl 1 g] [] (.tuple [zl 1 a,zi b]) []:=by
 unfold Z71 at h
 refine zI Tryz.func71 ?_
 refine zs ?_
 refine zA ?_
 refine nT (zs (zn ?_))
 obtain ⟨⟨j,k⟩,i,h⟩:=bindS h
 refine zC (Z51aw hA i) ?_
 refine zE ?_
 refine nT (zr ?_)
 cases soI h
 exact zq

theorem Z28w {A:Ar} (hA:SA A) {i j:Int} {k l m o p:List D} {q:Int} {F:List D} {G J:Bool} (h:Z28 A i j k l m o p q=some (F,G,J)):ACall Tryz.prog 28 [.d (.agg [.int .i64 i,.int .i64 j,.list 1 k,.list 1 l,.list 1 m,.list 1 o]),zl 1 p,zi q] [] (.tuple [zl 1 F,.d (.bool G),.d (.bool J)]) []:=by
 unfold Z28 at h
 refine zI Tryz.func28 ?_
 refine zs ?_
 refine zA ?_
 refine nT (zs (zs ?_))
 refine zA ?_
 refine nT (zb ?_)
 obtain ⟨p0,U,L,r,b⟩:=bindK h
 refine AWp.cutX 0 [3,6] [] 0 (lb rfl) (fun τ => ∃ E,L (.inl E)=some (F,G,J)∧τ={ env:=[(3,(.lbox [zi i,zi j,zl 1 k,zl 1 l,zl 1 m,zl 1 o])),(6,(.own 1 E))],heap:=[],n:=81 }) ?_ ?_
 ·skip
  refine AWp.iter U [1,2,3,6,9] [] 0 (lb rfl) (fun (s,g)=>{ env:=[(1,zl 1 p),(2,zi q),(3,(.lbox [zi i,zi j,zl 1 k,zl 1 l,zl 1 m,zl 1 o])),(6,(.own 1 s)),(9,zi g)],heap:=[],n:=81 }) ⟨rfl,zc⟩ ?_
  rintro ⟨s,g⟩ b0 a
  dsimp only [Z28L0] at a
  refine zs (zs ?_)
  refine zA ?_
  refine nT ?_
  rcases tf (A.zlt g q) with u | u
  ·replace a:=cT u a
   refine zT ?_
   refine zk (nT (zs (zb (zs (zn ?_)))))
   obtain ⟨⟨V,W⟩,M,a⟩:=bindS a
   refine zD (Z71w hA M) ?_
   refine zF ?_
   refine nT (zs (zs ?_))
   refine zB ?_
   refine nT ?_
   rcases tf (A.zeq W 0) with v | v
   ·replace a:=cT v a
    refine zU ?_
    refine zk (nT (zs (zs ?_)))
    refine zB ?_
    refine nT ?_
    rcases tf (A.zeq (A.len V) 0) with w | w
    ·replace a:=cT w a
     refine zT ?_
     refine zs ?_
     refine zB ?_ { tk:=[6,34] }
     refine nT (zr (rT (rB (rT (rT ?_)))))
     refine exL a fun hx => ?_
     subst hx
     refine oxR ?_
     replace b:=(eR (r _ b))
     refine rB (rT ?_)
     cases soI b
     exact zq
    ·replace a:=cF w a
     refine zU ?_
     refine zk (nT (zs ?_))
     obtain ⟨X,N,a⟩:=bindS a
     have c0:=gcI N
     refine zB ?_
     refine nT (zs (zs ?_))
     refine zB ?_
     refine nT ?_
     obtain ⟨C,c,a⟩:=bindS a
     refine AWp.cutN [1,2,3,6,9,12] [] 0 (lb rfl) (fun τ=>τ={ env:=[(1,zl 1 p),(2,zi q),(3,(.lbox [zi i,zi j,zl 1 k,zl 1 l,zl 1 m,zl 1 o])),(6,(.own 1 s)),(9,zi g),(12,zi C)],heap:=[],n:=81 }) ?_ ?_
     ·skip
      rcases tf (A.zlt g (A.len p)) with y | y
      ·replace c:=cT y c
       refine zT ?_
       obtain ⟨Y,O,c⟩:=bindS c
       obtain ⟨d0,e0⟩:=gtI O
       obtain ⟨_,P,c⟩:=bindS c
       have g0:=nkI P
       obtain ⟨a0,Q,c⟩:=bindS c
       obtain ⟨i0,j0⟩:=gtI Q
       refine zB ?_
       cases soI c
       exact zO
      ·replace c:=cF y c
       refine zU ?_
       refine zk ?_
       cases soI c
       exact zO
     ·rintro _ rfl
      refine nT (zs (zs ?_))
      obtain ⟨K,e,a⟩:=bindS a
      refine AWp.cutN [1,2,3,6,9,12,61] [] 0 (lb rfl) (fun τ=>τ={ env:=[(1,zl 1 p),(2,zi q),(3,(.lbox [zi i,zi j,zl 1 k,zl 1 l,zl 1 m,zl 1 o])),(6,(.own 1 s)),(9,zi g),(12,zi C),(61,.d (.bool K))],heap:=[],n:=81 }) ?_ ?_
      ·skip
       rcases tf (A.zlt C 0) with z | z
       ·replace e:=cT z e
        refine zB ?_
        cases soI e
        exact zO
       ·replace e:=cF z e
        refine zB ?_
        cases soI e
        exact zO
      ·rintro _ rfl
       refine nT ?_
       rcases tf K with B | B
       ·replace a:=cT B a
        refine zT ?_
        refine zs ?_
        refine zB ?_
        refine nT (zr (rT (rB (rT (rT ?_)))))
        refine exL a fun hx => ?_
        subst hx
        refine oxR ?_
        replace b:=(eR (r _ b))
        refine rB (rT ?_)
        cases soI b
        exact zq
       ·replace a:=cF B a
        refine zU ?_
        refine zk (nT ?_)
        obtain ⟨m0,R,a⟩:=bindS a
        obtain ⟨k0,l0⟩:=apI R
        refine zB ?_ { tk:=[6,65] }
        refine nB (nT ?_)
        refine zB ?_
        exact nT ⟨_,(soI a).symm,rfl,zv⟩
   ·replace a:=cF v a
    refine zT ?_
    refine zs ?_
    refine zB ?_
    refine nT (zr (rT (rB (rT (rT ?_)))))
    refine exL a fun hx => ?_
    subst hx
    refine oxR ?_
    replace b:=(eR (r _ b))
    refine rB (rT ?_)
    cases soI b
    exact zq
  ·replace a:=cF u a
   refine zU ?_
   refine AWp.exit (xT (xT ?_))
   refine exL a fun hx => ?_
   subst hx
   exact oxI ⟨rfl,_,b,zv⟩
 ·rintro _ ⟨E,b,rfl⟩
  have h:=(eL (r _ b))
  refine xB (nT (zs (zn ?_)))
  obtain ⟨⟨n0,o0⟩,S,h⟩:=bindS h
  refine zC (Z71w hA S) ?_
  refine zE ?_
  refine nT (zs ?_)
  refine zA ?_ { tk:=[6,75] }
  refine nT (zr ?_)
  cases soI h
  exact zq

theorem Z107w {A:Ar} (hA:SA A) {b:List D} {c:Int} {a:Bool} (h:Z107 A b c=some a):ACall Tryz.prog 107 [zl 6 b,zi c] [] (.d (.bool a)) []:=by
 unfold Z107 at h
 refine zI Tryz.func107 ?_
 refine zs ?_
 refine zA ?_
 refine nT (zs (zn ?_))
 obtain ⟨g,e,h⟩:=bindS h
 refine zC (Z152w hA e) ?_ { tk:=[9] }
 refine zE ?_ { tk:=[9] }
 refine nT (zr ?_)
 cases soI h
 exact zq

theorem Z73w {A:Ar} (hA:SA A) {e i:List D} {p:Bool} (h:Z73 A e i=some p):ACall Tryz.prog 73 [zl 6 e,zl 1 i] [] (.d (.bool p)) []:=by
 unfold Z73 at h
 refine zI Tryz.func73 ?_
 refine zs ?_
 refine zA ?_
 refine nT (zs ?_)
 refine zA ?_
 refine nT (zs (zs ?_))
 refine zA ?_
 refine nT (zb ?_)
 obtain ⟨o0,S,J,C,j⟩:=bindK h
 refine AWp.cutX 0 [0,5] [] 1 (lb rfl) (fun τ => ∃ l,J (.inl l)=some p∧τ={ env:=[(0,zl 6 e),(5,(.map 0))],heap:=[(.map false [.int .i64] l)],n:=46 }) ?_ ?_
 ·skip
  refine AWp.iter S [0,5,11,12,13] [] 1 (lb rfl) (fun (m,y)=>{ env:=[(0,zl 6 e),(5,(.map 0)),(11,zl 1 i),(12,(.d (.int .i64 (A.len i)))),(13,zi m)],heap:=[(.map false [.int .i64] y)],n:=46 }) ⟨rfl,zc⟩ ?_
  rintro ⟨m,y⟩ i0 a
  dsimp only [Z73L0] at a
  refine zs ?_
  refine zA ?_
  refine nT (zs ?_)
  rcases tf (A.zlt m (A.len i)) with q | q
  ·replace a:=cT q a
   refine zT ?_
   refine zk (nT (zs (zb (zs ?_))))
   obtain ⟨L,N,a⟩:=bindS a
   obtain ⟨k0,l0⟩:=gtI N
   refine zB ?_
   refine nT (zs (zs ?_))
   obtain ⟨F,c,a⟩:=bindS a
   refine AWp.cutN [0,5,7,11,12,13,25] [] 1 (lb rfl) (fun τ=>τ={ env:=[(0,zl 6 e),(5,(.map 0)),(7,zi L),(11,zl 1 i),(12,(.d (.int .i64 (A.len i)))),(13,zi m),(25,.d (.bool F))],heap:=[(.map false [.int .i64] y)],n:=46 }) ?_ ?_
   ·skip
    refine zn ?_
    obtain ⟨X,O,c⟩:=bindS c
    refine zD (Z107w hA O) ?_
    rcases tf X with r | r
    ·replace c:=cT r c
     obtain ⟨V,z,c⟩:=bindS c
     rcases V with _ | Y
     ·have Q:=lkN z
      refine zF ?_
      cases soI c
      exact zO
     ·have Q:=lkS z
      refine zF ?_
      cases soI c
      exact zO
    ·replace c:=cF r c
     refine zF ?_
     cases soI c
     exact zO
   ·rintro _ rfl
    refine nT ?_
    rcases tf F with s | s
    ·replace a:=cT s a
     refine zT ?_
     refine zs ?_
     refine zB ?_
     refine nT (zr (rT (rB (rT (rT ?_)))))
     refine exL a fun hx => ?_
     subst hx
     refine oxR ?_
     replace j:=(eR (C _ j))
     refine rB (rT ?_)
     cases soI j
     exact zq
    ·replace a:=cF s a
     refine zU ?_
     refine zk (nT ?_)
     refine zB ?_
     refine nB (nT ?_)
     refine zB ?_
     exact nT ⟨_,(soI a).symm,rfl,zv⟩
  ·replace a:=cF q a
   refine zU ?_
   refine AWp.exit (xT (xT ?_))
   refine exL a fun hx => ?_
   subst hx
   exact oxI ⟨rfl,_,j,zv⟩
 ·rintro _ ⟨l,j,rfl⟩
  have h:=(eL (C _ j))
  refine xB (nT (zs (zs ?_)))
  refine zA ?_
  refine nT (zb ?_)
  obtain ⟨p0,U,K,E,k⟩:=bindK h
  refine AWp.cutX 2 [] [] 1 (lb rfl) (fun τ=>K (.inl ())=some p∧τ={ env:=[],heap:=[(.map false [.int .i64] l)],n:=46 }) ?_ ?_
  ·skip
   refine AWp.iter U [5,29,30,31] [] 1 (lb rfl) (fun o=>{ env:=[(5,(.map 0)),(29,zl 6 e),(30,(.d (.int .i64 (A.len e)))),(31,zi o)],heap:=[(.map false [.int .i64] l)],n:=46 }) ⟨rfl,zc⟩ ?_
   rintro o j0 b
   dsimp only [Z73L1] at b
   refine zs ?_
   refine zA ?_
   refine nT (zs ?_)
   rcases tf (A.zlt o (A.len e)) with u | u
   ·replace b:=cT u b
    refine zT ?_
    refine zk (nT (zs (zb (zs ?_))))
    obtain ⟨⟨a0,b0,c0,d0,e0,M⟩,P,b⟩:=bindS b
    obtain ⟨m0,n0⟩:=gtI P
    refine zB ?_ { tk:=[35] }
    refine nT (zs ?_)
    obtain ⟨G,g,b⟩:=bindS b
    refine AWp.cutN [5,29,30,31,44] [] 1 (lb rfl) (fun τ=>τ={ env:=[(5,(.map 0)),(29,zl 6 e),(30,(.d (.int .i64 (A.len e)))),(31,zi o),(44,.d (.bool G))],heap:=[(.map false [.int .i64] l)],n:=46 }) ?_ ?_
    ·skip
     rcases tf (A.zlt 0 M) with v | v
     ·replace g:=cT v g
      obtain ⟨W,B,g⟩:=bindS g
      rcases W with _ | g0
      ·have R:=lkN B
       refine zB ?_
       cases soI g
       exact zO
      ·have R:=lkS B
       refine zB ?_
       cases soI g
       exact zO
     ·replace g:=cF v g
      refine zB ?_
      cases soI g
      exact zO
    ·rintro _ rfl
     refine nT ?_
     rcases tf G with w | w
     ·replace b:=cT w b
      refine zT ?_
      refine zs ?_
      refine zB ?_
      refine nT (zr (rB (rT (rT ?_))))
      refine exL b fun hx => ?_
      subst hx
      refine oxR ?_
      replace k:=(eR (E _ k))
      refine rB (rT ?_)
      cases soI k
      exact zq
     ·replace b:=cF w b
      refine zU ?_
      refine zk (nB (nT ?_))
      refine zB ?_
      exact nT ⟨_,(soI b).symm,rfl,zv⟩
   ·replace b:=cF u b
    refine zU ?_
    refine AWp.exit (xT (xT ?_))
    refine exL b fun hx => ?_
    subst hx
    exact oxI ⟨rfl,k,zv⟩
  ·rintro _ ⟨k,rfl⟩
   have h:=(eL (E _ k))
   refine xB (nT (zs ?_))
   refine zA ?_
   refine nT (zr ?_)
   cases soI h
   exact zq

theorem Z74w {A:Ar} (hA:SA A) {j c:List D} {q:Bool} (h:Z74 A j c=some q):ACall Tryz.prog 74 [zl 6 j,zl 1 c,(.func 75 [] [])] [] (.d (.bool q)) []:=by
 unfold Z74 at h
 refine zI Tryz.func74 ?_
 refine zs ?_
 refine zA ?_
 refine nT (zs (zs ?_))
 refine zA ?_
 refine nT (zb ?_)
 obtain ⟨s0,K,v,s,g⟩:=bindK h
 refine AWp.cutX 0 [] [] 0 (lb rfl) (fun τ=>v (.inl ())=some q∧τ={ env:=[],heap:=[],n:=38 }) ?_ ?_
 ·skip
  refine AWp.iter K [0,1,2,11,12,13] [] 0 (lb rfl) (fun i=>{ env:=[(0,zl 6 j),(1,zl 1 c),(2,(.func 75 [] [])),(11,zl 1 c),(12,(.d (.int .i64 (A.len c)))),(13,zi i)],heap:=[],n:=38 }) ⟨rfl,zc⟩ ?_
  rintro i G b
  dsimp only [Z74L1] at b
  refine zs ?_
  refine zA ?_
  refine nT (zs ?_)
  rcases tf (A.zlt i (A.len c)) with m | m
  ·replace b:=cT m b
   refine zT ?_
   refine zk (nT (zs (zb (zs ?_))))
   obtain ⟨w,E,b⟩:=bindS b
   obtain ⟨l0,m0⟩:=gtI E
   refine zB ?_
   refine nT (zs ?_)
   obtain ⟨o,F,b⟩:=bindS b
   obtain ⟨n0,o0,p0,q0⟩:=slI F
   refine zB ?_
   refine nT (zb ?_)
   obtain ⟨r0,J,u,r,e⟩:=bindK b
   refine AWp.cutX 2 [0,1,2,11,12,13] [] 0 (lb rfl) (fun τ=>u (.inl ())=some G∧τ={ env:=[(0,zl 6 j),(1,zl 1 c),(2,(.func 75 [] [])),(11,zl 1 c),(12,(.d (.int .i64 (A.len c)))),(13,zi i)],heap:=[],n:=38 }) ?_ ?_
   ·skip
    refine AWp.iter J [0,1,2,8,11,12,13,20,21,22] [] 0 (lb rfl) (fun p=>{ env:=[(0,zl 6 j),(1,zl 1 c),(2,(.func 75 [] [])),(8,zi w),(11,zl 1 c),(12,(.d (.int .i64 (A.len c)))),(13,zi i),(20,zl 1 o),(21,(.d (.int .i64 (A.len o)))),(22,zi p)],heap:=[],n:=38 }) ⟨rfl,zv⟩ ?_
    rintro p b0 a
    dsimp only [Z74L0] at a
    refine zs ?_
    refine zA ?_
    refine nT (zs ?_)
    rcases tf (A.zlt p (A.len o)) with k | k
    ·replace a:=cT k a
     refine zT ?_
     refine zk (nT (zs (zb (zs ?_))))
     obtain ⟨M,y,a⟩:=bindS a
     obtain ⟨d0,e0⟩:=gtI y
     refine zB ?_
     refine nT (zs ?_)
     refine AWp.regionDraw rfl (lb rfl) ?_
     obtain ⟨⟨N,O,P,Q,R,S⟩,z,a⟩:=bindS a
     obtain ⟨g0,i0⟩:=gtI z
     obtain ⟨⟨U,V,W,X,Y,a0⟩,B,a⟩:=bindS a
     obtain ⟨j0,k0⟩:=gtI B
     obtain ⟨L,C,a⟩:=bindS a
     refine DOps.c0 hT hA {} rfl zu (Z75w hA C) rfl rfl (lb rfl) rfl rfl ?_
     refine DOps.cd hT hA {} rfl zu (by kernel_rfl) ?_
     refine nT ?_
     rcases tf L with l | l
     ·replace a:=cT l a
      refine zT ?_
      refine zs ?_
      refine zB ?_
      refine nT (zr (rB (rT (rT ?_))))
      refine exL a fun hx => ?_
      subst hx
      refine oxR ?_
      replace e:=(eR (r _ e))
      refine rB (rB (rT (rT ?_)))
      refine exL e fun hx => ?_
      subst hx
      refine oxR ?_
      replace g:=(eR (s _ g))
      refine rB (rT ?_)
      cases soI g
      exact zq
     ·replace a:=cF l a
      refine zU ?_
      refine zk (nB (nT ?_))
      refine zB ?_
      exact nT ⟨_,(soI a).symm,rfl,zv⟩
    ·replace a:=cF k a
     refine zU ?_
     refine AWp.exit (xT (xT ?_))
     refine exL a fun hx => ?_
     subst hx
     exact oxI ⟨rfl,e,zv⟩
   ·rintro _ ⟨e,rfl⟩
    have b:=(eL (r _ e))
    refine xB (nB (nT ?_))
    refine zA ?_
    exact nT ⟨_,(soI b).symm,rfl,zc⟩
  ·replace b:=cF m b
   refine zU ?_
   refine AWp.exit (xT (xT ?_))
   refine exL b fun hx => ?_
   subst hx
   exact oxI ⟨rfl,g,zv⟩
 ·rintro _ ⟨g,rfl⟩
  have h:=(eL (s _ g))
  refine xB (nT (zs ?_))
  refine zA ?_
  refine nT (zr ?_)
  cases soI h
  exact zq

theorem Z76w {A:Ar} (hA:SA A) {k l c:List D} {j:Bool} (h:Z76 A k l c=some j):ACall Tryz.prog 76 [zl 4 k,zl 6 l,zl 1 c] [] (.d (.bool j)) []:=by
 unfold Z76 at h
 refine zI Tryz.func76 ?_
 refine zs ?_
 refine zA ?_
 refine nT (zs ?_)
 refine zA ?_
 refine nT (zs ?_)
 refine zA ?_
 refine nT (zs (zs ?_))
 refine zA ?_
 refine nT (zb ?_)
 obtain ⟨Q,v,q,m,b⟩:=bindK h
 refine AWp.cutX 0 [] [] 0 (lb rfl) (fun τ=>q (.inl ())=some j∧τ={ env:=[],heap:=[],n:=30 }) ?_ ?_
 ·skip
  refine AWp.iter v [0,1,7,11,12,13] [] 0 (lb rfl) (fun (o,p,i)=>{ env:=[(0,zl 4 k),(1,zl 6 l),(7,(.lbox [zi o,zi p])),(11,zl 1 c),(12,(.d (.int .i64 (A.len c)))),(13,zi i)],heap:=[],n:=30 }) ⟨rfl,zc⟩ ?_
  rintro ⟨o,p,i⟩ J a
  dsimp only [Z76L0] at a
  refine zs ?_
  refine zA ?_
  refine nT (zs ?_)
  rcases tf (A.zlt i (A.len c)) with e | e
  ·replace a:=cT e a
   refine zT ?_
   refine zk (nT (zs (zb (zs ?_))))
   obtain ⟨y,r,a⟩:=bindS a
   obtain ⟨K,L⟩:=gtI r
   refine zB ?_
   refine nT (zs ?_)
   refine AWp.regionDraw rfl (lb rfl) ?_
   obtain ⟨⟨z,B,C,E,F,G⟩,s,a⟩:=bindS a
   obtain ⟨M,N⟩:=gtI s
   obtain ⟨⟨O,P,w⟩,u,a⟩:=bindS a
   refine DOps.c0 hT hA { tk:=[25] } rfl zu (Z108aw hA u) rfl rfl (lb rfl) rfl rfl ?_
   refine DOps.cd hT hA { tk:=[25] } rfl zu (by kernel_rfl) ?_
   refine nT (zs ?_)
   refine zB ?_
   refine nT ?_
   rcases tf w with g | g
   ·replace a:=cT g a
    refine zU ?_
    refine zk (nB (nT ?_))
    refine zB ?_
    exact nT ⟨_,(soI a).symm,rfl,zv⟩
   ·replace a:=cF g a
    refine zT ?_
    refine zs ?_
    refine zB ?_
    refine nT (zr (rB (rT (rT ?_))))
    refine exL a fun hx => ?_
    subst hx
    refine oxR ?_
    replace b:=(eR (m _ b))
    refine rB (rT ?_)
    cases soI b
    exact zq
  ·replace a:=cF e a
   refine zU ?_
   refine AWp.exit (xT (xT ?_))
   refine exL a fun hx => ?_
   subst hx
   exact oxI ⟨rfl,b,zv⟩
 ·rintro _ ⟨b,rfl⟩
  have h:=(eL (m _ b))
  refine xB (nT (zs ?_))
  refine zA ?_
  refine nT (zr ?_)
  cases soI h
  exact zq

theorem Z29w {A:Ar} (hA:SA A) {j k l:List D} {g:Bool} {i:Int} (h:Z29 A j k l=some (g,i)):ACall Tryz.prog 29 [zl 4 j,zl 6 k,zl 1 l] [] (.tuple [.d (.bool g),zi i]) []:=by
 unfold Z29 at h
 refine zI Tryz.func29 ?_
 refine zs ?_
 refine zA ?_
 refine nT (zs (zs (zn ?_)))
 obtain ⟨s,p,h⟩:=bindS h
 refine zC (Z72w hA p) ?_
 refine zE ?_
 refine nT (zs ?_)
 refine zA ?_
 refine nT ?_
 rcases tf (A.zeq s 0) with c | c
 ·replace h:=cT c h
  refine zU ?_
  refine zk (nT (zs ?_))
  obtain ⟨v,a,h⟩:=bindS h
  refine AWp.cutN [6,7] [] 0 (lb rfl) (fun τ=>τ={ env:=[(6,.d (.bool v)),(7,zi 0)],heap:=[],n:=29 }) ?_ ?_
  ·skip
   refine zn ?_
   obtain ⟨u,q,a⟩:=bindS a
   refine zD (Z73w hA q) ?_
   rcases tf u with e | e
   ·replace a:=cT e a
    obtain ⟨r,m,a⟩:=bindS a
    refine zD (Z74w hA m) ?_
    rcases tf r with b | b
    ·replace a:=cT b a
     obtain ⟨w,o,a⟩:=bindS a
     refine zD (Z76w hA o) ?_
     refine zF ?_
     cases soI a
     exact zO
    ·replace a:=cF b a
     refine zF ?_
     cases soI a
     exact zO
   ·replace a:=cF e a
    refine zF ?_
    cases soI a
    exact zO
  ·rintro _ rfl
   refine nT (zr ?_)
   cases soI h
   exact zq
 ·replace h:=cF c h
  refine zT ?_
  refine zs ?_
  refine zB ?_
  refine nT (zr (rT ?_))
  cases soI h
  exact zq

theorem Z7w {A:Ar} (hA:SA A) {j k:Int} {l m i o r p:List D} {W:Bool} (h:Z7 A j k l m i o r p=some W):ACall Tryz.prog 7 [.d (.agg [.int .i64 j,.int .i64 k,.list 1 l,.list 1 m,.list 1 i,.list 1 o]),zl 1 r,zl 1 p] [] (.d (.bool W)) []:=by
 unfold Z7 at h
 refine zI Tryz.func7 ?_
 refine zs ?_
 refine zA ?_
 refine nT (zs (zs ?_))
 obtain ⟨a0,c,h⟩:=bindS h
 refine AWp.cutN [1,2,3,33] [] 0 (lb rfl) (fun τ=>τ={ env:=[(1,zl 1 r),(2,zl 1 p),(3,(.lbox [zi j,zi k,zl 1 l,zl 1 m,zl 1 i,zl 1 o])),(33,.d (.bool a0))],heap:=[],n:=167 }) ?_ ?_
 ·skip
  refine zn ?_
  obtain ⟨y0,e9,c⟩:=bindS c
  refine zC (Z8w hA e9) ?_
  rcases tf y0 with v | v
  ·replace c:=cT v c
   rcases tf (A.zlt 60 (A.len p)) with w | w
   ·replace c:=cT w c
    refine zF ?_
    cases soI c
    exact zO
   ·replace c:=cF w c
    refine zF ?_
    cases soI c
    exact zO
  ·replace c:=cF v c
   refine zF ?_
   cases soI c
   exact zO
 ·rintro _ rfl
  refine nT ?_
  rcases tf a0 with y | y
  ·replace h:=cT y h
   refine zT ?_
   refine zs (zn ?_)
   obtain ⟨z1,e0,h⟩:=bindS h
   refine zD (Z9w hA e0) ?_ { tk:=[34] }
   refine zF ?_ { tk:=[34] }
   refine nT (zr (rT ?_))
   cases soI h
   exact zq
  ·replace h:=cF y h
   refine zU ?_
   refine zk (nT (zs ?_))
   refine zB ?_
   refine nT (zs (zs ?_))
   refine zB ?_
   refine nT (zb ?_)
   obtain ⟨i2,w0,c0,v0,S⟩:=bindK h
   refine AWp.cutX 0 [2,3,7] [] 0 (lb rfl) (fun τ => ∃ u,c0 u=some W∧τ={ env:=[(2,zl 1 p),(3,(.lbox [zi j,zi k,zl 1 l,zl 1 m,zl 1 i,zl 1 o])),(7,(.own 1 u))],heap:=[],n:=167 }) ?_ ?_
   ·skip
    refine AWp.iter w0 [1,2,3,7,8] [] 0 (lb rfl) (fun (X,s)=>{ env:=[(1,zl 1 r),(2,zl 1 p),(3,(.lbox [zi j,zi k,zl 1 l,zl 1 m,zl 1 i,zl 1 o])),(7,(.own 1 X)),(8,zi s)],heap:=[],n:=167 }) ⟨rfl,zv⟩ ?_
    rintro ⟨X,s⟩ n1 g
    dsimp only [Z7L0] at g
    refine zs (zs ?_)
    refine zA ?_
    refine nT ?_
    rcases tf (A.zlt s (A.len i)) with z | z
    ·replace g:=cT z g
     refine zT ?_
     refine zk (nT (zs (zb (zs ?_))))
     refine zB ?_
     refine nT (zs (zs ?_))
     refine zB ?_
     refine nT ?_
     obtain ⟨j1,e,g⟩:=bindS g
     refine AWp.cutN [1,2,3,7,8,9] [] 0 (lb rfl) (fun τ=>τ={ env:=[(1,zl 1 r),(2,zl 1 p),(3,(.lbox [zi j,zi k,zl 1 l,zl 1 m,zl 1 i,zl 1 o])),(7,(.own 1 X)),(8,zi s),(9,zi j1)],heap:=[],n:=167 }) ?_ ?_
     ·skip
      rcases tf (A.zlt s (A.len r)) with B | B
      ·replace e:=cT B e
       refine zT ?_
       obtain ⟨l1,g0,e⟩:=bindS e
       obtain ⟨o1,p1⟩:=gtI g0
       obtain ⟨m1,i0,e⟩:=bindS e
       obtain ⟨q1,r1⟩:=gtI i0
       obtain ⟨_,j0,e⟩:=bindS e
       have s1:=nkI j0
       refine AWp.rd hT hA {} rfl zu (by kernel_rfl) (lb rfl) ?_
       cases soI e
       exact zO
      ·replace e:=cF B e
       refine zU ?_
       refine zk ?_
       cases soI e
       exact zO
     ·rintro _ rfl
      refine nT ?_
      obtain ⟨w1,k0,g⟩:=bindS g
      obtain ⟨u1,v1⟩:=apI k0
      refine zB ?_ { tk:=[7,61] }
      refine nB (nT ?_)
      refine zA ?_
      exact nT ⟨_,(soI g).symm,rfl,zc⟩
    ·replace g:=cF z g
     refine zU ?_
     refine AWp.exit (xT (xT ?_))
     refine exL g fun hx => ?_
     subst hx
     exact oxI ⟨rfl,_,S,zv⟩
   ·rintro _ ⟨u,S,rfl⟩
    have h:=(v0 _ S)
    refine xB (nT (zs (zn ?_)))
    obtain ⟨⟨U,z0⟩,l0,h⟩:=bindS h
    refine zC (Z16w hA l0) ?_
    refine zE ?_
    refine nT (zs (zn ?_))
    obtain ⟨⟨a1,V,a2⟩,m0,h⟩:=bindS h
    refine zC (Z28w hA m0) ?_
    refine zE ?_
    refine nT (zs (zs ?_))
    obtain ⟨b0,q,h⟩:=bindS h
    refine AWp.cutN [3,7,10,12,13,85] [] 0 (lb rfl) (fun τ=>τ={ env:=[(3,(.lbox [zi j,zi k,zl 1 l,zl 1 m,zl 1 i,zl 1 o])),(7,(.own 1 u)),(10,.d (.bool U)),(12,zl 1 a1),(13,.d (.bool V)),(85,.d (.bool b0))],heap:=[],n:=167 }) ?_ ?_
    ·skip
     rcases tf (A.zeq z0 0) with C | C
     ·replace q:=cT C q
      refine zB ?_
      cases soI q
      exact zO
     ·replace q:=cF C q
      refine zB ?_
      cases soI q
      exact zO
    ·rintro _ rfl
     refine nT ?_
     rcases tf b0 with E | E
     ·replace h:=cT E h
      refine zT ?_
      refine zs ?_
      refine zB ?_
      refine nT (zr (rT ?_))
      cases soI h
      exact zq
     ·replace h:=cF E h
      refine zU ?_
      refine zk (nT (zs (zn ?_)))
      obtain ⟨⟨b2,Y⟩,n0,h⟩:=bindS h
      refine zD (Z26w hA n0) ?_
      refine zF ?_
      refine nT (zs (zs ?_))
      refine zB ?_
      refine nT ?_
      rcases tf (A.zeq Y 0) with F | F
      ·replace h:=cT F h
       refine zU ?_
       refine zk (nT (zs (zn ?_)))
       obtain ⟨⟨e2,b1⟩,q0,h⟩:=bindS h
       refine zD (Z15w hA q0) ?_
       refine zF ?_
       refine nT (zs (zn ?_))
       obtain ⟨⟨c1,d1⟩,r0,h⟩:=bindS h
       refine zD (Z24w hA r0) ?_
       refine zF ?_
       refine nT (zs (zn ?_))
       obtain ⟨⟨e1,g1⟩,s0,h⟩:=bindS h
       refine zD (Z29w hA s0) ?_
       refine zF ?_
       refine nT (zs ?_)
       obtain ⟨i1,a,h⟩:=bindS h
       refine AWp.cutN [6] [] 0 (lb rfl) (fun τ=>τ={ env:=[(6,.d (.bool i1))],heap:=[],n:=167 }) ?_ ?_
       ·skip
        refine zn ?_
        rcases tf (A.zeq b1 0) with L | L
        ·replace a:=cT L a
         rcases tf (A.zeq d1 0) with M | M
         ·replace a:=cT M a
          rcases tf (A.zeq g1 0) with N | N
          ·replace a:=cT N a
           rcases tf V with O | O
           ·replace a:=cT O a
            rcases tf U with P | P
            ·replace a:=cT P a
             rcases tf e1 with Q | Q
             ·replace a:=cT Q a
              rcases tf c1 with R | R
              ·replace a:=cT R a
               refine zF ?_ { tk:=[166] }
               cases soI a
               exact zO
              ·replace a:=cF R a
               obtain ⟨g2,u0,a⟩:=bindS a
               refine zD (Z9w hA u0) ?_ { tk:=[166] }
               refine zF ?_ { tk:=[166] }
               cases soI a
               exact zO
             ·replace a:=cF Q a
              refine zF ?_ { tk:=[166] }
              cases soI a
              exact zO
            ·replace a:=cF P a
             obtain ⟨y1,d0,a⟩:=bindS a
             refine zD (Z9w hA d0) ?_ { tk:=[166] }
             refine zF ?_ { tk:=[166] }
             cases soI a
             exact zO
           ·replace a:=cF O a
            refine zF ?_ { tk:=[166] }
            cases soI a
            exact zO
          ·replace a:=cF N a
           refine zF ?_ { tk:=[166] }
           cases soI a
           exact zO
         ·replace a:=cF M a
          refine zF ?_ { tk:=[166] }
          cases soI a
          exact zO
        ·replace a:=cF L a
         refine zF ?_ { tk:=[166] }
         cases soI a
         exact zO
       ·rintro _ rfl
        refine nT (zr ?_)
        cases soI h
        exact zq
      ·replace h:=cF F h
       refine zT ?_
       refine zs ?_
       obtain ⟨k1,b,h⟩:=bindS h
       refine AWp.cutN [6] [] 0 (lb rfl) (fun τ=>τ={ env:=[(6,.d (.bool k1))],heap:=[],n:=167 }) ?_ ?_
       ·skip
        refine zn ?_
        rcases tf (A.zeq Y 5) with G | G
        ·replace b:=cT G b
         rcases tf V with J | J
         ·replace b:=cT J b
          rcases tf U with K | K
          ·replace b:=cT K b
           refine zF ?_ { tk:=[110] }
           cases soI b
           exact zO
          ·replace b:=cF K b
           obtain ⟨c2,o0,b⟩:=bindS b
           refine zD (Z9w hA o0) ?_ { tk:=[110] }
           refine zF ?_ { tk:=[110] }
           cases soI b
           exact zO
         ·replace b:=cF J b
          obtain ⟨d2,p0,b⟩:=bindS b
          refine zD (Z9w hA p0) ?_ { tk:=[110] }
          refine zF ?_ { tk:=[110] }
          cases soI b
          exact zO
        ·replace b:=cF G b
         refine zF ?_ { tk:=[110] }
         cases soI b
         exact zO
       ·rintro _ rfl
        refine nT (zr (rT ?_))
        cases soI h
        exact zq
end Go.Am
