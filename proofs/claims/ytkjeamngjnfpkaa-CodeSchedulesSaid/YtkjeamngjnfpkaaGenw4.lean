/- Own text: Genw4. -/
import Derived.Test.YtkjeamngjnfpkaaGenw3
set_option maxRecDepth 100000
set_option maxHeartbeats 2000000
set_option linter.unusedVariables false
set_option linter.unusedSimpArgs false
namespace Go.Am
open Go Go.Proofs
theorem K85cRw {A:Ar} (hA:SA A) : ∀ (n:Nat) {c r:List D} {C E F G J K L e g i j k l m o p q s:Int} {u v:List D} {w:Int} {y z B:List D} {a:Bool} {b:List D},K85cR A n c r C E F G J K L e g i j k l m o p q s u v w y z B=some (a,b)->ACall Try.prog 85 [.d (.agg [.list 1 c,.list 1 r,.int .i64 C,.int .i64 E,.int .i64 F,.int .i64 G,.int .i64 J,.int .i64 K,.int .i64 L,.int .i64 e,.int .i64 g,.int .i64 i,.int .i64 j,.int .i64 k,.int .i64 l,.int .i64 m,.int .i64 o,.int .i64 p,.int .i64 q,.int .i64 s,.list 6 u,.list 1 v]),zi w,zl 1 y,zl 1 z,(.func 93 [] [.ptr 0 0])] [(.cells [(.own 1 B)])] (.d (.bool a)) [(.cells [(.own 1 b)])]
 | 0,_,_,_,_,_,_,_,_,_,_,_,_,_,_,_,_,_,_,_,_,_,_,_,_,_,_,_,_,h=>by cases h
 | n+1,_,_,_,_,_,_,_,_,_,_,_,_,_,_,_,_,_,_,_,_,_,_,_,_,_,_,_,_,h=>K85cBw hA (fun h=>K85cRw hA n h) h

theorem K85cw {A:Ar} (hA:SA A) {c q:List D} {B C E F G J K e g i j k l m n o p r:Int} {s u:List D} {v:Int} {w y z:List D} {a:Bool} {b:List D} (h:K85c A c q B C E F G J K e g i j k l m n o p r s u v w y z=some (a,b)):ACall Try.prog 85 [.d (.agg [.list 1 c,.list 1 q,.int .i64 B,.int .i64 C,.int .i64 E,.int .i64 F,.int .i64 G,.int .i64 J,.int .i64 K,.int .i64 e,.int .i64 g,.int .i64 i,.int .i64 j,.int .i64 k,.int .i64 l,.int .i64 m,.int .i64 n,.int .i64 o,.int .i64 p,.int .i64 r,.list 6 s,.list 1 u]),zi v,zl 1 w,zl 1 y,(.func 93 [] [.ptr 0 0])] [(.cells [(.own 1 z)])] (.d (.bool a)) [(.cells [(.own 1 b)])]:=K85cRw hA fuel h

theorem K85bw {A:Ar} (hA:SA A) {b q:List D} {v w y z B C E c e g i j k l m o p r L:Int} {M N O s u:List D} {W:Bool} {X:List D} (h:K85b A b q v w y z B C E c e g i j k l m o p r L M N O s u=some (W,X)):ACall Try.prog 85 [.agg [zl 1 b,zl 1 q,zi v,zi w,zi y,zi z,zi B,zi C,zi E,zi c,zi e,zi g,zi i,zi j,zi k,zi l,zi m,zi o,zi p,zi r,.gref 1 6,.gref 4 1],zi L,zl 1 M,zl 1 N,(.func 93 [] [.ptr 0 0])] [(.cells [(.own 1 O)]),.gro 6 s,.dead,.dead,.gro 1 u,.dead,.dead] (.d (.bool W)) [(.cells [(.own 1 X)]),.dead,.dead,.dead,.dead,.dead,.dead]:=by
 unfold K85b at h
 refine zI Try.func85 ?_
 refine zs ?_
 refine zA ?_ { esc:=[5] }
 refine nT ?_
 refine AWp.weak (Wk.freezeG 7 20 rfl rfl rfl) ?_
 refine AWp.weak (Wk.freezeG 7 21 rfl rfl rfl) ?_
 refine zs (zn ?_)
 obtain ⟨J,l0,h⟩:=bindS h
 refine zC (ACall.emb (K56w hA l0) [some 7] [(.cells [(.own 1 O)]),.dead,.dead,.dead,.dead,.dead,.dead,.cells [zl 1 b,zl 1 q,zi v,zi w,zi y,zi z,zi B,zi C,zi E,zi c,zi e,zi g,zi i,zi j,zi k,zi l,zi m,zi o,zi p,zi r,zl 6 s,zl 1 u]] rfl rfl rfl rfl rfl rfl rfl) ?_
 refine zE ?_
 refine nT (zs (zs ?_))
 obtain ⟨a0,G,h⟩:=bindS h
 refine AWp.cutN [1,2,3,4,5,11,24] [] 8 (lb rfl) (fun τ=>τ={ env:=[(1,zi L),(2,zl 1 M),(3,zl 1 N),(4,(.func 93 [] [.ptr 0 0])),(5,.ptr 7 0),(11,zl 1 J),(24,.d (.bool a0))],heap:=[(.cells [(.own 1 O)]),.dead,.dead,.dead,.dead,.dead,.dead,.cells [zl 1 b,zl 1 q,zi v,zi w,zi y,zi z,zi B,zi C,zi E,zi c,zi e,zi g,zi i,zi j,zi k,zi l,zi m,zi o,zi p,zi r,zl 6 s,zl 1 u]],n:=55 }) ?_ ?_
 ·skip
  rcases tf (A.zeq (A.len J) 0) with R | R
  ·replace G:=cT R G
   refine zB ?_
   cases soI G
   exact zO
  ·replace G:=cF R G
   refine zB ?_
   cases soI G
   exact zO
 ·rintro _ rfl
  refine nT ?_
  rcases tf a0 with S | S
  ·replace h:=cT S h
   refine zT ?_
   refine zs ?_
   refine AWp.weak (Wk.freezeObj 7 [5] (ds:=[.list 1 b,.list 1 q,.int .i64 v,.int .i64 w,.int .i64 y,.int .i64 z,.int .i64 B,.int .i64 C,.int .i64 E,.int .i64 c,.int .i64 e,.int .i64 g,.int .i64 i,.int .i64 j,.int .i64 k,.int .i64 l,.int .i64 m,.int .i64 o,.int .i64 p,.int .i64 r,.list 6 s,.list 1 u]) rfl rfl) ?_
   refine zn ?_
   obtain ⟨g3,m0,h⟩:=bindS h
   refine zD (K93w hA m0) ?_ { tk:=[27] }
   refine zF ?_ { tk:=[27] }
   refine nT (zr (rT ?_))
   cases soI h
   exact zq
  ·replace h:=cF S h
   refine zU ?_
   refine zk (nT (zs (zs ?_)))
   refine zB ?_
   refine nT (zb ?_)
   obtain ⟨i3,n0,b0,Y,F⟩:=bindK h
   refine AWp.cutX 0 [] [] 8 (lb rfl) (fun τ => ∃ V,b0 (.inl V)=some (W,X)/\τ={ env:=[],heap:=[(.cells [(.own 1 V)]),.dead,.dead,.dead,.dead,.dead,.dead,.cells [zl 1 b,zl 1 q,zi v,zi w,zi y,zi z,zi B,zi C,zi E,zi c,zi e,zi g,zi i,zi j,zi k,zi l,zi m,zi o,zi p,zi r,zl 6 s,zl 1 u]],n:=55 }) ?_ ?_
   ·skip
    refine AWp.iter n0 [1,2,3,4,5,28,29,30] [] 8 (lb rfl) (fun (U,K)=>{ env:=[(1,zi L),(2,zl 1 M),(3,zl 1 N),(4,(.func 93 [] [.ptr 0 0])),(5,.ptr 7 0),(28,zl 1 J),(29,(.d (.int .i64 (A.len J)))),(30,zi U)],heap:=[(.cells [(.own 1 K)]),.dead,.dead,.dead,.dead,.dead,.dead,.cells [zl 1 b,zl 1 q,zi v,zi w,zi y,zi z,zi B,zi C,zi E,zi c,zi e,zi g,zi i,zi j,zi k,zi l,zi m,zi o,zi p,zi r,zl 6 s,zl 1 u]],n:=55 }) ⟨rfl,zv⟩ ?_
    rintro ⟨U,K⟩ q1 a
    dsimp only [K85bL0] at a
    refine zs ?_
    refine zA ?_
    refine nT (zs ?_)
    rcases tf (A.zlt U (A.len J)) with P | P
    ·replace a:=cT P a
     refine zT ?_
     refine zk (nT (zs (zb (zs ?_))))
     obtain ⟨p1,c0,a⟩:=bindS a
     obtain ⟨r1,s1⟩:=gtI c0
     refine zB ?_
     refine nT (zs (zn ?_))
     obtain ⟨⟨o0,p0,q0,r0,s0,u0,v0,w0,y0,z0,a1,b1,c1,d1,e1,g1,i1,j1,k1,l1,m1,n1⟩,d0,a⟩:=bindS a
     refine zD (ACall.shift (K124w hA d0) rfl rfl [(.cells [(.own 1 K)]),.dead,.dead,.dead,.dead,.dead,.dead,.cells [zl 1 b,zl 1 q,zi v,zi w,zi y,zi z,zi B,zi C,zi E,zi c,zi e,zi g,zi i,zi j,zi k,zi l,zi m,zi o,zi p,zi r,zl 6 s,zl 1 u]] rfl rfl rfl rfl) ?_ { tk:=[35],esc:=[14] }
     refine zF ?_ { tk:=[35],esc:=[14] }
     refine nT (zs (zn ?_))
     obtain ⟨⟨e2,g2,i2,j2,k2,l2,m2,n2,o2,p2,q2,r2,s2,u2,v2,w2,y2,z2,a3,b3,c3,d3⟩,e0,a⟩:=bindS a
     refine zD (ACall.emb (K71w hA e0) [some 14,some 8,some 9,some 10,some 11,some 12,some 13] [(.cells [(.own 1 K)]),.dead,.dead,.dead,.dead,.dead,.dead,.cells [zl 1 b,zl 1 q,zi v,zi w,zi y,zi z,zi B,zi C,zi E,zi c,zi e,zi g,zi i,zi j,zi k,zi l,zi m,zi o,zi p,zi r,zl 6 s,zl 1 u],.gro 6 m1,.dead,.dead,.gro 1 n1,.dead,.dead,.cells [zl 1 o0,zl 1 p0,zi q0,zi r0,zi s0,zi u0,zi v0,zi w0,zi y0,zi z0,zi a1,zi b1,zi c1,zi d1,zi e1,zi g1,zi i1,zi j1,zi k1,zi l1,.gref 8 6,.gref 11 1]] rfl rfl rfl rfl rfl rfl rfl) ?_
     refine zF ?_
     refine nT (zs ?_)
     refine AWp.weak (Wk.freezeG 14 20 rfl rfl rfl) ?_
     refine AWp.weak (Wk.freezeG 14 21 rfl rfl rfl) ?_
     refine AWp.regionDraw rfl (lb rfl) ?_
     obtain ⟨c2,g0,a⟩:=bindS a
     obtain ⟨u1,v1,w1,y1⟩:=slI g0
     obtain ⟨_,i0,a⟩:=bindS a
     have z1:=ckI i0
     obtain ⟨d2,j0,a⟩:=bindS a
     obtain ⟨a2,b2⟩:=apI j0
     obtain ⟨⟨o1,e3⟩,k0,a⟩:=bindS a
     refine DOps.cl hT hA {} rfl zu (K85cw hA k0) rfl rfl rfl rfl rfl (lb rfl) rfl rfl ?_
     refine DOps.cd hT hA {} rfl zu (by kernel_rfl) ?_
     refine nT ?_
     rcases tf o1 with Q | Q
     ·replace a:=cT Q a
      refine zU ?_
      refine zk (nB (nT ?_))
      refine zB ?_
      exact nT ⟨_,(soI a).symm,rfl,zv⟩
     ·replace a:=cF Q a
      refine zT ?_
      refine zs ?_
      refine zB ?_
      refine nT (zr (rB (rT (rT ?_))))
      refine exL a fun hx => ?_
      subst hx
      refine oxR ?_
      replace F:=(eR (Y _ F))
      refine rB (rT ?_)
      cases soI F
      exact zq
    ·replace a:=cF P a
     refine zU ?_
     refine AWp.exit (xT (xT ?_))
     refine exL a fun hx => ?_
     subst hx
     exact oxI ⟨rfl,_,F,zv⟩
   ·rintro _ ⟨V,F,rfl⟩
    have h:=(eL (Y _ F))
    refine xB (nT (zs ?_))
    refine zA ?_
    refine nT (zr ?_)
    cases soI h
    exact zq

theorem K94w {A:Ar} (hA:SA A) {a:List D} (h:K94 A a=some ()):ACall Try.prog 94 [zl 1 a,(.func 95 [] [])] [] (.tuple []) []:=ACall.sortNone1 Try.sort94 rfl (lenZ hA (ckI h)) rfl

theorem K132w {A:Ar} (hA:SA A) {c:List D} {i:Int} (h:K132 A c=some i):ACall Try.prog 132 [zl 1 c] [] (zi i) []:=by
 unfold K132 at h
 refine zI Try.func132 ?_
 refine zs ?_
 refine zA ?_
 refine nT (zs ?_)
 refine zA ?_
 refine nT (zs (zs ?_))
 refine zA ?_
 refine nT (zb ?_)
 obtain ⟨s,o,K16,k,b⟩:=bindK h
 refine AWp.cutX 0 [3] [] 0 (lb rfl) (fun τ=>K16 (.inl ())=some i/\τ={ env:=[(3,zi 0)],heap:=[],n:=18 }) ?_ ?_
 ·skip
  refine AWp.iter o [3,6,7,8] [] 0 (lb rfl) (fun j=>{ env:=[(3,zi 0),(6,zl 1 c),(7,(.d (.int .i64 (A.len c)))),(8,zi j)],heap:=[],n:=18 }) ⟨rfl,zc⟩ ?_
  rintro j p a
  dsimp only [K132L0] at a
  refine zs ?_
  refine zA ?_
  refine nT (zs ?_)
  rcases tf (A.zlt j (A.len c)) with g | g
  ·replace a:=cT g a
   refine zT ?_
   refine zk (nT (zs (zb (zs ?_))))
   obtain ⟨l,m,a⟩:=bindS a
   obtain ⟨q,r⟩:=gtI m
   refine zB ?_ { tk:=[11] }
   refine nT (zs ?_)
   refine zB ?_
   refine nT ?_
   rcases tf (A.zeq l 0) with e | e
   ·replace a:=cT e a
    refine zU ?_
    refine zk (nB (nT ?_))
    refine zB ?_
    exact nT ⟨_,(soI a).symm,rfl,zv⟩
   ·replace a:=cF e a
    refine zT ?_
    refine zs ?_
    refine zB ?_ { tk:=[5,15] }
    refine nT (zr (rB (rT (rT ?_))))
    refine exL a fun hx => ?_
    subst hx
    refine oxR ?_
    replace b:=(eR (k _ b))
    refine rB (rT ?_)
    cases soI b
    exact zq
  ·replace a:=cF g a
   refine zU ?_
   refine AWp.exit (xT (xT ?_))
   refine exL a fun hx => ?_
   subst hx
   exact oxI ⟨rfl,b,zv⟩
 ·rintro _ ⟨b,rfl⟩
  have h:=(eL (k _ b))
  refine xB (nT (zs ?_))
  refine zA ?_ { tk:=[3,17] }
  refine nT (zr ?_)
  cases soI h
  exact zq

theorem K97w {A:Ar} (hA:SA A) {b i j k l m n o p c e g a:Int} (h:K97 A b i j k l m n o p c e g=some a):ACall Try.prog 97 [.d (.agg [.int .i64 b,.int .i64 i,.int .i64 j,.int .i64 k,.int .i64 l,.int .i64 m]),.d (.agg [.int .i64 n,.int .i64 o,.int .i64 p,.int .i64 c,.int .i64 e,.int .i64 g])] [] (zi a) []:=by
 unfold K97 at h
 refine zI Try.func97 ?_
 refine zs ?_
 refine zA ?_
 refine nT (zs (zn ?_))
 obtain ⟨r,q,h⟩:=bindS h
 refine zC (K132w hA q) ?_ { tk:=[31] }
 refine zE ?_ { tk:=[31] }
 refine nT (zr ?_)
 cases soI h
 exact zq

theorem K96w {A:Ar} (hA:SA A) {c e:List D} {o:Int} (h:K96 A c e=some o):ACall Try.prog 96 [zl 6 c,zl 6 e,(.func 97 [] [])] [] (zi o) []:=by
 unfold K96 at h
 refine zI Try.func96 ?_
 refine zs ?_
 refine zA ?_
 refine nT (zs (zs ?_))
 refine zA ?_
 refine nT (zb ?_)
 obtain ⟨R,s,K51,m,b⟩:=bindK h
 refine AWp.cutX 0 [0,1] [] 0 (lb rfl) (fun τ=>K51 (.inl ())=some o/\τ={ env:=[(0,zl 6 c),(1,zl 6 e)],heap:=[],n:=39 }) ?_ ?_
 ·skip
  refine AWp.iter s [0,1,2,11,12,13] [] 0 (lb rfl) (fun g=>{ env:=[(0,zl 6 c),(1,zl 6 e),(2,(.func 97 [] [])),(11,zl 6 c),(12,(.d (.int .i64 (A.len c)))),(13,zi g)],heap:=[],n:=39 }) ⟨rfl,zc⟩ ?_
  rintro g M a
  dsimp only [K96L0] at a
  refine zs ?_
  refine zA ?_
  refine nT (zs ?_)
  rcases tf (A.zlt g (A.len c)) with i | i
  ·replace a:=cT i a
   refine zT ?_
   refine zk (nT (zs (zb (zs ?_))))
   obtain ⟨⟨v,w,y,z,B,C⟩,p,a⟩:=bindS a
   obtain ⟨N,O⟩:=gtI p
   refine zB ?_ { tk:=[17] }
   refine nT (zs (zs ?_))
   refine zB ?_
   refine nT ?_
   rcases tf (A.zle (A.len e) g) with j | j
   ·replace a:=cT j a
    refine zT ?_
    refine zs ?_
    refine zB ?_
    refine nT (zr (rT (rB (rT (rT ?_)))))
    refine exL a fun hx => ?_
    subst hx
    refine oxR ?_
    replace b:=(eR (m _ b))
    refine rB (rT ?_)
    cases soI b
    exact zq
   ·replace a:=cF j a
    refine zU ?_
    refine zk (nT (zs ?_))
    obtain ⟨⟨E,F,G,J,K,L⟩,q,a⟩:=bindS a
    obtain ⟨P,Q⟩:=gtI q
    refine zB ?_ { tk:=[25] }
    refine nT (zs (zn ?_))
    obtain ⟨u,r,a⟩:=bindS a
    refine zD (K97w hA r) ?_ { tk:=[29] }
    refine zF ?_ { tk:=[29] }
    refine nT (zs ?_)
    refine zB ?_
    refine nT ?_
    rcases tf (A.zeq u 0) with k | k
    ·replace a:=cT k a
     refine zU ?_
     refine zk (nB (nT ?_))
     refine zB ?_
     exact nT ⟨_,(soI a).symm,rfl,zv⟩
    ·replace a:=cF k a
     refine zT ?_
     refine zs ?_
     refine zB ?_ { tk:=[10,32] }
     refine nT (zr (rB (rT (rT ?_))))
     refine exL a fun hx => ?_
     subst hx
     refine oxR ?_
     replace b:=(eR (m _ b))
     refine rB (rT ?_)
     cases soI b
     exact zq
  ·replace a:=cF i a
   refine zU ?_
   refine AWp.exit (xT (xT ?_))
   refine exL a fun hx => ?_
   subst hx
   exact oxI ⟨rfl,b,zv⟩
 ·rintro _ ⟨b,rfl⟩
  have h:=(eL (m _ b))
  refine xB (nT (zs (zs ?_)))
  refine zA ?_
  refine nT ?_
  rcases tf (A.zlt (A.len c) (A.len e)) with l | l
  ·replace h:=cT l h
   refine zT ?_
   refine zs ?_
   refine zB ?_
   refine nT (zr (rT ?_))
   cases soI h
   exact zq
  ·replace h:=cF l h
   refine zU ?_
   refine zk (nT (zs ?_))
   refine zB ?_
   refine nT (zr ?_)
   cases soI h
   exact zq

theorem K95w {A:Ar} (hA:SA A) {b c:List D} {a:Int} (h:K95 A b c=some a):ACall Try.prog 95 [zl 6 b,zl 6 c] [] (zi a) []:=by
 unfold K95 at h
 refine zI Try.func95 ?_
 refine zs ?_
 refine zA ?_
 refine nT (zs (zn ?_))
 obtain ⟨g,e,h⟩:=bindS h
 refine zC (K96w hA e) ?_ { tk:=[7] }
 refine zE ?_ { tk:=[7] }
 refine nT (zr ?_)
 cases soI h
 exact zq

theorem K94aw {A:Ar} (hA:SA A) {d e a b:Int} {j r:List D} (h:K94a A d e a b j=some r):ACall Try.prog 94 [.mref 7 1 d e,(.func 95 [] [])] [.cells [.mref 7 1 a b],.dead,.dead,.dead,.dead,.dead,.dead,(.arr 1 j)] (.tuple []) [.cells [.mref 7 1 a b],.dead,.dead,.dead,.dead,.dead,.dead,(.arr 1 r)] :=
 ACall.sortOne Try.sort94 rfl (c:=(cL 6)) (fun _=>rfl) (g:=95) (caps:=[]) rfl (fun _ _ _ h=>K95w hA h) rfl rfl h (i:=7) rfl rfl

theorem K99w {A:Ar} (hA:SA A) {c e:List D} {l:Bool} (h:K99 A c e=some l):ACall Try.prog 99 [zl 6 c,zl 6 e] [] (.d (.bool l)) []:=by
 unfold K99 at h
 refine zI Try.func99 ?_
 refine zs ?_
 refine zA ?_
 refine nT (zs (zs ?_))
 refine zA ?_
 refine nT ?_
 rcases tf (A.zeq (A.len c) (A.len e)) with i | i
 ·replace h:=cT i h
  refine zU ?_
  refine zk (nT (zs (zs ?_)))
  refine zB ?_
  refine nT (zb ?_)
  obtain ⟨O,G,K45,m,b⟩:=bindK h
  refine AWp.cutX 0 [] [] 0 (lb rfl) (fun τ=>K45 (.inl ())=some l/\τ={ env:=[],heap:=[],n:=26 }) ?_ ?_
  ·skip
   refine AWp.iter G [0,1,12,13] [] 0 (lb rfl) (fun k=>{ env:=[(0,zl 6 c),(1,zl 6 e),(12,(.d (.int .i64 (A.len c)))),(13,zi k)],heap:=[],n:=26 }) ⟨rfl,zv⟩ ?_
   rintro k J a
   dsimp only [K99L0] at a
   refine zs ?_
   refine zA ?_
   refine nT (zs ?_)
   rcases tf (A.zlt k (A.len c)) with g | g
   ·replace a:=cT g a
    refine zT ?_
    refine zk (nT (zs (zb (zs ?_))))
    refine zB ?_
    refine nT (zs ?_)
    obtain ⟨⟨o,p,q,r,s,u⟩,E,a⟩:=bindS a
    obtain ⟨K,L⟩:=gtI E
    obtain ⟨⟨v,w,y,z,B,C⟩,F,a⟩:=bindS a
    obtain ⟨M,N⟩:=gtI F
    refine AWp.rd hT hA {} rfl zu (by kernel_rfl) (lb rfl) ?_
    refine nT ?_
    rcases tf (A.deq [.int .i64 o,.int .i64 p,.int .i64 q,.int .i64 r,.int .i64 s,.int .i64 u] [.int .i64 v,.int .i64 w,.int .i64 y,.int .i64 z,.int .i64 B,.int .i64 C]) with j | j
    ·replace a:=cT j a
     refine zU ?_
     refine zk (nB (nT ?_))
     refine zB ?_
     exact nT ⟨_,(soI a).symm,rfl,zv⟩
    ·replace a:=cF j a
     refine zT ?_
     refine zs ?_
     refine zB ?_
     refine nT (zr (rB (rT (rT ?_))))
     refine exL a fun hx => ?_
     subst hx
     refine oxR ?_
     replace b:=(eR (m _ b))
     refine rB (rT ?_)
     cases soI b
     exact zq
   ·replace a:=cF g a
    refine zU ?_
    refine AWp.exit (xT (xT ?_))
    refine exL a fun hx => ?_
    subst hx
    exact oxI ⟨rfl,b,zv⟩
  ·rintro _ ⟨b,rfl⟩
   have h:=(eL (m _ b))
   refine xB (nT (zs ?_))
   refine zA ?_
   refine nT (zr ?_)
   cases soI h
   exact zq
 ·replace h:=cF i h
  refine zT ?_
  refine zs ?_
  refine zB ?_
  refine nT (zr (rT ?_))
  cases soI h
  exact zq

theorem K98w {A:Ar} (hA:SA A) {m j q r:Int} {v:List D} {B C:Int} {E:List D} (h:K98 A m j q r v=some (B,C,E)):ACall Try.prog 98 [.mref 7 1 m j,(.func 99 [] [])] [.cells [.mref 7 1 q r],.dead,.dead,.dead,.dead,.dead,.dead,(.arr 1 v)] (.mref 7 1 B C) [.cells [.mref 7 1 q r],.dead,.dead,.dead,.dead,.dead,.dead,(.arr 1 E)]:=by
 unfold K98 at h
 refine zI Try.func98 ?_
 refine zs ?_
 refine zA ?_
 refine nT (zs (zs ?_))
 refine zA ?_
 refine nT ?_
 rcases tf (A.zlt j 2) with o | o
 ·replace h:=cT o h
  refine zT ?_ (hb:=(by first | rfl | simp only [o,zqa,zqb,zqc,zqd]))
  refine zs ?_
  refine zA ?_ { tk:=[0,11] } (h:=(by (repeat (cbv;simp only [o]));try cbv))
  refine nT (zr (rT ?_))
  cases soI h
  exact zq
 ·replace h:=cF o h
  refine zU ?_ (hb:=(by first | rfl | simp only [o,zqa,zqb,zqc,zqd]))
  refine zk (nT (zs (zs ?_)))
  refine zA ?_ (h:=(by (repeat (cbv;simp only [o]));try cbv))
  refine nT (zb ?_)
  obtain ⟨v2,g2,Y,U,s⟩:=bindK h
  refine AWp.cutX 0 [0] [] 8 (lb rfl) (fun τ=>Y (.inl ())=some (B,C,E)/\τ={ env:=[(0,.mref 7 1 m j)],heap:=[.cells [.mref 7 1 q r],.dead,.dead,.dead,.dead,.dead,.dead,(.arr 1 v)],n:=66 }) ?_ ?_
  ·skip
   refine AWp.iter g2 [0,1,5] [] 8 (lb rfl) (fun p=>{ env:=[(0,.mref 7 1 m j),(1,(.func 99 [] [])),(5,zi p)],heap:=[.cells [.mref 7 1 q r],.dead,.dead,.dead,.dead,.dead,.dead,(.arr 1 v)],n:=66 }) ⟨rfl,(by first | (cbv;done) | ((repeat (cbv;simp only [o]));try cbv))⟩ ?_
   rintro p l1 a
   dsimp only [K98L1] at a
   refine zs (zs ?_)
   refine zA ?_
   refine nT ?_
   rcases tf (A.zlt p j) with e | e
   ·replace a:=cT e a
    refine zT ?_ (hb:=(by first | rfl | simp only [e,zqa,zqb,zqc,zqd]))
    refine zk (nT (zs (zb (zs ?_))))
    refine AWp.regionDraw rfl (lb rfl) ?_
    obtain ⟨_,a0,a⟩:=bindS a
    have F:=ckI a0
    obtain ⟨_,b0,a⟩:=bindS a
    have G:=ckI b0
    obtain ⟨m2,d0,a⟩:=bindS a
    have J:=gcI d0
    obtain ⟨_,e0,a⟩:=bindS a
    have K:=ckI e0
    obtain ⟨_,g0,a⟩:=bindS a
    have L:=ckI g0
    obtain ⟨n2,i0,a⟩:=bindS a
    have M:=gcI i0
    obtain ⟨i2,j0,a⟩:=bindS a
    refine DOps.c0 hT hA {} rfl (by (repeat (cbv;simp only [e,F,G,J,K,L,M]));try cbv) (K99w hA j0) rfl rfl (lb rfl) rfl rfl ?_
    refine DOps.cd hT hA {} rfl (by (repeat (cbv;simp only [e,F,G,J,K,L,M]));try cbv) (by kernel_rfl) ?_
    refine nT ?_
    rcases tf i2 with k | k
    ·replace a:=cT k a
     refine zT ?_ (hb:=(by first | rfl | simp only [e,k,zqa,zqb,zqc,zqd]))
     refine zs ?_
     obtain ⟨_,k0,a⟩:=bindS a
     have m1:=ckI k0
     obtain ⟨_,l0,a⟩:=bindS a
     have n1:=ckI l0
     obtain ⟨_,m0,a⟩:=bindS a
     have o1:=ckI m0
     refine zA ?_ (h:=(by (repeat (cbv;simp only [e,k,m1,n1,o1]));try cbv))
     refine nT (zs (zs ?_))
     refine zA ?_ (h:=(by (repeat (cbv;simp only [e,k]));try cbv))
     refine nT (zb ?_)
     obtain ⟨u2,e2,X,d2,w⟩:=bindK a
     refine AWp.cutX 2 [0,5] [] 8 (lb rfl) (fun τ => ∃ y z,X (y,z)=some l1/\τ={ env:=[(0,.mref 7 1 m j),(5,zi y)],heap:=[.cells [.mref 7 1 q r],.dead,.dead,.dead,.dead,.dead,.dead,(.arr 1 z)],n:=66 }) ?_ ?_
     ·skip
      refine AWp.iter e2 [0,1,5,6,7] [] 8 (lb rfl) (fun (V,u,W)=>{ env:=[(0,.mref 7 1 m j),(1,(.func 99 [] [])),(5,zi V),(6,.mref 7 1 (A.zadd m p) (A.zsub j p)),(7,zi u)],heap:=[.cells [.mref 7 1 q r],.dead,.dead,.dead,.dead,.dead,.dead,(.arr 1 W)],n:=66 }) ⟨rfl,(by first | (cbv;done) | ((repeat (cbv;simp only [e,k]));try cbv))⟩ ?_
      rintro ⟨V,u,W⟩ s2 b
      dsimp only [K98L0] at b
      refine zs (zs ?_)
      refine zA ?_
      refine nT ?_
      rcases tf (A.zlt u (A.zsub j p)) with i | i
      ·replace b:=cT i b
       refine zT ?_ (hb:=(by first | rfl | simp only [i,zqa,zqb,zqc,zqd]))
       refine zk (nT (zs (zb (zs ?_))))
       refine AWp.regionDraw rfl (lb rfl) ?_
       obtain ⟨_,n0,b⟩:=bindS b
       have N:=ckI n0
       obtain ⟨_,o0,b⟩:=bindS b
       have O:=ckI o0
       obtain ⟨o2,p0,b⟩:=bindS b
       have P:=gcI p0
       obtain ⟨_,q0,b⟩:=bindS b
       have Q:=ckI q0
       obtain ⟨_,r0,b⟩:=bindS b
       have R:=ckI r0
       obtain ⟨p2,s0,b⟩:=bindS b
       have S:=gcI s0
       obtain ⟨j2,u0,b⟩:=bindS b
       refine DOps.c0 hT hA {} rfl (by (repeat (cbv;simp only [i,N,O,P,Q,R,S]));try cbv) (K99w hA u0) rfl rfl (lb rfl) rfl rfl ?_
       refine DOps.cd hT hA {} rfl (by (repeat (cbv;simp only [i,N,O,P,Q,R,S]));try cbv) (by kernel_rfl) ?_
       refine nT ?_
       obtain ⟨⟨k2,l2⟩,c,b⟩:=bindS b
       refine AWp.cutN [0,1,5,6,7] [] 8 (lb rfl) (fun τ=>τ={ env:=[(0,.mref 7 1 m j),(1,(.func 99 [] [])),(5,zi k2),(6,.mref 7 1 (A.zadd m p) (A.zsub j p)),(7,zi u)],heap:=[.cells [.mref 7 1 q r],.dead,.dead,.dead,.dead,.dead,.dead,(.arr 1 l2)],n:=66 }) ?_ ?_
       ·skip
        rcases tf j2 with l | l
        ·replace c:=cT l c
         refine zU ?_ (hb:=(by first | rfl | simp only [i,l,zqa,zqb,zqc,zqd]))
         refine zk ?_
         cases soI c
         exact (zO (g:=(by first | (cbv;done) | ((repeat (cbv;simp only [i,l]));try cbv))))
        ·replace c:=cF l c
         refine zT ?_ (hb:=(by first | rfl | simp only [i,l,zqa,zqb,zqc,zqd]))
         refine zs ?_
         obtain ⟨_,v0,c⟩:=bindS c
         have p1:=ckI v0
         obtain ⟨_,w0,c⟩:=bindS c
         have q1:=ckI w0
         obtain ⟨q2,y0,c⟩:=bindS c
         have r1:=gcI y0
         obtain ⟨_,z0,c⟩:=bindS c
         have s1:=ckI z0
         obtain ⟨_,a1,c⟩:=bindS c
         have u1:=ckI a1
         obtain ⟨r2,b1,c⟩:=bindS c
         refine zA ?_ { tk:=[55] } (h:=(by (repeat (cbv;simp only [i,l,p1,q1,r1,s1,u1,b1]));try cbv))
         refine nT ?_
         refine zA ?_ (h:=(by (repeat (cbv;simp only [i,l]));try cbv))
         cases soI c
         exact (zO (g:=(by first | (cbv;done) | ((repeat (cbv;simp only [i,l]));try cbv))))
       ·rintro _ rfl
        refine nB (nT ?_)
        refine zA ?_
        exact nT ⟨_,(soI b).symm,rfl,zc⟩
      ·replace b:=cF i b
       refine zU ?_ (hb:=(by first | rfl | simp only [i,zqa,zqb,zqc,zqd]))
       refine AWp.exit (xT (xT ?_))
       refine exL b fun hx => ?_
       subst hx
       exact oxI ⟨rfl,_,_,w,(by first | (cbv;done) | ((repeat (cbv;simp only [i]));try cbv))⟩
     ·rintro _ ⟨y,z,w,rfl⟩
      have a:=(d2 _ w)
      refine xB (nT (zs ?_))
      obtain ⟨_,c1,a⟩:=bindS a
      have v1:=ckI c1
      obtain ⟨_,d1,a⟩:=bindS a
      have w1:=ckI d1
      obtain ⟨_,e1,a⟩:=bindS a
      have y1:=ckI e1
      obtain ⟨_,g1,a⟩:=bindS a
      have z1:=ckI g1
      refine zA ?_ (h:=(by (repeat (cbv;simp only [v1,w1,y1,z1]));try cbv))
      refine nT (zs ?_)
      obtain ⟨_,i1,a⟩:=bindS a
      have a2:=ckI i1
      obtain ⟨_,j1,a⟩:=bindS a
      have b2:=ckI j1
      obtain ⟨_,k1,a⟩:=bindS a
      have c2:=ckI k1
      refine zA ?_ { tk:=[64] } (h:=(by (repeat (cbv;simp only [a2,b2,c2]));try cbv))
      refine nT (zr (rB (rT (rT ?_))))
      refine exL a fun hx => ?_
      subst hx
      refine oxR ?_
      replace s:=(eR (U _ s))
      refine rB (rT ?_)
      cases soI s
      exact zq
    ·replace a:=cF k a
     refine zU ?_ (hb:=(by first | rfl | simp only [e,k,zqa,zqb,zqc,zqd]))
     refine zk (nB (nT ?_))
     refine zA ?_ (h:=(by (repeat (cbv;simp only [e,k]));try cbv))
     exact nT ⟨_,(soI a).symm,rfl,(by first | (cbv;done) | ((repeat (cbv;simp only [e,k]));try cbv))⟩
   ·replace a:=cF e a
    refine zU ?_ (hb:=(by first | rfl | simp only [e,zqa,zqb,zqc,zqd]))
    refine AWp.exit (xT (xT ?_))
    refine exL a fun hx => ?_
    subst hx
    exact oxI ⟨rfl,s,(by first | (cbv;done) | ((repeat (cbv;simp only [e]));try cbv))⟩
  ·rintro _ ⟨s,rfl⟩
   have h:=(eL (U _ s))
   refine xB (nT (zs ?_))
   refine zA ?_ { tk:=[0,65] }
   refine nT (zr ?_)
   cases soI h
   exact zq

theorem K98aw {A:Ar} (hA:SA A) {c p:List D} (h:K98a A c=some p):ACall Try.prog 98 [zl 1 c,(.func 99 [] [])] [] (zl 1 p) []:=by
 unfold K98a at h
 refine zI Try.func98 ?_
 refine zs ?_
 refine zA ?_
 refine nT (zs (zs ?_))
 refine zA ?_
 refine nT ?_
 rcases tf (A.zlt (A.len c) 2) with g | g
 ·replace h:=cT g h
  refine zT ?_
  refine zs ?_
  refine zB ?_ { tk:=[0,11] }
  refine nT (zr (rT ?_))
  cases soI h
  exact zq
 ·replace h:=cF g h
  refine zU ?_
  refine zk (nT (zs (zs ?_)))
  refine zB ?_
  refine nT (zb ?_)
  obtain ⟨o0,J,K104,F,m⟩:=bindK h
  refine AWp.cutX 0 [0] [] 0 (lb rfl) (fun τ=>K104 ()=some p/\τ={ env:=[(0,zl 1 c)],heap:=[],n:=66 }) ?_ ?_
  ·skip
   refine AWp.iter J [0,1,5] [] 0 (lb rfl) (fun e=>{ env:=[(0,zl 1 c),(1,(.func 99 [] [])),(5,zi e)],heap:=[],n:=66 }) ⟨rfl,zv⟩ ?_
   rintro e E a
   dsimp only [K98aL1] at a
   refine zs (zs ?_)
   refine zA ?_
   refine nT ?_
   rcases tf (A.zlt e (A.len c)) with i | i
   ·replace a:=cT i a
    refine zT ?_
    refine zk (nT (zs (zb (zs ?_))))
    refine AWp.regionDraw rfl (lb rfl) ?_
    obtain ⟨N,s,a⟩:=bindS a
    obtain ⟨X,Y⟩:=gtI s
    obtain ⟨O,u,a⟩:=bindS a
    obtain ⟨a0,b0⟩:=gtI u
    obtain ⟨L,v,a⟩:=bindS a
    refine DOps.c0 hT hA {} rfl zu (K99w hA v) rfl rfl (lb rfl) rfl rfl ?_
    refine DOps.cd hT hA {} rfl zu (by kernel_rfl) ?_
    refine nT ?_
    rcases tf L with j | j
    ·replace a:=cT j a
     refine zT ?_
     refine zs ?_
     obtain ⟨r,w,a⟩:=bindS a
     obtain ⟨d0,e0,g0,i0⟩:=slI w
     refine zB ?_
     refine nT (zs (zs ?_))
     refine zB ?_
     refine nT (zb ?_)
     obtain ⟨p0,K,K97,G,o⟩:=bindK a
     refine AWp.cutX 2 [0,5] [] 0 (lb rfl) (fun τ=>K97 ()=some E/\τ={ env:=[(0,zl 1 c),(5,zi e)],heap:=[],n:=66 }) ?_ ?_
     ·skip
      refine AWp.iter K [0,1,5,6,7] [] 0 (lb rfl) (fun q=>{ env:=[(0,zl 1 c),(1,(.func 99 [] [])),(5,zi e),(6,zl 1 r),(7,zi q)],heap:=[],n:=66 }) ⟨rfl,zv⟩ ?_
      rintro q R b
      dsimp only [K98aL0] at b
      refine zs (zs ?_)
      refine zA ?_
      refine nT ?_
      rcases tf (A.zlt q (A.len r)) with k | k
      ·replace b:=cT k b
       refine zT ?_
       refine zk (nT (zs (zb (zs ?_))))
       refine AWp.regionDraw rfl (lb rfl) ?_
       obtain ⟨P,y,b⟩:=bindS b
       obtain ⟨j0,k0⟩:=gtI y
       obtain ⟨Q,z,b⟩:=bindS b
       obtain ⟨l0,m0⟩:=gtI z
       obtain ⟨M,B,b⟩:=bindS b
       refine DOps.c0 hT hA {} rfl zu (K99w hA B) rfl rfl (lb rfl) rfl rfl ?_
       refine DOps.cd hT hA {} rfl zu (by kernel_rfl) ?_
       refine nT ?_
       rcases tf M with l | l
       ·replace b:=cT l b
        refine zU ?_
        refine zk (nB (nT ?_))
        refine zB ?_
        exact nT ⟨_,(soI b).symm,rfl,zv⟩
       ·replace b:=cF l b
        refine zT ?_
        refine zs ?_
        cases b
      ·replace b:=cF k b
       refine zU ?_
       refine AWp.exit (xT (xT ?_))
       refine exL b fun hx => ?_
       subst hx
       exact oxI ⟨rfl,o,zv⟩
     ·rintro _ ⟨o,rfl⟩
      have a:=(G _ o)
      refine xB (nT (zs ?_))
      obtain ⟨n0,C,a⟩:=bindS a
      obtain ⟨S,U,V,W⟩:=slI C
      cases a
    ·replace a:=cF j a
     refine zU ?_
     refine zk (nB (nT ?_))
     refine zB ?_
     exact nT ⟨_,(soI a).symm,rfl,zv⟩
   ·replace a:=cF i a
    refine zU ?_
    refine AWp.exit (xT (xT ?_))
    refine exL a fun hx => ?_
    subst hx
    exact oxI ⟨rfl,m,zv⟩
  ·rintro _ ⟨m,rfl⟩
   have h:=(F _ m)
   refine xB (nT (zs ?_))
   refine zA ?_ { tk:=[0,65] }
   refine nT (zr ?_)
   cases soI h
   exact zq

theorem K38w {A:Ar} (hA:SA A) {k l:List D} {m:Int} {g:List D} {j:Int} (h:K38 A k l m=some (g,j)):ACall Try.prog 38 [zl 1 k,zl 1 l,zi m] [] (.tuple [zl 1 g,zi j]) []:=by
 unfold K38 at h
 refine ACall.enterR hT (fn:=Try.f38) Try.func38 rfl (by decide) (by simp [Try.f38]) rfl rfl rfl rfl rfl ?_
 refine AWpR.seq ?_
 refine AWpT.of ?_
 refine zA ?_
 refine nT ?_
 refine AWpR.seq ?_
 refine AWpT.of ?_
 refine zs (zn ?_)
 obtain ⟨F,z,h⟩:=bindS h
 refine zC (K89w hA z) ?_
 refine zE ?_
 refine nT (zb (zs ?_))
 refine zA ?_
 refine nT ?_
 rcases tf (A.zeq F 0) with b | b
 ·replace h:=cT b h
  refine zU ?_
  refine zs (zn ?_)
  obtain ⟨G,B,h⟩:=bindS h
  refine zD (K84w hA B) ?_
  refine zF ?_
  refine nT ?_
  rcases tf G with c | c
  ·replace h:=cT c h
   refine zU ?_
   refine zk (nB (nT ?_))
   refine AWpR.seq ?_
   refine AWpT.of ?_
   refine zB ?_ { esc:=[9] }
   refine nT ?_
   refine AWpR.seq ?_
   refine AWpT.of ?_
   refine zn ?_
   obtain ⟨⟨K,L⟩,o,h⟩:=bindS h
   refine zD (ACall.shift (K69w hA o) rfl rfl [(.cells [(.own 1 [])])] rfl rfl rfl rfl) ?_
   obtain ⟨⟨M,e⟩,p,h⟩:=bindS h
   refine zD (K85bw hA p) ?_
   refine zF ?_
   refine nT ?_
   refine AWpR.seq2 ?_
   rcases tf (A.zlt 0 (A.len e)) with a | a
   ·replace h:=cT a h
    obtain ⟨_,q,h⟩:=bindS h
    refine AWpR.thawC [9] 0 0 rfl rfl (neL hA a) (ckI q) (lenL hA) rfl rfl (show AWpR _ _ _ { env:=[(9,.ptr 0 0)],heap:=[(.cells [.mref 7 1 0 (A.len e)]),.dead,.dead,.dead,.dead,.dead,.dead,(.arr 1 e)],n:=31 } from ?_)
    refine AWpR.of ?_
    refine AWpT.of ?_
    refine zn ?_
    obtain ⟨N,u,h⟩:=bindS h
    refine zD (K94aw hA u) ?_
    refine zF ?_
    refine nT ?_
    refine AWpR.of ?_
    refine AWpT.of ?_
    refine zs (zn ?_)
    obtain ⟨⟨O,P,Q⟩,v,h⟩:=bindS h
    refine zD (K98w hA v) ?_
    refine zF ?_
    refine nT ?_
    obtain ⟨J,w,h⟩:=bindS h
    obtain ⟨C,E⟩:=fzI hA w
    refine AWp.freeze (s:=6) (i:=7) rfl rfl C E ?_
    refine zr ?_
    cases soI h
    exact zq
   ·replace h:=cF a h
    refine AWpR.of ?_
    refine AWpT.of ?_
    refine zn ?_
    obtain ⟨_,r,h⟩:=bindS h
    refine zD (K94w hA r) ?_
    refine zF ?_
    refine nT ?_
    refine AWpR.of ?_
    refine AWpT.of ?_
    refine zs (zn ?_)
    obtain ⟨R,y,h⟩:=bindS h
    refine zD (K98aw hA y) ?_
    refine zF ?_
    refine nT (zr ?_)
    cases soI h
    exact zq
  ·replace h:=cF c h
   refine zT ?_
   refine zs ?_
   refine zB ?_
   refine nT (zr (rB (rT ?_)))
   cases soI h
   exact zq
 ·replace h:=cF b h
  refine zT ?_
  refine zs ?_
  refine zB ?_
  refine nT (zr (rB (rT ?_)))
  cases soI h
  exact zq

theorem K161w {A:Ar} (hA:SA A) {b j:List D} (h:K161 A b=some j):ACall Try.prog 161 [zl 6 b] [] (.own 5 j) []:=by
 unfold K161 at h
 refine zI Try.func161 ?_
 refine zs ?_
 refine zA ?_
 refine nT (zs ?_)
 refine zA ?_
 refine nT (zs (zs ?_))
 refine zA ?_
 refine nT (zb ?_)
 obtain ⟨J,q,l,p,e⟩:=bindK h
 refine AWp.cutX 0 [3] [] 0 (lb rfl) (fun τ => ∃ i,l i=some j/\τ={ env:=[(3,(.own 5 i))],heap:=[],n:=41 }) ?_ ?_
 ·skip
  refine AWp.iter q [0,3,4] [] 0 (lb rfl) (fun (k,g)=>{ env:=[(0,zl 6 b),(3,(.own 5 k)),(4,zi g)],heap:=[],n:=41 }) ⟨rfl,zc⟩ ?_
  rintro ⟨k,g⟩ z a
  dsimp only [K161L0] at a
  refine zs (zs ?_)
  refine zA ?_
  refine nT ?_
  rcases tf (A.zlt g (A.len b)) with c | c
  ·replace a:=cT c a
   refine zT ?_
   refine zk (nT (zs (zb ?_)))
   obtain ⟨⟨r,s,u,v,w,y⟩,m,a⟩:=bindS a
   obtain ⟨B,C⟩:=gtI m
   obtain ⟨G,o,a⟩:=bindS a
   obtain ⟨E,F⟩:=apI o
   refine AWp.rd hT hA { tk:=[3,39] } rfl zu (by kernel_rfl) (lb rfl) ?_
   refine nB (nT ?_)
   refine zB ?_
   exact nT ⟨_,(soI a).symm,rfl,zv⟩
  ·replace a:=cF c a
   refine zU ?_
   refine AWp.exit (xT (xT ?_))
   refine exL a fun hx => ?_
   subst hx
   exact oxI ⟨rfl,_,e,zv⟩
 ·rintro _ ⟨i,e,rfl⟩
  have h:=(p _ e)
  refine xB (nT (zs ?_))
  refine zA ?_ { tk:=[3,40] }
  refine nT (zr ?_)
  cases soI h
  exact zq

theorem K133w {A:Ar} (hA:SA A) {U V:List D} {O:Int} (h:K133 A U V=some O):ACall Try.prog 133 [zl 6 U,zl 6 V] [] (zi O) []:=by
 unfold K133 at h
 refine zI Try.func133 ?_
 refine zs ?_
 refine zA ?_
 refine nT (zs (zn ?_))
 obtain ⟨o,Y,h⟩:=bindS h
 refine zC (K161w hA Y) ?_
 obtain ⟨u,e5,h⟩:=bindS h
 refine zC (K161w hA e5) ?_
 refine zE ?_
 refine nT (zs (zs ?_))
 refine zA ?_
 refine nT (zb ?_)
 obtain ⟨w5,y2,X,Q,r⟩:=bindK h
 refine AWp.cutX 0 [5,6] [] 0 (lb rfl) (fun τ=>X (.inl ())=some O/\τ={ env:=[(5,zl 5 o),(6,zl 5 u)],heap:=[],n:=60 }) ?_ ?_
 ·skip
  refine AWp.iter y2 [5,6,7] [] 0 (lb rfl) (fun p=>{ env:=[(5,zl 5 o),(6,zl 5 u),(7,zi p)],heap:=[],n:=60 }) ⟨rfl,zc⟩ ?_
  rintro p o0 k
  dsimp only [K133L1] at k
  refine zs (zs ?_)
  obtain ⟨R,s,k⟩:=bindS k
  refine AWp.cutN [5,6,7,22] [] 0 (lb rfl) (fun τ=>τ={ env:=[(5,zl 5 o),(6,zl 5 u),(7,zi p),(22,.d (.bool R))],heap:=[],n:=60 }) ?_ ?_
  ·skip
   rcases tf (A.zlt p (A.len o)) with m | m
   ·replace s:=cT m s
    refine zA ?_ (h:=(by (repeat (cbv;simp only [m]));try cbv))
    cases soI s
    exact (zO (g:=(by first | (cbv;done) | ((repeat (cbv;simp only [m]));try cbv))))
   ·replace s:=cF m s
    refine zA ?_ (h:=(by (repeat (cbv;simp only [m]));try cbv))
    cases soI s
    exact (zO (g:=(by first | (cbv;done) | ((repeat (cbv;simp only [m]));try cbv))))
  ·rintro _ rfl
   refine nT ?_
   rcases tf R with l | l
   ·replace k:=cT l k
    refine zT ?_ (hb:=(by first | rfl | simp only [l,zqa,zqb,zqc,zqd]))
    refine zk (nT (zs (zb (zs ?_))))
    refine zA ?_ (h:=(by (repeat (cbv;simp only [l]));try cbv))
    refine nT (zb ?_)
    obtain ⟨v5,w2,W,P,q⟩:=bindK k
    refine AWp.cutX 2 [5,6,7] [] 0 (lb rfl) (fun τ=>W (.inl ())=some o0/\τ={ env:=[(5,zl 5 o),(6,zl 5 u),(7,zi p)],heap:=[],n:=60 }) ?_ ?_
    ·skip
     refine AWp.iter w2 [5,6,7,8] [] 0 (lb rfl) (fun j=>{ env:=[(5,zl 5 o),(6,zl 5 u),(7,zi p),(8,zi j)],heap:=[],n:=60 }) ⟨rfl,(by first | (cbv;done) | ((repeat (cbv;simp only [l]));try cbv))⟩ ?_
     rintro j u5 i
     dsimp only [K133L0] at i
     refine zs (zs ?_)
     refine zA ?_
     refine nT ?_
     rcases tf (A.zlt j 5) with e | e
     ·replace i:=cT e i
      refine zT ?_ (hb:=(by first | rfl | simp only [e,zqa,zqb,zqc,zqd]))
      refine zk (nT (zs (zb (zs ?_))))
      obtain ⟨S,a,i⟩:=bindS i
      refine AWp.cutN [5,6,7,8,41] [] 0 (lb rfl) (fun τ=>τ={ env:=[(5,zl 5 o),(6,zl 5 u),(7,zi p),(8,zi j),(41,.d (.bool S))],heap:=[],n:=60 }) ?_ ?_
      ·skip
       obtain ⟨⟨a3,b3,c3,d3,e3⟩,a0,a⟩:=bindS a
       obtain ⟨v,w⟩:=gtI a0
       rcases tf (A.zeq j 0) with B | B
       ·replace a:=cT B a
        obtain ⟨p0,q0,r0⟩:=ixF hA (n:=5) B (by decide)
        obtain ⟨⟨g3,i3,j3,k3,l3⟩,b0,a⟩:=bindS a
        obtain ⟨s0,u0⟩:=gtI b0
        refine AWp.rd hT hA {} rfl (by (repeat (cbv;simp only [e,v,w,p0,q0,r0,s0,u0]));try cbv) (by kernel_rfl) (lb rfl) ?_
        cases soI a
        exact (zO (g:=(by first | (cbv;done) | ((repeat (cbv;simp only [e]));try cbv))))
       ·replace a:=cF B a
        rcases tf (A.zeq j 1) with C | C
        ·replace a:=cT C a
         obtain ⟨v0,w0,y0⟩:=ixF hA (n:=5) C (by decide)
         obtain ⟨⟨m3,n3,o3,p3,q3⟩,c0,a⟩:=bindS a
         obtain ⟨z0,a1⟩:=gtI c0
         refine AWp.rd hT hA {} rfl (by (repeat (cbv;simp only [e,v,w,v0,w0,y0,z0,a1]));try cbv) (by kernel_rfl) (lb rfl) ?_
         cases soI a
         exact (zO (g:=(by first | (cbv;done) | ((repeat (cbv;simp only [e]));try cbv))))
        ·replace a:=cF C a
         rcases tf (A.zeq j 2) with E | E
         ·replace a:=cT E a
          obtain ⟨b1,c1,d1⟩:=ixF hA (n:=5) E (by decide)
          obtain ⟨⟨r3,s3,u3,v3,w3⟩,d0,a⟩:=bindS a
          obtain ⟨e1,g1⟩:=gtI d0
          refine AWp.rd hT hA {} rfl (by (repeat (cbv;simp only [e,v,w,b1,c1,d1,e1,g1]));try cbv) (by kernel_rfl) (lb rfl) ?_
          cases soI a
          exact (zO (g:=(by first | (cbv;done) | ((repeat (cbv;simp only [e]));try cbv))))
         ·replace a:=cF E a
          rcases tf (A.zeq j 3) with F | F
          ·replace a:=cT F a
           obtain ⟨i1,j1,k1⟩:=ixF hA (n:=5) F (by decide)
           obtain ⟨⟨y3,z3,a4,b4,c4⟩,e0,a⟩:=bindS a
           obtain ⟨l1,m1⟩:=gtI e0
           refine AWp.rd hT hA {} rfl (by (repeat (cbv;simp only [e,v,w,i1,j1,k1,l1,m1]));try cbv) (by kernel_rfl) (lb rfl) ?_
           cases soI a
           exact (zO (g:=(by first | (cbv;done) | ((repeat (cbv;simp only [e]));try cbv))))
          ·replace a:=cF F a
           rcases tf (A.zeq j 4) with G | G
           ·replace a:=cT G a
            obtain ⟨n1,o1,p1⟩:=ixF hA (n:=5) G (by decide)
            obtain ⟨⟨d4,e4,g4,i4,j4⟩,g0,a⟩:=bindS a
            obtain ⟨q1,r1⟩:=gtI g0
            refine AWp.rd hT hA {} rfl (by (repeat (cbv;simp only [e,v,w,n1,o1,p1,q1,r1]));try cbv) (by kernel_rfl) (lb rfl) ?_
            cases soI a
            exact (zO (g:=(by first | (cbv;done) | ((repeat (cbv;simp only [e]));try cbv))))
           ·replace a:=cF G a
            cases a
      ·rintro _ rfl
       refine nT ?_
       rcases tf S with c | c
       ·replace i:=cT c i
        refine zT ?_ (hb:=(by first | rfl | simp only [c,zqa,zqb,zqc,zqd]))
        refine zs ?_
        obtain ⟨z2,b,i⟩:=bindS i
        refine AWp.cutN [4] [] 0 (lb rfl) (fun τ=>τ={ env:=[(4,zi z2)],heap:=[],n:=60 }) ?_ ?_
        ·skip
         obtain ⟨⟨k4,l4,m4,n4,o4⟩,i0,b⟩:=bindS b
         obtain ⟨y,z⟩:=gtI i0
         rcases tf (A.zeq j 0) with J | J
         ·replace b:=cT J b
          obtain ⟨s1,u1,v1⟩:=ixF hA (n:=5) J (by decide)
          obtain ⟨⟨p4,q4,r4,s4,u4⟩,j0,b⟩:=bindS b
          obtain ⟨w1,y1⟩:=gtI j0
          refine AWp.rd hT hA { tk:=[54] } rfl (by (repeat (cbv;simp only [c,y,z,s1,u1,v1,w1,y1]));try cbv) (by kernel_rfl) (lb rfl) ?_
          cases soI b
          exact (zO (g:=(by first | (cbv;done) | ((repeat (cbv;simp only [c]));try cbv))))
         ·replace b:=cF J b
          rcases tf (A.zeq j 1) with K | K
          ·replace b:=cT K b
           obtain ⟨z1,a2,b2⟩:=ixF hA (n:=5) K (by decide)
           obtain ⟨⟨v4,w4,y4,z4,a5⟩,k0,b⟩:=bindS b
           obtain ⟨c2,d2⟩:=gtI k0
           refine AWp.rd hT hA { tk:=[54] } rfl (by (repeat (cbv;simp only [c,y,z,z1,a2,b2,c2,d2]));try cbv) (by kernel_rfl) (lb rfl) ?_
           cases soI b
           exact (zO (g:=(by first | (cbv;done) | ((repeat (cbv;simp only [c]));try cbv))))
          ·replace b:=cF K b
           rcases tf (A.zeq j 2) with L | L
           ·replace b:=cT L b
            obtain ⟨e2,g2,i2⟩:=ixF hA (n:=5) L (by decide)
            obtain ⟨⟨b5,c5,d5,g5,i5⟩,l0,b⟩:=bindS b
            obtain ⟨j2,k2⟩:=gtI l0
            refine AWp.rd hT hA { tk:=[54] } rfl (by (repeat (cbv;simp only [c,y,z,e2,g2,i2,j2,k2]));try cbv) (by kernel_rfl) (lb rfl) ?_
            cases soI b
            exact (zO (g:=(by first | (cbv;done) | ((repeat (cbv;simp only [c]));try cbv))))
           ·replace b:=cF L b
            rcases tf (A.zeq j 3) with M | M
            ·replace b:=cT M b
             obtain ⟨l2,m2,n2⟩:=ixF hA (n:=5) M (by decide)
             obtain ⟨⟨j5,k5,l5,m5,n5⟩,m0,b⟩:=bindS b
             obtain ⟨o2,p2⟩:=gtI m0
             refine AWp.rd hT hA { tk:=[54] } rfl (by (repeat (cbv;simp only [c,y,z,l2,m2,n2,o2,p2]));try cbv) (by kernel_rfl) (lb rfl) ?_
             cases soI b
             exact (zO (g:=(by first | (cbv;done) | ((repeat (cbv;simp only [c]));try cbv))))
            ·replace b:=cF M b
             rcases tf (A.zeq j 4) with N | N
             ·replace b:=cT N b
              obtain ⟨q2,r2,s2⟩:=ixF hA (n:=5) N (by decide)
              obtain ⟨⟨o5,p5,q5,r5,s5⟩,n0,b⟩:=bindS b
              obtain ⟨u2,v2⟩:=gtI n0
              refine AWp.rd hT hA { tk:=[54] } rfl (by (repeat (cbv;simp only [c,y,z,q2,r2,s2,u2,v2]));try cbv) (by kernel_rfl) (lb rfl) ?_
              cases soI b
              exact (zO (g:=(by first | (cbv;done) | ((repeat (cbv;simp only [c]));try cbv))))
             ·replace b:=cF N b
              cases b
        ·rintro _ rfl
         refine nT (zr (rB (rT (rT ?_))))
         refine exL i fun hx => ?_
         subst hx
         refine oxR ?_
         replace q:=(eR (P _ q))
         refine rB (rB (rT (rT ?_)))
         refine exL q fun hx => ?_
         subst hx
         refine oxR ?_
         replace r:=(eR (Q _ r))
         refine rB (rT ?_)
         cases soI r
         exact zq
       ·replace i:=cF c i
        refine zU ?_ (hb:=(by first | rfl | simp only [c,zqa,zqb,zqc,zqd]))
        refine zk (nB (nT ?_))
        refine zA ?_ (h:=(by (repeat (cbv;simp only [c]));try cbv))
        exact nT ⟨_,(soI i).symm,rfl,(by first | (cbv;done) | ((repeat (cbv;simp only [c]));try cbv))⟩
     ·replace i:=cF e i
      refine zU ?_ (hb:=(by first | rfl | simp only [e,zqa,zqb,zqc,zqd]))
      refine AWp.exit (xT (xT ?_))
      refine exL i fun hx => ?_
      subst hx
      exact oxI ⟨rfl,q,(by first | (cbv;done) | ((repeat (cbv;simp only [e]));try cbv))⟩
    ·rintro _ ⟨q,rfl⟩
     have k:=(eL (P _ q))
     refine xB (nB (nT ?_))
     refine zA ?_
     exact nT ⟨_,(soI k).symm,rfl,zc⟩
   ·replace k:=cF l k
    refine zU ?_ (hb:=(by first | rfl | simp only [l,zqa,zqb,zqc,zqd]))
    refine AWp.exit (xT (xT ?_))
    refine exL k fun hx => ?_
    subst hx
    exact oxI ⟨rfl,r,(by first | (cbv;done) | ((repeat (cbv;simp only [l]));try cbv))⟩
 ·rintro _ ⟨r,rfl⟩
  have h:=(eL (Q _ r))
  refine xB (nT (zs ?_))
  refine zA ?_ { tk:=[59] }
  refine nT (zr ?_)
  cases soI h
  exact zq

theorem K100w {A:Ar} (hA:SA A) {g i k:List D} (h:K100 A g i=some k):ACall Try.prog 100 [.gref 0 1,zl 6 g] [.gro 1 i,.dead,.dead] (.gref 3 1) [.dead,.dead,.dead,.gro 1 k,.dead,.dead]:=by
 unfold K100 at h
 refine zI Try.func100 ?_
 refine zs ?_
 refine zA ?_
 refine nT (zs ?_)
 refine zA ?_
 refine nT (zs (zb ?_))
 obtain ⟨o1,c0,K38,a0,r⟩:=bindK h
 refine AWp.cutXW 0 (fun τ => ∃ e,K38 e=some k/\τ={ env:=[(0,.gref 0 1),(1,zl 6 g),(5,zi e)],heap:=[.gro 1 i,.dead,.dead],n:=66 }) ?_ ?_
 ·skip
  refine AWp.iterW c0 (fun (u,v)=>{ env:=[(0,.gref 0 1),(1,zl 6 g),(5,zi u),(6,zi v)],heap:=[.gro 1 i,.dead,.dead],n:=66 }) ⟨_,zR [some 0,some 1,some 2] [0,1,5,6],rfl⟩ ?_
  rintro ⟨u,v⟩ o0 a
  dsimp only [K100L0] at a
  refine zs (zs ?_)
  refine zA ?_
  refine nT ?_
  rcases tf (A.zlt u v) with l | l
  ·replace a:=cT l a
   refine zT ?_
   refine zk (nT (zb (zs ?_)))
   obtain ⟨_,C,a⟩:=bindS a
   have q0:=nkI C
   refine zB ?_
   refine nT (zs (zn ?_))
   obtain ⟨_,E,a⟩:=bindS a
   have r0:=ckI E
   obtain ⟨_,F,a⟩:=bindS a
   have s0:=ckI F
   obtain ⟨j0,G,a⟩:=bindS a
   have u0:=gcI G
   obtain ⟨e0,J,a⟩:=bindS a
   refine zD (K133w hA J) ?_
   refine zF ?_
   refine nT ?_
   obtain ⟨⟨g0,i0⟩,j,a⟩:=bindS a
   refine AWp.cutW (fun τ=>τ={ env:=[(0,.gref 0 1),(1,zl 6 g),(5,zi g0),(6,zi i0)],heap:=[.gro 1 i,.dead,.dead],n:=66 }) ?_ ?_
   ·skip
    rcases tf (A.zlt e0 0) with m | m
    ·replace j:=cT m j
     refine zT ?_
     refine zB ?_
     cases soI j
     exact oWi ⟨_,zR [some 0,some 1,some 2] [0,1,5,6],rfl⟩
    ·replace j:=cF m j
     refine zU ?_
     refine zB ?_
     cases soI j
     exact oWi ⟨_,zR [some 0,some 1,some 2] [0,1,5,6],rfl⟩
   ·rintro _ rfl
    refine nB ?_
    exact nT ⟨_,(soI a).symm,_,zR [some 0,some 1,some 2] [0,1,5,6],rfl⟩
  ·replace a:=cF l a
   refine zU ?_
   refine AWp.exit (xT (xT ?_))
   refine exL a fun hx => ?_
   subst hx
   exact oxWI ⟨_,zR [some 0,some 1,some 2] [0,1,5],_,r,rfl⟩
 ·rintro _ ⟨e,r,rfl⟩
  have h:=(a0 _ r)
  refine xB (nT (zs (zs ?_)))
  obtain ⟨z,c,h⟩:=bindS h
  refine AWp.cutW (fun τ=>τ={ env:=[(0,.gref 0 1),(1,zl 6 g),(5,zi e),(40,.d (.bool z))],heap:=[.gro 1 i,.dead,.dead],n:=66 }) ?_ ?_
  ·skip
   refine zn ?_
   rcases tf (A.zlt e (A.len i)) with o | o
   ·replace c:=cT o c
    obtain ⟨_,K,c⟩:=bindS c
    have v0:=ckI K
    obtain ⟨_,L,c⟩:=bindS c
    have w0:=ckI L
    obtain ⟨k0,M,c⟩:=bindS c
    have y0:=gcI M
    obtain ⟨n1,N,c⟩:=bindS c
    refine zD (K133w hA N) ?_
    refine zF ?_
    cases soI c
    exact oWi ⟨_,zR [some 0,some 1,some 2] [0,1,5,40],rfl⟩
   ·replace c:=cF o c
    refine zF ?_
    cases soI c
    exact oWi ⟨_,zR [some 0,some 1,some 2] [0,1,5,40],rfl⟩
  ·rintro _ rfl
   refine nT ?_
   rcases tf z with p | p
   ·replace h:=cT p h
    refine zT ?_
    refine zs ?_
    refine zB ?_ { tk:=[0,41] }
    refine nT ?_
    refine AWp.weak (Wk.ren [none,none,none,some 0,some 1,some 2] [4] rfl rfl) ?_
    refine zr (rT ?_)
    cases soI h
    exact zq
   ·replace h:=cF p h
    refine zU ?_
    refine zk (nT (zs ?_))
    obtain ⟨m1,O,h⟩:=bindS h
    obtain ⟨z0,a1⟩:=apI O
    refine zB ?_ { tk:=[0,44],gr:=[44] }
    refine nT (zs (zs ?_))
    refine zB ?_
    refine nT (zb ?_)
    obtain ⟨p1,d0,K89,b0,s⟩:=bindK h
    refine AWp.cutXW 2 (fun τ => ∃ y,K89 y=some k/\τ={ env:=[(0,.gref 3 1),(1,zl 6 g),(5,zi e)],heap:=[.dead,.dead,.dead,.gro 1 y,.dead,.dead],n:=66 }) ?_ ?_
    ·skip
     refine AWp.iterW d0 (fun (w,B)=>{ env:=[(0,.gref 3 1),(1,zl 6 g),(5,zi e),(8,zi w)],heap:=[.dead,.dead,.dead,.gro 1 B,.dead,.dead],n:=66 }) ⟨_,zR [some 0,some 1,some 2,some 3,some 4,some 5] [0,1,5,8],rfl⟩ ?_
     rintro ⟨w,B⟩ p0 b
     dsimp only [K100L1] at b
     refine zs (zs ?_)
     refine zA ?_
     refine nT ?_
     rcases tf (A.zlt e w) with q | q
     ·replace b:=cT q b
      refine zT ?_
      refine zk (nT (zs (zb ?_)))
      obtain ⟨_,P,b⟩:=bindS b
      have b1:=ckI P
      obtain ⟨_,Q,b⟩:=bindS b
      have c1:=ckI Q
      obtain ⟨l0,R,b⟩:=bindS b
      have d1:=gcI R
      obtain ⟨_,S,b⟩:=bindS b
      have e1:=ckI S
      obtain ⟨_,U,b⟩:=bindS b
      have g1:=ckI U
      obtain ⟨m0,V,b⟩:=bindS b
      have i1:=gcI V
      refine zB ?_ { tk:=[59] }
      refine nB (nT ?_)
      refine zB ?_
      exact nT ⟨_,(soI b).symm,_,zR [some 0,some 1,some 2,some 3,some 4,some 5] [0,1,5,8],rfl⟩
     ·replace b:=cF q b
      refine zU ?_
      refine AWp.exit (xT (xT ?_))
      refine exL b fun hx => ?_
      subst hx
      exact oxWI ⟨_,zR [some 0,some 1,some 2,some 3,some 4,some 5] [0,1,5],_,s,rfl⟩
    ·rintro _ ⟨y,s,rfl⟩
     have h:=(b0 _ s)
     refine xB (nT (zs ?_))
     obtain ⟨_,W,h⟩:=bindS h
     have j1:=ckI W
     obtain ⟨_,X,h⟩:=bindS h
     have k1:=ckI X
     obtain ⟨n0,Y,h⟩:=bindS h
     have l1:=gcI Y
     refine zB ?_ { tk:=[1,63] }
     refine nT (zs ?_)
     refine zA ?_ { tk:=[0,65] }
     refine nT (zr ?_)
     cases soI h
     exact zq

theorem K39w {A:Ar} (hA:SA A) {o p:List D} {q:Int} {j:List D} {k:Int} (h:K39 A o p q=some (j,k)):ACall Try.prog 39 [zl 1 o,zl 1 p,zi q] [] (.tuple [zl 1 j,zi k]) []:=by
 unfold K39 at h
 refine zI Try.func39 ?_
 refine zs ?_
 refine zA ?_
 refine nT (zs (zn ?_))
 obtain ⟨B,s,h⟩:=bindS h
 refine zC (K91w hA s) ?_
 refine zE ?_
 refine nT (zs (zs ?_))
 refine zA ?_
 refine nT ?_
 rcases tf (A.zeq B 0) with c | c
 ·replace h:=cT c h
  refine zU ?_
  refine zk (nT (zs (zn ?_)))
  obtain ⟨l,w,h⟩:=bindS h
  refine zD (K92w hA w) ?_
  refine zF ?_
  refine nT (zs ?_)
  refine zB ?_
  refine nT (zs (zs ?_))
  refine zB ?_
  refine nT (zb ?_)
  refine AWp.weak (Wk.settleS 10 rfl (lb rfl)) ?_
  obtain ⟨V,z,r,y,e⟩:=bindK h
  refine AWp.cutXW 0 (fun τ => ∃ i,r i=some (j,k)/\τ={ env:=[(10,.gref 0 1)],heap:=[.gro 1 i,.dead,.dead],n:=40 }) ?_ ?_
  ·skip
   refine AWp.iterW z (fun (g,m)=>{ env:=[(9,zl 2 l),(10,.gref 0 1),(11,zi g)],heap:=[.gro 1 m,.dead,.dead],n:=40 }) ⟨_,zR [some 0,some 1,some 2] [9,10,11],rfl⟩ ?_
   rintro ⟨g,m⟩ Q a
   dsimp only [K39L0] at a
   refine zs (zs ?_)
   refine zA ?_
   refine nT ?_
   rcases tf (A.zlt g (A.len l)) with b | b
   ·replace a:=cT b a
    refine zT ?_
    refine zk (nT (zs (zb (zn ?_))))
    obtain ⟨⟨C,E,F,G,J,K,L,M,N,O,P⟩,u,a⟩:=bindS a
    obtain ⟨R,S⟩:=gtI u
    obtain ⟨U,v,a⟩:=bindS a
    refine zD (K100w hA v) ?_ { tk:=[10,38] }
    refine zF ?_ { tk:=[10,38] }
    refine nB (nT ?_)
    refine zB ?_
    exact nT ⟨_,(soI a).symm,_,zR [some 3,some 4,some 5] [9,10,11],rfl⟩
   ·replace a:=cF b a
    refine zU ?_
    refine AWp.exit (xT (xT ?_))
    refine exL a fun hx => ?_
    subst hx
    exact oxWI ⟨_,zR [some 0,some 1,some 2] [10],_,e,rfl⟩
  ·rintro _ ⟨i,e,rfl⟩
   have h:=(y _ e)
   refine xB (nT (zs ?_))
   refine zA ?_
   refine nT ?_
   refine AWp.weak (Wk.freezeS 6 rfl rfl) ?_
   refine zr ?_
   cases soI h
   exact zq
 ·replace h:=cF c h
  refine zT ?_
  refine zs ?_
  refine zB ?_
  refine nT (zr (rT ?_))
  cases soI h
  exact zq
end Go.Am
