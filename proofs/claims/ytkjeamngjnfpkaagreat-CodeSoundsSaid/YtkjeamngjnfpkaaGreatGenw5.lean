/- Own text: Genw5. -/
import Derived.Test.YtkjeamngjnfpkaaGreatGenw4
set_option maxRecDepth 100000
set_option maxHeartbeats 2000000
set_option linter.unusedVariables false
set_option linter.unusedSimpArgs false
namespace Go.Am
open Go Go.Proofs
theorem Z14w {A:Ar} (hA:SA A) {e g:List D} {b:Bool} {c:Int} (h:Z14 A e g=some (b,c)):ACall Tryz.prog 14 [zl 4 e,zl 6 g] [] (.tuple [.d (.bool b),zi c]) []:=by
 unfold Z14 at h
 refine zI Tryz.func14 ?_
 refine zs ?_
 refine zA ?_
 refine nT (zs (zn ?_))
 obtain ⟨⟨k,j⟩,i,h⟩:=bindS h
 refine zC (Z50w hA i) ?_
 refine zE ?_
 refine nT (zs (zs ?_))
 refine zA ?_
 refine nT ?_
 rcases tf (A.zeq j 5) with a | a
 ·replace h:=cT a h
  refine zT ?_
  refine zs ?_
  refine zB ?_
  refine nT (zr (rT ?_))
  cases soI h
  exact zq
 ·replace h:=cF a h
  refine zU ?_
  refine zk (nT (zs ?_))
  refine zB ?_
  refine nT (zr ?_)
  cases soI h
  exact zq

theorem Z63w {A:Ar} (hA:SA A) {b c:Int} {e g i:List D} {a:Bool} (h:Z63 A b c e g i=some a):ACall Tryz.prog 63 [.d (.agg [.int .i64 b,.int .i64 c,.list 1 e,.list 1 g]),zl 6 i] [] (.d (.bool a)) []:=by
 unfold Z63 at h
 refine zI Tryz.func63 ?_
 refine zs ?_
 refine zA ?_
 refine nT (zs (zn ?_))
 obtain ⟨⟨k,l⟩,j,h⟩:=bindS h
 refine zC (Z14w hA j) ?_ { tk:=[12] }
 refine zE ?_ { tk:=[12] }
 refine nT (zs ?_)
 refine zA ?_ { tk:=[5,14] }
 refine nT (zr ?_)
 cases soI h
 exact zq

theorem Z21w {A:Ar} (hA:SA A) {c e:List D} {l:Bool} (h:Z21 A c e=some l):ACall Tryz.prog 21 [zl 1 c,zl 1 e] [] (.d (.bool l)) []:=by
 unfold Z21 at h
 refine zI Tryz.func21 ?_
 refine zs ?_
 refine zA ?_
 refine nT (zs (zs ?_))
 refine zA ?_
 refine nT ?_
 rcases tf (A.zeq (A.len c) (A.len e)) with j | j
 ·replace h:=cT j h
  refine zU ?_
  refine zk (nT (zs (zs ?_)))
  refine zB ?_
  refine nT (zb ?_)
  obtain ⟨C,u,o,m,b⟩:=bindK h
  refine AWp.cutX 0 [] [] 0 (lb rfl) (fun τ=>o (.inl ())=some l/\τ={ env:=[],heap:=[],n:=26 }) ?_ ?_
  ·skip
   refine AWp.iter u [0,1,5] [] 0 (lb rfl) (fun k=>{ env:=[(0,zl 1 c),(1,zl 1 e),(5,zi k)],heap:=[],n:=26 }) ⟨rfl,zv⟩ ?_
   rintro k v a
   dsimp only [Z21L0] at a
   refine zs (zs ?_)
   refine zA ?_
   refine nT ?_
   rcases tf (A.zlt k (A.len c)) with g | g
   ·replace a:=cT g a
    refine zT ?_
    refine zk (nT (zs (zb (zs ?_))))
    obtain ⟨p,r,a⟩:=bindS a
    obtain ⟨w,y⟩:=gtI r
    obtain ⟨q,s,a⟩:=bindS a
    obtain ⟨z,B⟩:=gtI s
    refine AWp.rd hT hA {} rfl zu (by kernel_rfl) (lb rfl) ?_
    refine nT ?_
    rcases tf (A.zeq p q) with i | i
    ·replace a:=cT i a
     refine zU ?_
     refine zk (nB (nT ?_))
     refine zB ?_
     exact nT ⟨_,(soI a).symm,rfl,zv⟩
    ·replace a:=cF i a
     refine zT ?_
     refine zs ?_
     refine zB ?_
     refine nT (zr (rB (rT (rT ?_))))
     refine exL a fun hx => ?_
     subst hx
     refine oxR ?_
     replace b:=(eR (m _ b))
     refine rB (rT ?_)
     cases soI b
     exact zq
   ·replace a:=cF g a
    refine zU ?_
    refine AWp.exit (xT (xT ?_))
    refine exL a fun hx => ?_
    subst hx
    exact oxI ⟨rfl,b,zv⟩
  ·rintro _ ⟨b,rfl⟩
   have h:=(eL (m _ b))
   refine xB (nT (zs ?_))
   refine zA ?_
   refine nT (zr ?_)
   cases soI h
   exact zq
 ·replace h:=cF j h
  refine zT ?_
  refine zs ?_
  refine zB ?_
  refine nT (zr (rT ?_))
  cases soI h
  exact zq

theorem Z94bw {A:Ar} (hA:SA A) {i:Int} {v C:List D} {E F G J K L j k l m o p q r s u w y:Int} {z B:List D} {S:Bool} (h:Z94b A i v C E F G J K L j k l m o p q r s u w y z B=some S):ACall Tryz.prog 94 [.ptr 0 0,zi i] [.cells [zl 1 v,zl 1 C,zi E,zi F,zi G,zi J,zi K,zi L,zi j,zi k,zi l,zi m,zi o,zi p,zi q,zi r,zi s,zi u,zi w,zi y,zl 6 z,zl 1 B]] (.d (.bool S)) [.cells [zl 1 v,zl 1 C,zi E,zi F,zi G,zi J,zi K,zi L,zi j,zi k,zi l,zi m,zi o,zi p,zi q,zi r,zi s,zi u,zi w,zi y,zl 6 z,zl 1 B]]:=by
 unfold Z94b at h
 refine zI Tryz.func94 ?_
 refine zs ?_
 refine zA ?_
 refine nT (zs ?_)
 obtain ⟨i0,a,h⟩:=bindS h
 refine AWp.cutN [4] [] 1 (lb rfl) (fun τ=>τ={ env:=[(4,.d (.bool i0))],heap:=[.cells [zl 1 v,zl 1 C,zi E,zi F,zi G,zi J,zi K,zi L,zi j,zi k,zi l,zi m,zi o,zi p,zi q,zi r,zi s,zi u,zi w,zi y,zl 6 z,zl 1 B]],n:=31 }) ?_ ?_
 ·skip
  refine AWp.regionDraw rfl (lb rfl) ?_
  obtain ⟨g0,U,a⟩:=bindS a
  refine DOps.c0 hT hA { tk:=[30] } rfl zc (Z82w hA U) rfl rfl (lb rfl) rfl rfl ?_
  rcases tf g0 with b | b
  ·replace a:=cT b a
   rcases tf (A.zeq i 0) with c | c
   ·replace a:=cT c a
    obtain ⟨X,Y,M⟩:=ixF hA (n:=2) c (by decide)
    obtain ⟨j0,V,a⟩:=bindS a
    obtain ⟨a0,N⟩:=gtI V
    have O:=N
    rw [M] at O
    refine DOps.cd hT hA { tk:=[30] } rfl (by (repeat (cbv;simp only [b,X,Y,M,O,a0,N]));try cbv) (by kernel_rfl) ?_
    cases soI a
    exact (zO (g:=(by first | (cbv;done) | ((repeat (cbv;simp only [b]));try cbv))))
   ·replace a:=cF c a
    rcases tf (A.zeq i 1) with e | e
    ·replace a:=cT e a
     obtain ⟨b0,d0,P⟩:=ixF hA (n:=2) e (by decide)
     obtain ⟨k0,W,a⟩:=bindS a
     obtain ⟨e0,Q⟩:=gtI W
     have R:=Q
     rw [P] at R
     refine DOps.cd hT hA { tk:=[30] } rfl (by (repeat (cbv;simp only [b,b0,d0,P,R,e0,Q]));try cbv) (by kernel_rfl) ?_
     cases soI a
     exact (zO (g:=(by first | (cbv;done) | ((repeat (cbv;simp only [b]));try cbv))))
    ·replace a:=cF e a
     cases a
  ·replace a:=cF b a
   refine DOps.cd hT hA { tk:=[30] } rfl (by (repeat (cbv;simp only [b]));try cbv) (by kernel_rfl) ?_
   cases soI a
   exact (zO (g:=(by first | (cbv;done) | ((repeat (cbv;simp only [b]));try cbv))))
 ·rintro _ rfl
  refine nT (zr ?_)
  cases soI h
  exact zq

theorem Z55aw {A:Ar} (hA:SA A) {e b:List D} {w y z B C E F g i j k l m o p q r s:Int} {u v N:List D} (h:Z55a A e b w y z B C E F g i j k l m o p q r s u v=some N):ACall Tryz.prog 55 [.ptr 0 0] [.cells [zl 1 e,zl 1 b,zi w,zi y,zi z,zi B,zi C,zi E,zi F,zi g,zi i,zi j,zi k,zi l,zi m,zi o,zi p,zi q,zi r,zi s,zl 6 u,zl 1 v]] (.own 1 N) [.cells [zl 1 e,zl 1 b,zi w,zi y,zi z,zi B,zi C,zi E,zi F,zi g,zi i,zi j,zi k,zi l,zi m,zi o,zi p,zi q,zi r,zi s,zl 6 u,zl 1 v]]:=by
 unfold Z55a at h
 refine zI Tryz.func55 ?_
 refine zs ?_
 refine zA ?_
 refine nT (zs ?_)
 refine zA ?_
 refine nT (zs (zs ?_))
 refine zA ?_
 refine nT (zb ?_)
 obtain ⟨c0,U,P,S,L⟩:=bindK h
 refine AWp.cutX 0 [3] [] 1 (lb rfl) (fun τ => ∃ M,P M=some N/\τ={ env:=[(3,(.own 1 M))],heap:=[.cells [zl 1 e,zl 1 b,zi w,zi y,zi z,zi B,zi C,zi E,zi F,zi g,zi i,zi j,zi k,zi l,zi m,zi o,zi p,zi q,zi r,zi s,zl 6 u,zl 1 v]],n:=22 }) ?_ ?_
 ·skip
  refine AWp.iter U [0,3,9,10] [] 1 (lb rfl) (fun (O,G)=>{ env:=[(0,.ptr 0 0),(3,(.own 1 O)),(9,(.d (.int .i64 (A.len b)))),(10,zi G)],heap:=[.cells [zl 1 e,zl 1 b,zi w,zi y,zi z,zi B,zi C,zi E,zi F,zi g,zi i,zi j,zi k,zi l,zi m,zi o,zi p,zi q,zi r,zi s,zl 6 u,zl 1 v]],n:=22 }) ⟨rfl,zc⟩ ?_
  rintro ⟨O,G⟩ X a
  dsimp only [Z55aL0] at a
  refine zs ?_
  refine zA ?_
  refine nT (zs ?_)
  rcases tf (A.zlt G (A.len b)) with J | J
  ·replace a:=cT J a
   refine zT ?_
   refine zk (nT (zs (zb (zs ?_))))
   refine zB ?_
   refine nT (zs (zn ?_))
   obtain ⟨V,Q,a⟩:=bindS a
   refine zD (Z94bw hA Q) ?_
   refine zF ?_
   refine nT ?_
   obtain ⟨W,c,a⟩:=bindS a
   refine AWp.cutN [0,3,9,10] [] 1 (lb rfl) (fun τ=>τ={ env:=[(0,.ptr 0 0),(3,(.own 1 W)),(9,(.d (.int .i64 (A.len b)))),(10,zi G)],heap:=[.cells [zl 1 e,zl 1 b,zi w,zi y,zi z,zi B,zi C,zi E,zi F,zi g,zi i,zi j,zi k,zi l,zi m,zi o,zi p,zi q,zi r,zi s,zl 6 u,zl 1 v]],n:=22 }) ?_ ?_
   ·skip
    rcases tf V with K | K
    ·replace c:=cT K c
     refine zT ?_
     obtain ⟨b0,R,c⟩:=bindS c
     obtain ⟨Y,a0⟩:=apI R
     refine zB ?_ { tk:=[3,19] }
     cases soI c
     exact zO
    ·replace c:=cF K c
     refine zU ?_
     refine zk ?_
     cases soI c
     exact zO
   ·rintro _ rfl
    refine nB (nT ?_)
    refine zA ?_
    exact nT ⟨_,(soI a).symm,rfl,zc⟩
  ·replace a:=cF J a
   refine zU ?_
   refine AWp.exit (xT (xT ?_))
   refine exL a fun hx => ?_
   subst hx
   exact oxI ⟨rfl,_,L,zv⟩
 ·rintro _ ⟨M,L,rfl⟩
  have h:=(S _ L)
  refine xB (nT (zs ?_))
  refine zA ?_ { tk:=[3,21] }
  refine nT (zr ?_)
  cases soI h
  exact zq

theorem Z117w {A:Ar} (hA:SA A) {c e:List D} (h:Z117 A c=some e):ACall Tryz.prog 117 [zl 6 c] [] (.own 6 e) []:=by
 unfold Z117 at h
 refine zI Tryz.func117 ?_
 refine zs ?_
 refine zA ?_
 refine nT (zs (zs ?_))
 rcases tf (A.zlt 0 (A.len c)) with a | a
 ·replace h:=cT a h
  refine zB ?_
  refine nT ?_
  refine AWp.cond (b:=false) (by cbv;simp only [a]) ?_
  rw [if_neg Bool.false_ne_true]
  refine zk (nT (zs ?_))
  obtain ⟨p,g,h⟩:=bindS h
  obtain ⟨n,o⟩:=apI g
  refine zB ?_ { tk:=[7] }
  refine nT (zr ?_)
  cases soI h
  exact zq
 ·replace h:=cF a h
  refine zB ?_
  refine nT ?_
  obtain ⟨j,k⟩:=bothI h
  refine AWp.condAny (by cbv;simp only [a]) ?_ ?_
  ·replace h:=j
   refine zs ?_
   refine zB ?_
   refine nT (zr (rT ?_))
   cases soI h
   exact zq
  ·replace h:=k
   refine zk (nT (zs ?_))
   obtain ⟨q,i,h⟩:=bindS h
   obtain ⟨l,m⟩:=apI i
   refine zB ?_ { tk:=[7] }
   refine nT (zr ?_)
   cases soI h
   exact zq

theorem Z39w {A:Ar} (hA:SA A) {c e:List D} (h:Z39 A c=some e):ACall Tryz.prog 39 [zl 1 c] [] (.own 1 e) []:=by
 unfold Z39 at h
 refine zI Tryz.func39 ?_
 refine zs ?_
 refine zA ?_
 refine nT (zs (zs ?_))
 rcases tf (A.zlt 0 (A.len c)) with a | a
 ·replace h:=cT a h
  refine zB ?_
  refine nT ?_
  refine AWp.cond (b:=false) (by cbv;simp only [a]) ?_
  rw [if_neg Bool.false_ne_true]
  refine zk (nT (zs ?_))
  obtain ⟨p,g,h⟩:=bindS h
  obtain ⟨n,o⟩:=apI g
  refine zB ?_ { tk:=[7] }
  refine nT (zr ?_)
  cases soI h
  exact zq
 ·replace h:=cF a h
  refine zB ?_
  refine nT ?_
  obtain ⟨j,k⟩:=bothI h
  refine AWp.condAny (by cbv;simp only [a]) ?_ ?_
  ·replace h:=j
   refine zs ?_
   refine zB ?_
   refine nT (zr (rT ?_))
   cases soI h
   exact zq
  ·replace h:=k
   refine zk (nT (zs ?_))
   obtain ⟨q,i,h⟩:=bindS h
   obtain ⟨l,m⟩:=apI i
   refine zB ?_ { tk:=[7] }
   refine nT (zr ?_)
   cases soI h
   exact zq

theorem Z83w {A:Ar} (hA:SA A) {C Q:List D} {V W X Y x7 x8 x9 E F G J K L M N O P R:Int} {S U a b:List D} {c e g i j k l m n o p q r s u v w y:Int} {z B:List D} (h:Z83 A C Q V W X Y x7 x8 x9 E F G J K L M N O P R S U=some (a,b,c,e,g,i,j,k,l,m,n,o,p,q,r,s,u,v,w,y,z,B)):ACall Tryz.prog 83 [.d (.agg [.list 1 C,.list 1 Q,.int .i64 V,.int .i64 W,.int .i64 X,.int .i64 Y,.int .i64 x7,.int .i64 x8,.int .i64 x9,.int .i64 E,.int .i64 F,.int .i64 G,.int .i64 J,.int .i64 K,.int .i64 L,.int .i64 M,.int .i64 N,.int .i64 O,.int .i64 P,.int .i64 R,.list 6 S,.list 1 U])] [] (.agg [zl 1 a,zl 1 b,zi c,zi e,zi g,zi i,zi j,zi k,zi l,zi m,zi n,zi o,zi p,zi q,zi r,zi s,zi u,zi v,zi w,zi y,.gref 0 6,.gref 3 1]) [.gro 6 z,.dead,.dead,.gro 1 B,.dead,.dead]:=by
 unfold Z83 at h
 refine zI Tryz.func83 ?_
 refine zs ?_
 refine zA ?_ { esc:=[1,2] }
 refine nT ?_
 refine AWp.weak (Wk.settle 1 20 rfl rfl rfl) ?_
 refine AWp.weak (Wk.settle 1 21 rfl rfl rfl) ?_
 refine zs ?_
 refine AWp.regionDraw rfl (lb rfl) ?_
 obtain ⟨g0,a0,h⟩:=bindS h
 obtain ⟨_,b0,h⟩:=bindS h
 refine DOps.c0 hT hA { tk:=[5,8] } rfl zc (ACall.fresh (Z117w hA a0) (ckI b0)) rfl rfl (lb rfl) rfl rfl ?_
 obtain ⟨i0,d0,h⟩:=bindS h
 obtain ⟨_,e0,h⟩:=bindS h
 refine DOps.c0 hT hA { tk:=[5,8] } rfl zc (ACall.fresh (Z39w hA d0) (ckI e0)) rfl rfl (lb rfl) rfl rfl ?_
 refine DOps.cd hT hA { tk:=[5,8] } rfl zc (by kernel_rfl) ?_
 refine nT ?_
 refine AWp.weak (Wk.settle 0 20 rfl rfl rfl) ?_
 refine AWp.weak (Wk.settle 0 21 rfl rfl rfl) ?_
 refine zs ?_
 refine zA ?_ { tk:=[11] }
 refine nT ?_
 refine AWp.weak (Wk.ren [some 8,some 9,some 10,some 11,some 12,some 13,some 1] [2] rfl rfl) ?_
 refine zr ?_
 cases soI h
 exact zq

theorem Z103aw {A:Ar} (hA:SA A) {e j k l:List D} {m o p q:Int} {r g:List D} {i:Int} {c:Bool} (h:Z103a A e j k l m o p q r g i=some c):ACall Tryz.prog 103 [.d (.ref [.list 1 e,.list 1 j,.list 1 k,.list 8 l,.int .i64 m,.int .i64 o,.int .i64 p,.int .i64 q,.list 6 r,.list 1 g]),zi i] [] (.d (.bool c)) []:=by
 unfold Z103a at h
 refine zI Tryz.func103 ?_
 refine zs ?_
 refine zA ?_
 refine nT (zs ?_)
 obtain ⟨w,a,h⟩:=bindS h
 refine AWp.cutN [4] [] 0 (lb rfl) (fun τ=>τ={ env:=[(4,.d (.bool w))],heap:=[],n:=32 }) ?_ ?_
 ·skip
  obtain ⟨⟨y,z,s,B,C,E,F,G⟩,u,a⟩:=bindS a
  obtain ⟨K,L⟩:=gtI u
  rcases tf s with b | b
  ·replace a:=cT b a
   refine AWp.rd hT hA { tk:=[31] } rfl zu (by kernel_rfl) (lb rfl) ?_
   cases soI a
   exact zO
  ·replace a:=cF b a
   obtain ⟨J,v,a⟩:=bindS a
   obtain ⟨M,N⟩:=gtI v
   refine AWp.rd hT hA { tk:=[31] } rfl zu (by kernel_rfl) (lb rfl) ?_
   cases soI a
   exact zO
 ·rintro _ rfl
  refine nT (zr ?_)
  cases soI h
  exact zq

theorem Z65aw {A:Ar} (hA:SA A) {k c m o:List D} {p q r s:Int} {u l:List D} {j:Bool} (h:Z65a A k c m o p q r s u l=some j):ACall Tryz.prog 65 [.d (.ref [.list 1 k,.list 1 c,.list 1 m,.list 8 o,.int .i64 p,.int .i64 q,.int .i64 r,.int .i64 s,.list 6 u,.list 1 l])] [] (.d (.bool j)) []:=by
 unfold Z65a at h
 refine zI Tryz.func65 ?_
 refine zs ?_
 refine zA ?_
 refine nT (zs (zs ?_))
 refine zA ?_
 refine nT (zb ?_)
 obtain ⟨E,z,w,v,b⟩:=bindK h
 refine AWp.cutX 0 [] [] 0 (lb rfl) (fun τ=>w (.inl ())=some j/\τ={ env:=[],heap:=[],n:=16 }) ?_ ?_
 ·skip
  refine AWp.iter z [0,3] [] 0 (lb rfl) (fun i=>{ env:=[(0,.d (.ref [.list 1 k,.list 1 c,.list 1 m,.list 8 o,.int .i64 p,.int .i64 q,.int .i64 r,.int .i64 s,.list 6 u,.list 1 l])),(3,zi i)],heap:=[],n:=16 }) ⟨rfl,zc⟩ ?_
  rintro i C a
  dsimp only [Z65aL0] at a
  refine zs (zs ?_)
  refine zA ?_
  refine nT ?_
  rcases tf (A.zlt i (A.len c)) with e | e
  ·replace a:=cT e a
   refine zT ?_
   refine zk (nT (zs (zb (zs (zn ?_)))))
   obtain ⟨B,y,a⟩:=bindS a
   refine zD (Z103aw hA y) ?_
   refine zF ?_
   refine nT ?_
   rcases tf B with g | g
   ·replace a:=cT g a
    refine zT ?_
    refine zs ?_
    refine zB ?_
    refine nT (zr (rB (rT (rT ?_))))
    refine exL a fun hx => ?_
    subst hx
    refine oxR ?_
    replace b:=(eR (v _ b))
    refine rB (rT ?_)
    cases soI b
    exact zq
   ·replace a:=cF g a
    refine zU ?_
    refine zk (nB (nT ?_))
    refine zB ?_
    exact nT ⟨_,(soI a).symm,rfl,zv⟩
  ·replace a:=cF e a
   refine zU ?_
   refine AWp.exit (xT (xT ?_))
   refine exL a fun hx => ?_
   subst hx
   exact oxI ⟨rfl,b,zv⟩
 ·rintro _ ⟨b,rfl⟩
  have h:=(eL (v _ b))
  refine xB (nT (zs ?_))
  refine zA ?_
  refine nT (zr ?_)
  cases soI h
  exact zq

theorem Z148w {A:Ar} (hA:SA A) {n p q r:List D} {s u v w:Int} {y o a b c:List D} {e g i j:Int} {k l m:List D} (h:Z148 A n p q r s u v w y o=some (a,b,c,e,g,i,j,k,l,m)):ACall Tryz.prog 148 [.d (.ref [.list 1 n,.list 1 p,.list 1 q,.list 8 r,.int .i64 s,.int .i64 u,.int .i64 v,.int .i64 w,.list 6 y,.list 1 o])] [] (.ptr 0 0) [.cells [zl 1 a,zl 1 b,zl 1 c,.gref 1 8,zi e,zi g,zi i,zi j,.gref 4 6,.gref 7 1],.gro 8 k,.dead,.dead,.gro 6 l,.dead,.dead,.gro 1 m,.dead,.dead]:=by
 unfold Z148 at h
 refine zI Tryz.func148 ?_
 refine zs ?_
 refine zA ?_
 refine nT (zs ?_)
 refine zA ?_ { tk:=[6],esc:=[3] }
 refine nT (zs ?_)
 obtain ⟨M,z,h⟩:=bindS h
 obtain ⟨E,F⟩:=apI z
 refine zB ?_ { gr:=[12] }
 refine nT ?_
 refine AWp.weak (Wk.settle 0 3 rfl rfl rfl) ?_
 refine zs ?_
 obtain ⟨N,B,h⟩:=bindS h
 obtain ⟨G,J⟩:=apI B
 refine zB ?_ { tk:=[19],gr:=[19] }
 refine nT ?_
 refine AWp.weak (Wk.settle 0 8 rfl rfl rfl) ?_
 refine zs ?_
 obtain ⟨O,C,h⟩:=bindS h
 obtain ⟨K,L⟩:=apI C
 refine zB ?_ { tk:=[26],gr:=[26] }
 refine nT ?_
 refine AWp.weak (Wk.settle 0 9 rfl rfl rfl) ?_
 refine zs ?_
 refine zA ?_ { tk:=[3] }
 refine nT (zr ?_)
 cases soI h
 exact zq

theorem Z104aw {A:Ar} (hA:SA A) {m:Int} {r s o:List D} {c z B C:Int} {x9 q0 r0 d0 e0 g0:List D} {i0 j0 k0 l0:Int} {m0 n0 o0:List D} (h:Z104a A m r s o c z B C x9 q0 r0=some (d0,e0,g0,i0,j0,k0,l0,m0,n0,o0)):ACall Tryz.prog 104 [.ptr 1 0,zi m] [.dead,.cells [zl 1 r,zl 1 s,zl 1 o,.gref 2 8,zi c,zi z,zi B,zi C,.gref 5 6,.gref 8 1],.gro 8 x9,.dead,.dead,.gro 6 q0,.dead,.dead,.gro 1 r0,.dead,.dead] (.tuple []) [.dead,.cells [zl 1 d0,zl 1 e0,zl 1 g0,.gref 11 8,zi i0,zi j0,zi k0,zi l0,.gref 14 6,.gref 17 1],.dead,.dead,.dead,.dead,.dead,.dead,.dead,.dead,.dead,.gro 8 m0,.dead,.dead,.gro 6 n0,.dead,.dead,.gro 1 o0,.dead,.dead]:=by
 unfold Z104a at h
 refine zI Tryz.func104 ?_
 refine zs ?_
 obtain ⟨_,l1,h⟩:=bindS h
 have f14:=ckI l1
 obtain ⟨_,n1,h⟩:=bindS h
 have f15:=ckI n1
 refine zB ?_
 refine nT (zs ?_)
 refine zA ?_ { tk:=[20] }
 refine nT (zs ?_)
 refine zA ?_
 refine nT (zs (zs ?_))
 obtain ⟨⟨q6,s6,v0,d7,i7,q7,s7,u7⟩,z2,h⟩:=bindS h
 have f25:=gcI z2
 refine zB ?_
 refine nT ?_
 obtain ⟨⟨p0,b0,u⟩,l,h⟩:=bindS h
 refine AWp.cutW (fun τ=>τ={ env:=[(0,.ptr 1 0),(4,(.eptr 11 8 m 0)),(5,zi c)],heap:=[.dead,(.cells [zl 1 r,zl 1 s,zl 1 o,.gref 11 8,(.d (.int .i64 (A.wrp .i64 (A.zadd c 1)))),zi z,zi B,zi C,.gref 14 6,.gref 17 1]),.dead,.dead,.dead,.dead,.dead,.dead,.dead,.dead,.dead,.gro 8 p0,.dead,.dead,.gro 6 b0,.dead,.dead,.gro 1 u,.dead,.dead],n:=285 }) ?_ ?_
 ·skip
  rcases tf v0 with Q | Q
  ·replace l:=cT Q l
   refine zU ?_
   refine zk ?_
   cases soI l
   exact oWi ⟨_,zR [some 0,some 1,none,none,none,none,none,none,none,none,none,some 2,some 3,some 4,some 5,some 6,some 7,some 8,some 9,some 10] [0,4,5],rfl⟩
  ·replace l:=cF Q l
   refine zT ?_
   refine zs ?_
   refine AWp.rd hT hA { tk:=[45] } rfl zu (by kernel_rfl) (lb rfl) ?_
   refine nT (zs ?_)
   obtain ⟨v8,l3,l⟩:=bindS l
   obtain ⟨f29,f30⟩:=gtI l3
   obtain ⟨⟨e9,i9,q9,u9,v9,w9,y9,z9⟩,s3,l⟩:=bindS l
   have f40:=gcI s3
   obtain ⟨a41,u3,l⟩:=bindS l
   obtain ⟨f43,f44⟩:=gtI u3
   obtain ⟨l45,v3,l⟩:=bindS l
   obtain ⟨f47,f48⟩:=apI v3
   refine AWp.rd hT hA { tk:=[51,72] } rfl zu (by kernel_rfl) (lb rfl) ?_
   refine nT ?_
   refine AWp.weak (Wk.settle 1 8 rfl rfl rfl) ?_
   obtain ⟨l49,w3,l⟩:=bindS l
   obtain ⟨f51,f52⟩:=apI w3
   refine zB ?_ { tk:=[79,81] }
   cases soI l
   exact oWi ⟨_,(Wk.trans (Wk.settle 1 9 rfl rfl rfl) (zR [some 0,some 1,none,none,none,some 5,some 6,some 7,some 8,some 9,some 10,some 2,some 3,some 4,some 11,some 12,some 13,some 14,some 15,some 16] [0,4,5])),rfl⟩
 ·rintro _ rfl
  refine nT (zs ?_)
  obtain ⟨⟨y0,v,z0,a1,b1,c1,d1,e1⟩,y3,h⟩:=bindS h
  have f66:=gcI y3
  obtain ⟨_,z3,h⟩:=bindS h
  have f69:=ckI z3
  obtain ⟨_,a4,h⟩:=bindS h
  have f70:=ckI a4
  obtain ⟨⟨a71,a72,w,a74,a75,a76⟩,b4,h⟩:=bindS h
  have f78:=gcI b4
  refine AWp.rd hT hA {} rfl zu (by kernel_rfl) (lb rfl) ?_
  refine nT (zs ?_)
  refine zB ?_
  refine nT (zs ?_)
  obtain ⟨a79,c4,h⟩:=bindS h
  obtain ⟨f81,f82⟩:=gtI c4
  obtain ⟨⟨E,a84,a85,a86⟩,d4,h⟩:=bindS h
  obtain ⟨f88,f89⟩:=gtI d4
  refine zB ?_ { tk:=[108] }
  refine nT (zs ?_)
  refine zB ?_
  refine nT (zs ?_)
  refine zA ?_
  refine nT (zs (zs ?_))
  refine zA ?_
  refine nT (zb (zs ?_))
  refine zA ?_
  refine nT ?_
  obtain ⟨⟨V,W,X,Y,a0⟩,i,h⟩:=bindS h
  refine AWp.cutW (fun τ=>τ={ env:=[(0,.ptr 1 0),(4,(.eptr 11 8 m 0)),(5,zi c),(6,zi w),(7,zi v)],heap:=[.dead,(.cells [zl 1 r,zl 1 s,zl 1 o,.gref 11 8,(.d (.int .i64 (A.wrp .i64 (A.zadd c 1)))),zi V,zi W,zi X,.gref 14 6,.gref 17 1]),.dead,.dead,.dead,.dead,.dead,.dead,.dead,.dead,.dead,.gro 8 Y,.dead,.dead,.gro 6 a0,.dead,.dead,.gro 1 u,.dead,.dead],n:=285 }) ?_ ?_
  ·skip
   rcases tf (A.zeq E 1) with U | U
   ·replace i:=cT U i
    refine zT ?_
    obtain ⟨_,e4,i⟩:=bindS i
    have f93:=ckI e4
    obtain ⟨_,g4,i⟩:=bindS i
    have f94:=ckI g4
    obtain ⟨a95,i4,i⟩:=bindS i
    have f97:=gcI i4
    obtain ⟨_,j4,i⟩:=bindS i
    have f100:=ckI j4
    obtain ⟨_,k4,i⟩:=bindS i
    have f101:=ckI k4
    obtain ⟨⟨n5,o5,p5,q5,r5,s5,u5,v5⟩,g1,i⟩:=bindS i
    have f111:=gcI g1
    refine AWp.rd hT hA { tk:=[130],vx:=[129,132] } rfl zu (by kernel_rfl) (lb rfl) ?_
    cases soI i
    exact oWi ⟨_,zR [some 0,some 1,some 2,some 3,some 4,some 5,some 6,some 7,some 8,some 9,some 10,some 11,some 12,some 13,some 14,some 15,some 16,some 17,some 18,some 19] [0,4,5,6,7],rfl⟩
   ·replace i:=cF U i
    refine zU ?_
    refine zs ?_
    refine zB ?_
    refine nT ?_
    obtain ⟨⟨g5,i5,j5,k5,l5⟩,g,i⟩:=bindS i
    refine AWp.cutW (fun τ=>τ={ env:=[(0,.ptr 1 0),(4,(.eptr 11 8 m 0)),(5,zi c),(6,zi w),(7,zi v)],heap:=[.dead,(.cells [zl 1 r,zl 1 s,zl 1 o,.gref 11 8,(.d (.int .i64 (A.wrp .i64 (A.zadd c 1)))),zi g5,zi i5,zi j5,.gref 14 6,.gref 17 1]),.dead,.dead,.dead,.dead,.dead,.dead,.dead,.dead,.dead,.gro 8 k5,.dead,.dead,.gro 6 l5,.dead,.dead,.gro 1 u,.dead,.dead],n:=285 }) ?_ ?_
    ·skip
     rcases tf (A.zeq E 2) with G | G
     ·replace g:=cT G g
      refine zT ?_
      obtain ⟨_,i1,g⟩:=bindS g
      have f115:=ckI i1
      obtain ⟨_,j1,g⟩:=bindS g
      have f116:=ckI j1
      obtain ⟨⟨y5,z5,a6,b6,c6,d6,e6,g6⟩,m1,g⟩:=bindS g
      have f129:=gcI m1
      obtain ⟨w5,k1,g⟩:=bindS g
      have f119:=gcI k1
      obtain ⟨_,o1,g⟩:=bindS g
      have f132:=ckI o1
      obtain ⟨_,p1,g⟩:=bindS g
      have f133:=ckI p1
      refine AWp.rd hT hA { tk:=[143],vx:=[142,146] } rfl zu (by kernel_rfl) (lb rfl) ?_
      cases soI g
      exact oWi ⟨_,zR [some 0,some 1,some 2,some 3,some 4,some 5,some 6,some 7,some 8,some 9,some 10,some 11,some 12,some 13,some 14,some 15,some 16,some 17,some 18,some 19] [0,4,5,6,7],rfl⟩
     ·replace g:=cF G g
      refine zU ?_
      refine zs ?_
      refine zB ?_
      refine nT ?_
      obtain ⟨⟨a5,b5,c5,d5,e5⟩,e,g⟩:=bindS g
      refine AWp.cutW (fun τ=>τ={ env:=[(0,.ptr 1 0),(4,(.eptr 11 8 m 0)),(5,zi c),(6,zi w),(7,zi v)],heap:=[.dead,(.cells [zl 1 r,zl 1 s,zl 1 o,.gref 11 8,(.d (.int .i64 (A.wrp .i64 (A.zadd c 1)))),zi a5,zi b5,zi c5,.gref 14 6,.gref 17 1]),.dead,.dead,.dead,.dead,.dead,.dead,.dead,.dead,.dead,.gro 8 d5,.dead,.dead,.gro 6 e5,.dead,.dead,.gro 1 u,.dead,.dead],n:=285 }) ?_ ?_
      ·skip
       rcases tf (A.zeq E 3) with J | J
       ·replace e:=cT J e
        refine zT ?_
        refine zs ?_
        refine zB ?_
        refine nT (zs (zs ?_))
        obtain ⟨_,q1,e⟩:=bindS e
        have f137:=ckI q1
        obtain ⟨_,r1,e⟩:=bindS e
        have f138:=ckI r1
        obtain ⟨s0,s1,e⟩:=bindS e
        have f141:=gcI s1
        obtain ⟨_,u1,e⟩:=bindS e
        have f144:=ckI u1
        obtain ⟨_,v1,e⟩:=bindS e
        have f145:=ckI v1
        obtain ⟨⟨i6,j6,k6,l6,m6,n6,o6,p6⟩,y1,e⟩:=bindS e
        have f158:=gcI y1
        obtain ⟨u0,w1,e⟩:=bindS e
        have f148:=gcI w1
        refine AWp.rd hT hA { vx:=[154,160] } rfl zu (by kernel_rfl) (lb rfl) ?_
        refine nT ?_
        obtain ⟨⟨l4,m4,n4,o4⟩,k,e⟩:=bindS e
        refine AWp.cutW (fun τ=>τ={ env:=[(0,.ptr 1 0),(4,(.eptr 11 8 m 0)),(5,zi c),(6,zi w),(7,zi v),(9,(.eptr 11 8 m 4)),(10,zi l4)],heap:=[.dead,(.cells [zl 1 r,zl 1 s,zl 1 o,.gref 11 8,(.d (.int .i64 (A.wrp .i64 (A.zadd c 1)))),zi m4,zi n4,zi o4,.gref 14 6,.gref 17 1]),.dead,.dead,.dead,.dead,.dead,.dead,.dead,.dead,.dead,(.gro 8 (A.lset p0 (A.nat m) (.agg [.int .i64 y0,(.int .i64 (A.wrp .i64 (A.zadd v 1))),.bool z0,.int .i64 a1,.int .i64 b1,.int .i64 c1,.int .i64 d1,.int .i64 e1]))),.dead,.dead,.gro 6 b0,.dead,.dead,.gro 1 u,.dead,.dead],n:=285 }) ?_ ?_
        ·skip
         rcases tf (A.zeq s0 u0) with K | K
         ·replace k:=cT K k
          refine zT ?_
          refine zs ?_
          obtain ⟨_,z1,k⟩:=bindS k
          have f162:=ckI z1
          obtain ⟨_,a2,k⟩:=bindS k
          have f163:=ckI a2
          obtain ⟨r6,b2,k⟩:=bindS k
          have f166:=gcI b2
          obtain ⟨_,c2,k⟩:=bindS k
          have f169:=ckI c2
          obtain ⟨_,d2,k⟩:=bindS k
          have f170:=ckI d2
          refine AWp.rd hT hA { tk:=[171],vx:=[170,174] } rfl zu (by kernel_rfl) (lb rfl) ?_
          refine nT ?_
          refine zB ?_
          cases soI k
          exact oWi ⟨_,zR [some 0,some 1,some 2,some 3,some 4,some 5,some 6,some 7,some 8,some 9,some 10,some 11,some 12,some 13,some 14,some 15,some 16,some 17,some 18,some 19] [0,4,5,6,7,9,10],rfl⟩
         ·replace k:=cF K k
          refine zU ?_
          refine zk ?_
          cases soI k
          exact oWi ⟨_,zR [some 0,some 1,some 2,some 3,some 4,some 5,some 6,some 7,some 8,some 9,some 10,some 11,some 12,some 13,some 14,some 15,some 16,some 17,some 18,some 19] [0,4,5,6,7,9,10],rfl⟩
        ·rintro _ rfl
         refine nT ?_
         refine zB ?_ { tk:=[10,176] }
         cases soI e
         exact oWi ⟨_,zR [some 0,some 1,some 2,some 3,some 4,some 5,some 6,some 7,some 8,some 9,some 10,some 11,some 12,some 13,some 14,some 15,some 16,some 17,some 18,some 19] [0,4,5,6,7],rfl⟩
       ·replace e:=cF J e
        refine zU ?_
        refine zs ?_
        refine zB ?_
        refine nT ?_
        obtain ⟨⟨y4,z4⟩,p,e⟩:=bindS e
        refine AWp.cutW (fun τ=>τ={ env:=[(0,.ptr 1 0),(4,(.eptr 11 8 m 0)),(5,zi c),(6,zi w),(7,zi v)],heap:=[.dead,(.cells [zl 1 r,zl 1 s,zl 1 o,.gref 11 8,(.d (.int .i64 (A.wrp .i64 (A.zadd c 1)))),zi z,zi B,zi C,.gref 14 6,.gref 17 1]),.dead,.dead,.dead,.dead,.dead,.dead,.dead,.dead,.dead,.gro 8 y4,.dead,.dead,.gro 6 z4,.dead,.dead,.gro 1 u,.dead,.dead],n:=285 }) ?_ ?_
        ·skip
         rcases tf (A.zeq E 4) with L | L
         ·replace p:=cT L p
          refine zT ?_
          obtain ⟨_,e2,p⟩:=bindS p
          have f179:=ckI e2
          obtain ⟨_,g2,p⟩:=bindS p
          have f180:=ckI g2
          obtain ⟨⟨u6,v6,w6,y6,z6,a7,b7,c7⟩,i2,p⟩:=bindS p
          have f190:=gcI i2
          refine AWp.rd hT hA { tk:=[185],vx:=[187] } rfl zu (by kernel_rfl) (lb rfl) ?_
          cases soI p
          exact oWi ⟨_,zR [some 0,some 1,some 2,some 3,some 4,some 5,some 6,some 7,some 8,some 9,some 10,some 11,some 12,some 13,some 14,some 15,some 16,some 17,some 18,some 19] [0,4,5,6,7],rfl⟩
         ·replace p:=cF L p
          refine zU ?_
          refine zs ?_
          refine zB ?_
          refine nT ?_
          obtain ⟨⟨v4,w4⟩,a,p⟩:=bindS p
          refine AWp.cutW (fun τ=>τ={ env:=[(0,.ptr 1 0),(4,(.eptr 11 8 m 0)),(5,zi c),(6,zi w),(7,zi v)],heap:=[.dead,(.cells [zl 1 r,zl 1 s,zl 1 o,.gref 11 8,(.d (.int .i64 (A.wrp .i64 (A.zadd c 1)))),zi z,zi B,zi C,.gref 14 6,.gref 17 1]),.dead,.dead,.dead,.dead,.dead,.dead,.dead,.dead,.dead,.gro 8 v4,.dead,.dead,.gro 6 w4,.dead,.dead,.gro 1 u,.dead,.dead],n:=285 }) ?_ ?_
          ·skip
           rcases tf (A.zeq E 5) with M | M
           ·replace a:=cT M a
            refine zT ?_
            obtain ⟨_,j2,a⟩:=bindS a
            have f194:=ckI j2
            obtain ⟨_,k2,a⟩:=bindS a
            have f195:=ckI k2
            obtain ⟨⟨g7,j7,k7,l7,m7,n7,o7,p7⟩,m2,a⟩:=bindS a
            have f208:=gcI m2
            obtain ⟨e7,l2,a⟩:=bindS a
            have f198:=gcI l2
            obtain ⟨_,n2,a⟩:=bindS a
            have f211:=ckI n2
            obtain ⟨_,o2,a⟩:=bindS a
            have f212:=ckI o2
            obtain ⟨r7,p2,a⟩:=bindS a
            have f215:=gcI p2
            obtain ⟨_,q2,a⟩:=bindS a
            have f217:=nkI q2
            obtain ⟨_,r2,a⟩:=bindS a
            have f220:=ckI r2
            obtain ⟨_,s2,a⟩:=bindS a
            have f221:=ckI s2
            refine AWp.rd hT hA { tk:=[206],vx:=[197,203,208] } rfl zu (by kernel_rfl) (lb rfl) ?_
            cases soI a
            exact oWi ⟨_,zR [some 0,some 1,some 2,some 3,some 4,some 5,some 6,some 7,some 8,some 9,some 10,some 11,some 12,some 13,some 14,some 15,some 16,some 17,some 18,some 19] [0,4,5,6,7],rfl⟩
           ·replace a:=cF M a
            refine zU ?_
            refine zs ?_
            refine zB ?_
            refine nT ?_
            obtain ⟨⟨s4,u4⟩,j,a⟩:=bindS a
            refine AWp.cutW (fun τ=>τ={ env:=[(0,.ptr 1 0),(4,(.eptr 11 8 m 0)),(5,zi c),(6,zi w),(7,zi v)],heap:=[.dead,(.cells [zl 1 r,zl 1 s,zl 1 o,.gref 11 8,(.d (.int .i64 (A.wrp .i64 (A.zadd c 1)))),zi z,zi B,zi C,.gref 14 6,.gref 17 1]),.dead,.dead,.dead,.dead,.dead,.dead,.dead,.dead,.dead,.gro 8 s4,.dead,.dead,.gro 6 u4,.dead,.dead,.gro 1 u,.dead,.dead],n:=285 }) ?_ ?_
            ·skip
             rcases tf (A.zeq E 6) with N | N
             ·replace j:=cT N j
              refine zT ?_
              refine zs ?_
              obtain ⟨_,u2,j⟩:=bindS j
              have f225:=ckI u2
              obtain ⟨_,v2,j⟩:=bindS j
              have f226:=ckI v2
              obtain ⟨⟨v7,w7,y7,z7,a8,b8,c8,d8⟩,y2,j⟩:=bindS j
              have f239:=gcI y2
              obtain ⟨w0,w2,j⟩:=bindS j
              have f229:=gcI w2
              refine AWp.rd hT hA { vx:=[215] } rfl zu (by kernel_rfl) (lb rfl) ?_
              refine nT ?_
              obtain ⟨p4,F,j⟩:=bindS j
              refine AWp.cutW (fun τ=>τ={ env:=[(0,.ptr 1 0),(4,(.eptr 11 8 m 0)),(5,zi c),(6,zi w),(7,zi v)],heap:=[.dead,(.cells [zl 1 r,zl 1 s,zl 1 o,.gref 11 8,(.d (.int .i64 (A.wrp .i64 (A.zadd c 1)))),zi z,zi B,zi C,.gref 14 6,.gref 17 1]),.dead,.dead,.dead,.dead,.dead,.dead,.dead,.dead,.dead,.gro 8 p4,.dead,.dead,.gro 6 b0,.dead,.dead,.gro 1 u,.dead,.dead],n:=285 }) ?_ ?_
              ·skip
               rcases tf (A.zeq w0 0) with O | O
               ·replace F:=cT O F
                refine zT ?_
                refine zB ?_
                cases soI F
                exact oWi ⟨_,zR [some 0,some 1,some 2,some 3,some 4,some 5,some 6,some 7,some 8,some 9,some 10,some 11,some 12,some 13,some 14,some 15,some 16,some 17,some 18,some 19] [0,4,5,6,7],rfl⟩
               ·replace F:=cF O F
                refine zU ?_
                refine zk ?_
                cases soI F
                exact oWi ⟨_,zR [some 0,some 1,some 2,some 3,some 4,some 5,some 6,some 7,some 8,some 9,some 10,some 11,some 12,some 13,some 14,some 15,some 16,some 17,some 18,some 19] [0,4,5,6,7],rfl⟩
              ·rintro _ rfl
               cases soI j
               exact oWi ⟨_,zR [some 0,some 1,some 2,some 3,some 4,some 5,some 6,some 7,some 8,some 9,some 10,some 11,some 12,some 13,some 14,some 15,some 16,some 17,some 18,some 19] [0,4,5,6,7],rfl⟩
             ·replace j:=cF N j
              refine zU ?_
              refine zs ?_
              refine zB ?_
              refine nT ?_
              obtain ⟨⟨q4,r4⟩,b,j⟩:=bindS j
              refine AWp.cutW (fun τ=>τ={ env:=[(0,.ptr 1 0),(4,(.eptr 11 8 m 0)),(5,zi c),(6,zi w),(7,zi v)],heap:=[.dead,(.cells [zl 1 r,zl 1 s,zl 1 o,.gref 11 8,(.d (.int .i64 (A.wrp .i64 (A.zadd c 1)))),zi z,zi B,zi C,.gref 14 6,.gref 17 1]),.dead,.dead,.dead,.dead,.dead,.dead,.dead,.dead,.dead,.gro 8 q4,.dead,.dead,.gro 6 r4,.dead,.dead,.gro 1 u,.dead,.dead],n:=285 }) ?_ ?_
              ·skip
               rcases tf (A.zeq E 7) with P | P
               ·replace b:=cT P b
                refine zT ?_
                refine zs ?_
                obtain ⟨⟨e8,g8,i8,j8,k8,l8,m8,n8⟩,a3,b⟩:=bindS b
                have f253:=gcI a3
                obtain ⟨_,b3,b⟩:=bindS b
                have f256:=ckI b3
                obtain ⟨_,c3,b⟩:=bindS b
                have f257:=ckI c3
                obtain ⟨⟨o8,p8,q8,r8,s8,u8⟩,d3,b⟩:=bindS b
                have f265:=gcI d3
                refine AWp.rd hT hA {} rfl zu (by kernel_rfl) (lb rfl) ?_
                refine nT (zs ?_)
                obtain ⟨_,e3,b⟩:=bindS b
                have f268:=ckI e3
                obtain ⟨_,g3,b⟩:=bindS b
                have f269:=ckI g3
                obtain ⟨w8,i3,b⟩:=bindS b
                have f272:=gcI i3
                obtain ⟨_,j3,b⟩:=bindS b
                have f275:=ckI j3
                obtain ⟨_,k3,b⟩:=bindS b
                have f276:=ckI k3
                obtain ⟨⟨y8,z8,a9,b9,c9,d9⟩,m3,b⟩:=bindS b
                have f284:=gcI m3
                refine AWp.rd hT hA { vx:=[250] } rfl zu (by kernel_rfl) (lb rfl) ?_
                refine nT ?_
                refine zB ?_
                cases soI b
                exact oWi ⟨_,zR [some 0,some 1,some 2,some 3,some 4,some 5,some 6,some 7,some 8,some 9,some 10,some 11,some 12,some 13,some 14,some 15,some 16,some 17,some 18,some 19] [0,4,5,6,7],rfl⟩
               ·replace b:=cF P b
                refine zU ?_
                refine zk ?_
                cases soI b
                exact oWi ⟨_,zR [some 0,some 1,some 2,some 3,some 4,some 5,some 6,some 7,some 8,some 9,some 10,some 11,some 12,some 13,some 14,some 15,some 16,some 17,some 18,some 19] [0,4,5,6,7],rfl⟩
              ·rintro _ rfl
               cases soI j
               exact oWi ⟨_,zR [some 0,some 1,some 2,some 3,some 4,some 5,some 6,some 7,some 8,some 9,some 10,some 11,some 12,some 13,some 14,some 15,some 16,some 17,some 18,some 19] [0,4,5,6,7],rfl⟩
            ·rintro _ rfl
             cases soI a
             exact oWi ⟨_,zR [some 0,some 1,some 2,some 3,some 4,some 5,some 6,some 7,some 8,some 9,some 10,some 11,some 12,some 13,some 14,some 15,some 16,some 17,some 18,some 19] [0,4,5,6,7],rfl⟩
          ·rintro _ rfl
           cases soI p
           exact oWi ⟨_,zR [some 0,some 1,some 2,some 3,some 4,some 5,some 6,some 7,some 8,some 9,some 10,some 11,some 12,some 13,some 14,some 15,some 16,some 17,some 18,some 19] [0,4,5,6,7],rfl⟩
        ·rintro _ rfl
         cases soI e
         exact oWi ⟨_,zR [some 0,some 1,some 2,some 3,some 4,some 5,some 6,some 7,some 8,some 9,some 10,some 11,some 12,some 13,some 14,some 15,some 16,some 17,some 18,some 19] [0,4,5,6,7],rfl⟩
      ·rintro _ rfl
       cases soI g
       exact oWi ⟨_,zR [some 0,some 1,some 2,some 3,some 4,some 5,some 6,some 7,some 8,some 9,some 10,some 11,some 12,some 13,some 14,some 15,some 16,some 17,some 18,some 19] [0,4,5,6,7],rfl⟩
    ·rintro _ rfl
     cases soI i
     exact oWi ⟨_,zR [some 0,some 1,some 2,some 3,some 4,some 5,some 6,some 7,some 8,some 9,some 10,some 11,some 12,some 13,some 14,some 15,some 16,some 17,some 18,some 19] [0,4,5,6,7],rfl⟩
  ·rintro _ rfl
   refine nB (nT (zs ?_))
   obtain ⟨c0,y,h⟩:=bindS h
   refine AWp.cutW (fun τ=>τ={ env:=[(0,.ptr 1 0),(4,(.eptr 11 8 m 0)),(5,zi c),(274,.d (.bool c0))],heap:=[.dead,(.cells [zl 1 r,zl 1 s,zl 1 o,.gref 11 8,(.d (.int .i64 (A.wrp .i64 (A.zadd c 1)))),zi V,zi W,zi X,.gref 14 6,.gref 17 1]),.dead,.dead,.dead,.dead,.dead,.dead,.dead,.dead,.dead,.gro 8 Y,.dead,.dead,.gro 6 a0,.dead,.dead,.gro 1 u,.dead,.dead],n:=285 }) ?_ ?_
   ·skip
    rcases tf (A.zlt w (A.len o)) with R | R
    ·replace y:=cT R y
     obtain ⟨g9,n3,y⟩:=bindS y
     obtain ⟨f318,f319⟩:=gtI n3
     refine zB ?_
     cases soI y
     exact oWi ⟨_,zR [some 0,some 1,some 2,some 3,some 4,some 5,some 6,some 7,some 8,some 9,some 10,some 11,some 12,some 13,some 14,some 15,some 16,some 17,some 18,some 19] [0,4,5,274],rfl⟩
    ·replace y:=cF R y
     refine zB ?_
     cases soI y
     exact oWi ⟨_,zR [some 0,some 1,some 2,some 3,some 4,some 5,some 6,some 7,some 8,some 9,some 10,some 11,some 12,some 13,some 14,some 15,some 16,some 17,some 18,some 19] [0,4,5,274],rfl⟩
   ·rintro _ rfl
    refine nT ?_
    obtain ⟨m5,q,h⟩:=bindS h
    refine AWp.cutW (fun τ=>τ={ env:=[],heap:=[.dead,(.cells [zl 1 r,zl 1 s,zl 1 o,.gref 11 8,(.d (.int .i64 (A.wrp .i64 (A.zadd c 1)))),zi V,zi W,zi X,.gref 14 6,.gref 17 1]),.dead,.dead,.dead,.dead,.dead,.dead,.dead,.dead,.dead,.gro 8 Y,.dead,.dead,.gro 6 a0,.dead,.dead,.gro 1 m5,.dead,.dead],n:=285 }) ?_ ?_
    ·skip
     rcases tf c0 with S | S
     ·replace q:=cT S q
      refine zT ?_
      obtain ⟨⟨j9,k9,l9,m9,n9,o9,p9,r9⟩,o3,q⟩:=bindS q
      have f332:=gcI o3
      obtain ⟨_,p3,q⟩:=bindS q
      have f335:=ckI p3
      obtain ⟨_,q3,q⟩:=bindS q
      have f336:=ckI q3
      obtain ⟨s9,r3,q⟩:=bindS q
      have f339:=gcI r3
      refine AWp.rd hT hA { tk:=[5,283] } rfl zu (by kernel_rfl) (lb rfl) ?_
      cases soI q
      exact oWi ⟨_,zR [some 0,some 1,some 2,some 3,some 4,some 5,some 6,some 7,some 8,some 9,some 10,some 11,some 12,some 13,some 14,some 15,some 16,some 17,some 18,some 19] [],rfl⟩
     ·replace q:=cF S q
      refine zU ?_
      refine zk ?_
      cases soI q
      exact oWi ⟨_,zR [some 0,some 1,some 2,some 3,some 4,some 5,some 6,some 7,some 8,some 9,some 10,some 11,some 12,some 13,some 14,some 15,some 16,some 17,some 18,some 19] [],rfl⟩
    ·rintro _ rfl
     cases soI h
     exact zq

theorem Z102Bw {A:Ar} (hA:SA A) {self177:List D->List D->List D->List D->Int->Int->Int->Int->List D->List D->List D->Int->List D->Option (List D)} (X : ∀ {i e l m:List D} {o p q r:Int} {s j k:List D} {c:Int} {u K:List D},self177 i e l m o p q r s j k c u=some K->ACallO Tryz.prog 102 [.d (.ref [.list 1 i,.list 1 e,.list 1 l,.list 8 m,.int .i64 o,.int .i64 p,.int .i64 q,.int .i64 r,.list 6 s,.list 1 j]),zl 1 k,zi c,(.own 2 u)] [.dead] (.own 2 K) [.dead]) {i e l m:List D} {o p q r:Int} {s j k:List D} {c:Int} {u F:List D} (h:Z102B A self177 i e l m o p q r s j k c u=some F):ACallO Tryz.prog 102 [.d (.ref [.list 1 i,.list 1 e,.list 1 l,.list 8 m,.int .i64 o,.int .i64 p,.int .i64 q,.int .i64 r,.list 6 s,.list 1 j]),zl 1 k,zi c,(.own 2 u)] [.dead] (.own 2 F) [.dead]:=by
 unfold Z102B at h
 refine ACallO.enter hT (fn:=Tryz.f102) (H0:=[]) 3 rfl Tryz.func102 rfl (by decide) (by simp [Tryz.f102]) rfl rfl rfl rfl (lb rfl) ?_
 refine AWpT.of ?_
 refine zs ?_
 refine zA ?_
 refine nT (zs (zs ?_))
 obtain ⟨G,g,h⟩:=bindS h
 refine AWp.cutN [0,1,2,3,16] [] 1 (lb rfl) (fun τ=>τ={ env:=[(0,.d (.ref [.list 1 i,.list 1 e,.list 1 l,.list 8 m,.int .i64 o,.int .i64 p,.int .i64 q,.int .i64 r,.list 6 s,.list 1 j])),(1,zl 1 k),(2,zi c),(3,(.own 2 u)),(16,.d (.bool G))],heap:=[.dead],n:=52 }) ?_ ?_
 ·skip
  refine zn ?_
  rcases tf (A.zeq c 0) with w | w
  ·replace g:=cT w g
   refine zF ?_
   cases soI g
   exact zO
  ·replace g:=cF w g
   obtain ⟨z0,M,g⟩:=bindS g
   refine zD (Z65aw hA M) ?_
   refine zF ?_
   cases soI g
   exact zO
 ·rintro _ rfl
  refine nT ?_
  rcases tf G with y | y
  ·replace h:=cT y h
   refine zT ?_
   refine zs ?_
   obtain ⟨v0,N,h⟩:=bindS h
   obtain ⟨o0,p0⟩:=apI N
   refine zB ?_ { tk:=[3,22] }
   refine nT (zr (rT ?_))
   cases soI h
   exact zq
  ·replace h:=cF y h
   refine zU ?_
   refine zk (nT (zs (zs ?_)))
   refine zB ?_
   refine nT (zb ?_)
   obtain ⟨n1,W,L,V,C⟩:=bindK h
   refine AWp.cutX 0 [3] [] 1 (lb rfl) (fun τ => ∃ E,L E=some F/\τ={ env:=[(3,(.own 2 E))],heap:=[.dead],n:=52 }) ?_ ?_
   ·skip
    refine AWp.iter W [0,1,2,3,9] [] 1 (lb rfl) (fun (J,v)=>{ env:=[(0,.d (.ref [.list 1 i,.list 1 e,.list 1 l,.list 8 m,.int .i64 o,.int .i64 p,.int .i64 q,.int .i64 r,.list 6 s,.list 1 j])),(1,zl 1 k),(2,zi c),(3,(.own 2 J)),(9,zi v)],heap:=[.dead],n:=52 }) ⟨rfl,zv⟩ ?_
    rintro ⟨J,v⟩ n0 b
    dsimp only [Z102L0] at b
    refine zs (zs ?_)
    refine zA ?_
    refine nT ?_
    rcases tf (A.zlt v (A.len e)) with z | z
    ·replace b:=cT z b
     refine zT ?_
     refine zk (nT (zs (zb (zs (zn ?_)))))
     obtain ⟨Y,O,b⟩:=bindS b
     refine zD (Z103aw hA O) ?_
     refine zF ?_
     refine nT ?_
     obtain ⟨m0,a,b⟩:=bindS b
     refine AWp.cutN [0,1,2,3,9] [] 1 (lb rfl) (fun τ=>τ={ env:=[(0,.d (.ref [.list 1 i,.list 1 e,.list 1 l,.list 8 m,.int .i64 o,.int .i64 p,.int .i64 q,.int .i64 r,.list 6 s,.list 1 j])),(1,zl 1 k),(2,zi c),(3,(.own 2 m0)),(9,zi v)],heap:=[.dead],n:=52 }) ?_ ?_
     ·skip
      rcases tf Y with B | B
      ·replace a:=cT B a
       refine zT ?_
       refine zs (zn ?_)
       obtain ⟨⟨a1,b1,c1,d1,e1,g1,i1,j1,k1,l1⟩,P,a⟩:=bindS a
       refine zD (ACall.shift (Z148w hA P) rfl rfl [.dead] rfl rfl rfl rfl) ?_
       refine zF ?_
       refine nT (zs (zn ?_))
       obtain ⟨⟨a0,b0,c0,d0,e0,g0,i0,j0,k0,l0⟩,Q,a⟩:=bindS a
       refine zD (Z104aw hA Q) ?_
       refine zF ?_
       refine nT ?_
       refine AWp.weak (Wk.freezeG 1 3 rfl rfl rfl) ?_
       refine AWp.weak (Wk.freezeG 1 8 rfl rfl rfl) ?_
       refine AWp.weak (Wk.freezeG 1 9 rfl rfl rfl) ?_
       refine AWp.weak (Wk.freezeObj 1 [10,36,37] (ds:=[.list 1 a0,.list 1 b0,.list 1 c0,.list 8 j0,.int .i64 d0,.int .i64 e0,.int .i64 g0,.int .i64 i0,.list 6 k0,.list 1 l0]) rfl rfl) ?_
       refine zn ?_
       obtain ⟨w0,R,a⟩:=bindS a
       obtain ⟨q0,r0⟩:=apI R
       obtain ⟨y0,S,a⟩:=bindS a
       obtain ⟨s0,u0⟩:=apI S
       obtain ⟨m1,U,a⟩:=bindS a
       refine AOps.cO hT hA { tk:=[3,50] } 3 zu (lb rfl) (ACallO.emb (X U) [some 20] [.dead,.dead,.dead,.dead,.dead,.dead,.dead,.dead,.dead,.dead,.dead,.dead,.dead,.dead,.dead,.dead,.dead,.dead,.dead,.dead,.dead] rfl rfl rfl rfl rfl rfl rfl rfl) rfl rfl rfl rfl rfl rfl rfl rfl (lb rfl) rfl rfl ?_
       refine zF ?_ { tk:=[3,50] }
       cases soI a
       exact zO
      ·replace a:=cF B a
       refine zU ?_
       refine zk ?_
       cases soI a
       exact zO
     ·rintro _ rfl
      refine nB (nT ?_)
      refine zA ?_
      exact nT ⟨_,(soI b).symm,rfl,zc⟩
    ·replace b:=cF z b
     refine zU ?_
     refine AWp.exit (xT (xT ?_))
     refine exL b fun hx => ?_
     subst hx
     exact oxI ⟨rfl,_,C,zv⟩
   ·rintro _ ⟨E,C,rfl⟩
    have h:=(V _ C)
    refine xB (nT (zs ?_))
    refine zA ?_ { tk:=[3,51] }
    refine nT (zr ?_)
    cases soI h
    exact zq

theorem Z102Rw {A:Ar} (hA:SA A) : ∀ (n:Nat) {b j k l:List D} {m o p q:Int} {r c e:List D} {g:Int} {i a:List D},Z102R A n b j k l m o p q r c e g i=some a->ACallO Tryz.prog 102 [.d (.ref [.list 1 b,.list 1 j,.list 1 k,.list 8 l,.int .i64 m,.int .i64 o,.int .i64 p,.int .i64 q,.list 6 r,.list 1 c]),zl 1 e,zi g,(.own 2 i)] [.dead] (.own 2 a) [.dead]
 | 0,_,_,_,_,_,_,_,_,_,_,_,_,_,_,h=>by cases h
 | n+1,_,_,_,_,_,_,_,_,_,_,_,_,_,_,h=>Z102Bw hA (fun h=>Z102Rw hA n h) h

theorem Z102w {A:Ar} (hA:SA A) {b j k l:List D} {m n o p:Int} {q c e:List D} {g:Int} {i a:List D} (h:Z102 A b j k l m n o p q c e g i=some a):ACallO Tryz.prog 102 [.d (.ref [.list 1 b,.list 1 j,.list 1 k,.list 8 l,.int .i64 m,.int .i64 n,.int .i64 o,.int .i64 p,.list 6 q,.list 1 c]),zl 1 e,zi g,(.own 2 i)] [.dead] (.own 2 a) [.dead]:=Z102Rw hA fuel h

theorem Z62w {A:Ar} (hA:SA A) {b c e:List D} {g:Int} {a:List D} (h:Z62 A b c e g=some a):ACall Tryz.prog 62 [zl 1 b,zl 1 c,zl 1 e,zi g] [] (.own 2 a) []:=by
 unfold Z62 at h
 refine zI Tryz.func62 ?_
 refine zs ?_
 refine zA ?_
 refine nT (zs (zn ?_))
 obtain ⟨⟨k,l,m,n⟩,j,h⟩:=bindS h
 refine zC (Z101w hA j) ?_ { tk:=[14] }
 refine AOps.weak (Wk.freezeG 0 3 rfl rfl rfl) ?_
 refine AOps.weak (Wk.freezeG 0 8 rfl rfl rfl) ?_
 refine AOps.weak (Wk.freezeG 0 9 rfl rfl rfl) ?_
 refine AOps.weak (Wk.freezeObj 0 [12] (ds:=[.list 1 k,.list 1 l,.list 1 m,.list 8 n,.int .i64 0,.int .i64 0,.int .i64 0,.int .i64 0,.list 6 [],.list 1 []]) rfl rfl) ?_
 obtain ⟨o,i,h⟩:=bindS h
 refine AOps.cN hT hA { tk:=[14] } 3 2 zc (lb rfl) (ACallO.emb (Z102w hA i) [some 10] [.dead,.dead,.dead,.dead,.dead,.dead,.dead,.dead,.dead,.dead,.dead] rfl rfl rfl rfl rfl rfl rfl rfl) rfl rfl (fun _=>rfl) rfl rfl rfl rfl rfl (lb rfl) rfl rfl ?_
 refine zE ?_ { tk:=[14] }
 refine nT (zr ?_)
 cases soI h
 exact zq

theorem Z34w {A:Ar} (hA:SA A) {b:Int} {a:Bool} (h:Z34 A b=some a):ACall Tryz.prog 34 [zi b] [] (.d (.bool a)) []:=by
 unfold Z34 at h
 refine zI Tryz.func34 ?_
 refine zs ?_
 refine zA ?_
 refine nT (zs (zn ?_))
 obtain ⟨e,c,h⟩:=bindS h
 refine zC (Z82w hA c) ?_ { tk:=[4] }
 refine zE ?_ { tk:=[4] }
 refine nT (zr ?_)
 cases soI h
 exact zq

theorem Z37w {A:Ar} (hA:SA A) {m B:List D} {N O P Q R S U o p q r s u v w y z C:Int} {b E F:List D} {G J:Int} {K L:List D} {M:List (D×D)} {c:List D} {j:Bool} {k:List (D×D)} {l:List D} (h:Z37 A m B N O P Q R S U o p q r s u v w y z C b E F G J K L M c=some (j,k,l)):ACall Tryz.prog 37 [.d (.ref [.list 1 m,.list 1 B,.int .i64 N,.int .i64 O,.int .i64 P,.int .i64 Q,.int .i64 R,.int .i64 S,.int .i64 U,.int .i64 o,.int .i64 p,.int .i64 q,.int .i64 r,.int .i64 s,.int .i64 u,.int .i64 v,.int .i64 w,.int .i64 y,.int .i64 z,.int .i64 C,.list 6 b,.list 1 E]),zl 1 F,.ptr 0 0,.iptr [.int .i64 G,.int .i64 J,.list 1 K,.list 1 L],.ptr 2 0] [(.cells [(.map 1)]),(.map true [.int .i64,.int .i64,.int .i64,.int .i64,.int .i64,.int .i64,.int .i64,.int .i64,.int .i64,.int .i64,.int .i64,.int .i64,.int .i64,.int .i64,.int .i64,.int .i64,.int .i64,.int .i64,.int .i64,.int .i64,.int .i64,.int .i64,.int .i64,.int .i64,.int .i64,.int .i64,.int .i64,.int .i64,.int .i64,.int .i64,.int .i64,.int .i64,.int .i64,.int .i64,.int .i64,.int .i64] M),.cells [zl 1 c]] (.d (.bool j)) [(.cells [(.map 1)]),(.map true [.int .i64,.int .i64,.int .i64,.int .i64,.int .i64,.int .i64,.int .i64,.int .i64,.int .i64,.int .i64,.int .i64,.int .i64,.int .i64,.int .i64,.int .i64,.int .i64,.int .i64,.int .i64,.int .i64,.int .i64,.int .i64,.int .i64,.int .i64,.int .i64,.int .i64,.int .i64,.int .i64,.int .i64,.int .i64,.int .i64,.int .i64,.int .i64,.int .i64,.int .i64,.int .i64,.int .i64] k),.cells [zl 1 l]]:=by
 unfold Z37 at h
 refine zI Tryz.func37 ?_
 refine zs ?_
 refine zA ?_
 refine nT (zs ?_)
 refine zA ?_ { arr:=[8] }
 refine nT (zs ?_)
 obtain ⟨_,Y,h⟩:=bindS h
 have o0:=ckI Y
 obtain ⟨_,a0,h⟩:=bindS h
 have p0:=ckI a0
 refine AWp.rd hT hA {} rfl zu (by kernel_rfl) (lb rfl) ?_
 refine nT (zs (zs ?_))
 obtain ⟨W,a,h⟩:=bindS h
 refine AWp.cutN [0,1,2,3,4,8,18] [] 4 (lb rfl) (fun τ=>τ={ env:=[(0,.d (.ref [.list 1 m,.list 1 B,.int .i64 N,.int .i64 O,.int .i64 P,.int .i64 Q,.int .i64 R,.int .i64 S,.int .i64 U,.int .i64 o,.int .i64 p,.int .i64 q,.int .i64 r,.int .i64 s,.int .i64 u,.int .i64 v,.int .i64 w,.int .i64 y,.int .i64 z,.int .i64 C,.list 6 b,.list 1 E])),(1,zl 1 F),(2,.ptr 0 0),(3,.iptr [.int .i64 G,.int .i64 J,.list 1 K,.list 1 L]),(4,.ptr 2 0),(8,.ptr 3 0),(18,.d (.bool W))],heap:=[(.cells [(.map 1)]),(.map true [.int .i64,.int .i64,.int .i64,.int .i64,.int .i64,.int .i64,.int .i64,.int .i64,.int .i64,.int .i64,.int .i64,.int .i64,.int .i64,.int .i64,.int .i64,.int .i64,.int .i64,.int .i64,.int .i64,.int .i64,.int .i64,.int .i64,.int .i64,.int .i64,.int .i64,.int .i64,.int .i64,.int .i64,.int .i64,.int .i64,.int .i64,.int .i64,.int .i64,.int .i64,.int .i64,.int .i64] M),.cells [zl 1 c],(.arr 1 (A.spl (A.rep (Int.ofNat 36) (.int .i64 0)) (A.zmul 0 (Int.ofNat 6)) (A.flat b)))],n:=29 }) ?_ ?_
 ·skip
  obtain ⟨a1,b0,a⟩:=bindS a
  obtain ⟨q0,r0,s0⟩:=gaI b0
  obtain ⟨_,d0,a⟩:=bindS a
  have u0:=ckI d0
  obtain ⟨l0,V,a⟩:=bindS a
  rcases l0 with _ | n0
  ·have j0:=lkN V
   refine zB ?_
   cases soI a
   exact zO
  ·have j0:=lkS V
   refine zB ?_
   cases soI a
   exact zO
 ·rintro _ rfl
  refine nT ?_
  obtain ⟨X,k0,h⟩:=jnI h
  refine AWp.cutN [] [] 4 (lb rfl) (fun τ => ∃ i,X i=some (j,k,l)/\τ={ env:=[],heap:=[(.cells [(.map 1)]),(.map true [.int .i64,.int .i64,.int .i64,.int .i64,.int .i64,.int .i64,.int .i64,.int .i64,.int .i64,.int .i64,.int .i64,.int .i64,.int .i64,.int .i64,.int .i64,.int .i64,.int .i64,.int .i64,.int .i64,.int .i64,.int .i64,.int .i64,.int .i64,.int .i64,.int .i64,.int .i64,.int .i64,.int .i64,.int .i64,.int .i64,.int .i64,.int .i64,.int .i64,.int .i64,.int .i64,.int .i64] i),.cells [zl 1 c],(.arr 1 (A.spl (A.rep (Int.ofNat 36) (.int .i64 0)) (A.zmul 0 (Int.ofNat 6)) (A.flat b)))],n:=29 }) ?_ ?_
  ·skip
   rcases tf W with e | e
   ·replace h:=cT e h
    refine zT ?_
    refine zs (zs ?_)
    refine AWp.regionDraw rfl (lb rfl) ?_
    obtain ⟨m0,e0,h⟩:=bindS h
    refine DOps.c0 hT hA {} rfl zu (Z38w hA e0) rfl rfl (lb rfl) rfl rfl ?_
    refine DOps.cd hT hA {} rfl zu (by kernel_rfl) ?_
    refine nT ?_
    rcases tf m0 with g | g
    ·replace h:=cT g h
     refine zU ?_
     refine zk (nT ?_)
     obtain ⟨b1,g0,h⟩:=bindS h
     obtain ⟨v0,w0,y0⟩:=gaI g0
     obtain ⟨_,i0,h⟩:=bindS h
     have z0:=ckI i0
     refine zB ?_
     exact oNi ⟨rfl,_,h,zv⟩
    ·replace h:=cF g h
     refine zT ?_
     refine zs ?_
     refine zB ?_ { tk:=[1,26] }
     refine nT (zs ?_)
     refine zB ?_
     refine nT (zr (rT ?_))
     refine oNr ?_
     refine rT ?_
     cases soI h
     exact zq
   ·replace h:=cF e h
    refine zU ?_
    refine zk ?_
    exact oNi ⟨rfl,_,h,zv⟩
  ·rintro _ ⟨i,h,rfl⟩
   replace h:=k0 _ h
   refine nT (zs ?_)
   refine zA ?_
   refine nT (zr ?_)
   cases soI h
   exact zq
end Go.Am
