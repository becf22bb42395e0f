/- Own text: Genw2. -/
import Derived.Test.YtkjeamngjnfpkaaGenw1
set_option maxRecDepth 100000
set_option maxHeartbeats 2000000
set_option linter.unusedVariables false
set_option linter.unusedSimpArgs false
namespace Go.Am
open Go Go.Proofs
theorem K45w {A:Ar} (hA:SA A) {b p:List D} {v w y z B C E c e g i j k l m n o q:Int} {r s u a:List D} (h:K45 A b p v w y z B C E c e g i j k l m n o q r s u=some a):ACall Try.prog 45 [.d (.agg [.list 1 b,.list 1 p,.int .i64 v,.int .i64 w,.int .i64 y,.int .i64 z,.int .i64 B,.int .i64 C,.int .i64 E,.int .i64 c,.int .i64 e,.int .i64 g,.int .i64 i,.int .i64 j,.int .i64 k,.int .i64 l,.int .i64 m,.int .i64 n,.int .i64 o,.int .i64 q,.list 6 r,.list 1 s]),.ptr 0 0] [(.cells [(.own 6 u)])] (.own 1 []) [.cells [zl 6 a]]:=by
 unfold K45 at h
 refine zI Try.func45 ?_
 refine zs ?_
 refine zA ?_
 refine nT (zs ?_)
 refine zA ?_ { tk:=[5] }
 refine nT (zs ?_)
 refine zA ?_
 refine nT (zr ?_)
 cases soI h
 exact zq

theorem K44wa {A:Ar} (hA:SA A) {e g i j c:List D} (h:K44 A e g i j=some (.inl c)):ACall Try.prog 44 [zl 1 e,zl 1 g,zl 1 i,(.func 45 [] [.ptr 0 0])] [(.cells [(.own 6 j)])] (.tuple [.d (.list 1 []),zi 0]) [.cells [zl 6 c]]:=by
 unfold K44 at h
 refine zI Try.func44 ?_
 refine zs ?_
 refine zA ?_
 refine nT (zs (zs (zn ?_)))
 obtain ⟨o,l,h⟩:=bindS h
 refine zC (K89w hA l) ?_
 refine zE ?_
 refine nT (zs ?_)
 refine zA ?_
 refine nT ?_
 rcases tf (A.zeq o 0) with b | b
 ·replace h:=cT b h
  refine zU ?_
  refine zk (nT (zs (zn ?_)))
  obtain ⟨⟨R,p,q,r,s,u,v,w,y,z,B,C,E,F,G,J,K,L,M,N,O,P,n⟩,m,h⟩:=bindS h
  refine zD (K104w hA m) ?_ { tk:=[24] }
  refine zF ?_ { tk:=[24] }
  refine nT (zs (zs ?_))
  refine zB ?_
  refine nT ?_
  rcases tf n with a | a
  ·replace h:=cT a h
   refine zU ?_
   refine zk (nT (zs (zn ?_)))
   obtain ⟨Q,k,h⟩:=bindS h
   refine zD (K45w hA k) ?_
   refine zF ?_
   refine nT (zr ?_)
   cases soI h
   exact zq
  ·replace h:=cF a h
   refine zT ?_
   refine zs ?_
   refine zB ?_
   refine nT (zr (rT ?_))
   cases soI h
 ·replace h:=cF b h
  refine zT ?_
  refine zs ?_
  refine zB ?_
  refine nT (zr (rT ?_))
  cases soI h

theorem K44wb {A:Ar} (hA:SA A) {g i j c:List D} {e:Int} (h:K44 A g i j c=some (.inr e)):ACall Try.prog 44 [zl 1 g,zl 1 i,zl 1 j,(.func 45 [] [.ptr 0 0])] [(.cells [(.own 6 c)])] (.tuple [.d (.list 1 []),zi e]) [(.cells [(.own 6 c)])]:=by
 unfold K44 at h
 refine zI Try.func44 ?_
 refine zs ?_
 refine zA ?_
 refine nT (zs (zs (zn ?_)))
 obtain ⟨o,l,h⟩:=bindS h
 refine zC (K89w hA l) ?_
 refine zE ?_
 refine nT (zs ?_)
 refine zA ?_
 refine nT ?_
 rcases tf (A.zeq o 0) with b | b
 ·replace h:=cT b h
  refine zU ?_
  refine zk (nT (zs (zn ?_)))
  obtain ⟨⟨R,p,q,r,s,u,v,w,y,z,B,C,E,F,G,J,K,L,M,N,O,P,n⟩,m,h⟩:=bindS h
  refine zD (K104w hA m) ?_ { tk:=[24] }
  refine zF ?_ { tk:=[24] }
  refine nT (zs (zs ?_))
  refine zB ?_
  refine nT ?_
  rcases tf n with a | a
  ·replace h:=cT a h
   refine zU ?_
   refine zk (nT (zs (zn ?_)))
   obtain ⟨Q,k,h⟩:=bindS h
   refine zD (K45w hA k) ?_
   refine zF ?_
   refine nT (zr ?_)
   cases soI h
  ·replace h:=cF a h
   refine zT ?_
   refine zs ?_
   refine zB ?_
   refine nT (zr (rT ?_))
   cases soI h
   exact zq
 ·replace h:=cF b h
  refine zT ?_
  refine zs ?_
  refine zB ?_
  refine nT (zr (rT ?_))
  cases soI h
  exact zq

theorem K13w {A:Ar} (hA:SA A) {g i j c:List D} {e:Int} (h:K13 A g i j=some (c,e)):ACall Try.prog 13 [zl 1 g,zl 1 i,zl 1 j] [] (.tuple [zl 6 c,zi e]) []:=by
 unfold K13 at h
 refine zI Try.func13 ?_
 refine zs ?_
 refine zA ?_
 refine nT (zs ?_)
 refine zA ?_ { esc:=[8] }
 refine nT (zs ?_)
 obtain ⟨⟨l,m⟩,a,h⟩:=bindS h
 refine AWp.cutW (fun τ=>τ={ env:=[(8,.ptr 0 0),(10,zi l)],heap:=[.cells [zl 6 m]],n:=21 }) ?_ ?_
 ·skip
  refine zn ?_
  obtain ⟨k,b,a⟩:=bindS a
  rcases k with o | p
  ·replace a:=(eL a)
   refine zC (K44wa hA b) ?_
   refine zE ?_
   cases soI a
   exact oWi ⟨_,zR [some 0] [8,10],rfl⟩
  ·replace a:=(eR a)
   refine zC (K44wb hA b) ?_
   refine zE ?_
   cases soI a
   exact oWi ⟨_,(Wk.trans (Wk.softC 0 0 rfl rfl rfl) (zR [some 0] [8,10])),rfl⟩
 ·rintro _ rfl
  refine nT (zs ?_)
  refine zA ?_
  refine nT (zr ?_)
  cases soI h
  exact zq

theorem K10w {A:Ar} (hA:SA A) {g:Bool} (h:K10 A=some g):ACall Try.prog 10 [] [] (.d (.bool g)) []:=by
 unfold K10 at h
 refine zI Try.func10 ?_
 refine zs ?_
 refine zA ?_
 refine nT (zs ?_)
 refine zA ?_
 refine nT (zs (zn ?_))
 obtain ⟨⟨s,u⟩,p,h⟩:=bindS h
 refine zC (K13w hA p) ?_
 refine zE ?_
 refine nT (zs ?_)
 obtain ⟨v,a,h⟩:=bindS h
 refine AWp.cutN [0] [] 0 (lb rfl) (fun τ=>τ={ env:=[(0,.d (.bool v))],heap:=[],n:=40 }) ?_ ?_
 ·skip
  rcases tf (A.zeq u 0) with c | c
  ·replace a:=cT c a
   rcases tf (A.zeq (A.len s) 2) with e | e
   ·replace a:=cT e a
    obtain ⟨⟨k,l,m,o,i,j⟩,q,a⟩:=bindS a
    have F:=gcI q
    rcases tf (A.deq [.int .i64 k,.int .i64 l,.int .i64 m,.int .i64 o,.int .i64 i,.int .i64 j] [.int .i64 0,.int .i64 0,.int .i64 0,.int .i64 0,.int .i64 1,.int .i64 12]) with b | b
    ·replace a:=cT b a
     obtain ⟨⟨w,y,z,B,C,E⟩,r,a⟩:=bindS a
     have G:=gcI r
     refine zB ?_ { tk:=[39] }
     cases soI a
     exact zO
    ·replace a:=cF b a
     refine zB ?_ { tk:=[39] }
     cases soI a
     exact zO
   ·replace a:=cF e a
    refine zB ?_ { tk:=[39] }
    cases soI a
    exact zO
  ·replace a:=cF c a
   refine zB ?_ { tk:=[39] }
   cases soI a
   exact zO
 ·rintro _ rfl
  refine nT (zr ?_)
  cases soI h
  exact zq

theorem K84w {A:Ar} (hA:SA A) {b:Int} {a:Bool} (h:K84 A b=some a):ACall Try.prog 84 [zi b] [] (.d (.bool a)) []:=by
 unfold K84 at h
 refine zI Try.func84 ?_
 refine zs ?_
 refine zA ?_
 refine nT (zs (zn ?_))
 obtain ⟨e,c,h⟩:=bindS h
 refine zC (K47w hA c) ?_ { tk:=[4] }
 refine zE ?_ { tk:=[4] }
 refine nT (zr ?_)
 cases soI h
 exact zq

theorem K70aw {A:Ar} (hA:SA A) {i:Int} {v C:List D} {E F G J K L j k l m o p q r s u w y:Int} {z B:List D} {S:Bool} (h:K70a A i v C E F G J K L j k l m o p q r s u w y z B=some S):ACall Try.prog 70 [.ptr 0 0,zi i] [.cells [zl 1 v,zl 1 C,zi E,zi F,zi G,zi J,zi K,zi L,zi j,zi k,zi l,zi m,zi o,zi p,zi q,zi r,zi s,zi u,zi w,zi y,zl 6 z,zl 1 B]] (.d (.bool S)) [.cells [zl 1 v,zl 1 C,zi E,zi F,zi G,zi J,zi K,zi L,zi j,zi k,zi l,zi m,zi o,zi p,zi q,zi r,zi s,zi u,zi w,zi y,zl 6 z,zl 1 B]]:=by
 unfold K70a at h
 refine zI Try.func70 ?_
 refine zs ?_
 refine zA ?_
 refine nT (zs ?_)
 obtain ⟨i0,a,h⟩:=bindS h
 refine AWp.cutN [4] [] 1 (lb rfl) (fun τ=>τ={ env:=[(4,.d (.bool i0))],heap:=[.cells [zl 1 v,zl 1 C,zi E,zi F,zi G,zi J,zi K,zi L,zi j,zi k,zi l,zi m,zi o,zi p,zi q,zi r,zi s,zi u,zi w,zi y,zl 6 z,zl 1 B]],n:=31 }) ?_ ?_
 ·skip
  refine AWp.regionDraw rfl (lb rfl) ?_
  obtain ⟨g0,U,a⟩:=bindS a
  refine DOps.c0 hT hA { tk:=[30] } rfl zc (K47w hA U) rfl rfl (lb rfl) rfl rfl ?_
  rcases tf g0 with b | b
  ·replace a:=cT b a
   rcases tf (A.zeq i 0) with c | c
   ·replace a:=cT c a
    obtain ⟨X,Y,M⟩:=ixF hA (n:=2) c (by decide)
    obtain ⟨j0,V,a⟩:=bindS a
    obtain ⟨a0,N⟩:=gtI V
    have O:=N
    rw [M] at O
    refine DOps.cd hT hA { tk:=[30] } rfl (by (repeat (cbv;simp only [b,X,Y,M,O,a0,N]));try cbv) (by kernel_rfl) ?_
    cases soI a
    exact (zO (g:=(by first | (cbv;done) | ((repeat (cbv;simp only [b]));try cbv))))
   ·replace a:=cF c a
    rcases tf (A.zeq i 1) with e | e
    ·replace a:=cT e a
     obtain ⟨b0,d0,P⟩:=ixF hA (n:=2) e (by decide)
     obtain ⟨k0,W,a⟩:=bindS a
     obtain ⟨e0,Q⟩:=gtI W
     have R:=Q
     rw [P] at R
     refine DOps.cd hT hA { tk:=[30] } rfl (by (repeat (cbv;simp only [b,b0,d0,P,R,e0,Q]));try cbv) (by kernel_rfl) ?_
     cases soI a
     exact (zO (g:=(by first | (cbv;done) | ((repeat (cbv;simp only [b]));try cbv))))
    ·replace a:=cF e a
     cases a
  ·replace a:=cF b a
   refine DOps.cd hT hA { tk:=[30] } rfl (by (repeat (cbv;simp only [b]));try cbv) (by kernel_rfl) ?_
   cases soI a
   exact (zO (g:=(by first | (cbv;done) | ((repeat (cbv;simp only [b]));try cbv))))
 ·rintro _ rfl
  refine nT (zr ?_)
  cases soI h
  exact zq

theorem K56w {A:Ar} (hA:SA A) {e b:List D} {w y z B C E F g i j k l m o p q r s:Int} {u v N:List D} (h:K56 A e b w y z B C E F g i j k l m o p q r s u v=some N):ACall Try.prog 56 [.ptr 0 0] [.cells [zl 1 e,zl 1 b,zi w,zi y,zi z,zi B,zi C,zi E,zi F,zi g,zi i,zi j,zi k,zi l,zi m,zi o,zi p,zi q,zi r,zi s,zl 6 u,zl 1 v]] (.own 1 N) [.cells [zl 1 e,zl 1 b,zi w,zi y,zi z,zi B,zi C,zi E,zi F,zi g,zi i,zi j,zi k,zi l,zi m,zi o,zi p,zi q,zi r,zi s,zl 6 u,zl 1 v]]:=by
 unfold K56 at h
 refine zI Try.func56 ?_
 refine zs ?_
 refine zA ?_
 refine nT (zs ?_)
 refine zA ?_
 refine nT (zs (zs ?_))
 refine zA ?_
 refine nT (zb ?_)
 obtain ⟨c0,U,P,S,L⟩:=bindK h
 refine AWp.cutX 0 [3] [] 1 (lb rfl) (fun τ => ∃ M,P M=some N/\τ={ env:=[(3,(.own 1 M))],heap:=[.cells [zl 1 e,zl 1 b,zi w,zi y,zi z,zi B,zi C,zi E,zi F,zi g,zi i,zi j,zi k,zi l,zi m,zi o,zi p,zi q,zi r,zi s,zl 6 u,zl 1 v]],n:=22 }) ?_ ?_
 ·skip
  refine AWp.iter U [0,3,9,10] [] 1 (lb rfl) (fun (O,G)=>{ env:=[(0,.ptr 0 0),(3,(.own 1 O)),(9,(.d (.int .i64 (A.len b)))),(10,zi G)],heap:=[.cells [zl 1 e,zl 1 b,zi w,zi y,zi z,zi B,zi C,zi E,zi F,zi g,zi i,zi j,zi k,zi l,zi m,zi o,zi p,zi q,zi r,zi s,zl 6 u,zl 1 v]],n:=22 }) ⟨rfl,zc⟩ ?_
  rintro ⟨O,G⟩ X a
  dsimp only [K56L0] at a
  refine zs ?_
  refine zA ?_
  refine nT (zs ?_)
  rcases tf (A.zlt G (A.len b)) with J | J
  ·replace a:=cT J a
   refine zT ?_
   refine zk (nT (zs (zb (zs ?_))))
   refine zB ?_
   refine nT (zs (zn ?_))
   obtain ⟨V,Q,a⟩:=bindS a
   refine zD (K70aw hA Q) ?_
   refine zF ?_
   refine nT ?_
   obtain ⟨W,c,a⟩:=bindS a
   refine AWp.cutN [0,3,9,10] [] 1 (lb rfl) (fun τ=>τ={ env:=[(0,.ptr 0 0),(3,(.own 1 W)),(9,(.d (.int .i64 (A.len b)))),(10,zi G)],heap:=[.cells [zl 1 e,zl 1 b,zi w,zi y,zi z,zi B,zi C,zi E,zi F,zi g,zi i,zi j,zi k,zi l,zi m,zi o,zi p,zi q,zi r,zi s,zl 6 u,zl 1 v]],n:=22 }) ?_ ?_
   ·skip
    rcases tf V with K | K
    ·replace c:=cT K c
     refine zT ?_
     obtain ⟨b0,R,c⟩:=bindS c
     obtain ⟨Y,a0⟩:=apI R
     refine zB ?_ { tk:=[3,19] }
     cases soI c
     exact zO
    ·replace c:=cF K c
     refine zU ?_
     refine zk ?_
     cases soI c
     exact zO
   ·rintro _ rfl
    refine nB (nT ?_)
    refine zA ?_
    exact nT ⟨_,(soI a).symm,rfl,zc⟩
  ·replace a:=cF J a
   refine zU ?_
   refine AWp.exit (xT (xT ?_))
   refine exL a fun hx => ?_
   subst hx
   exact oxI ⟨rfl,_,L,zv⟩
 ·rintro _ ⟨M,L,rfl⟩
  have h:=(S _ L)
  refine xB (nT (zs ?_))
  refine zA ?_ { tk:=[3,21] }
  refine nT (zr ?_)
  cases soI h
  exact zq

theorem K90w {A:Ar} (hA:SA A) {b p:List D} {w y z B C E F c e g i j k l m n o q:Int} {r s u:List D} {v a:Int} (h:K90 A b p w y z B C E F c e g i j k l m n o q r s u v=some a):ACall Try.prog 90 [.d (.ref [.list 1 b,.list 1 p,.int .i64 w,.int .i64 y,.int .i64 z,.int .i64 B,.int .i64 C,.int .i64 E,.int .i64 F,.int .i64 c,.int .i64 e,.int .i64 g,.int .i64 i,.int .i64 j,.int .i64 k,.int .i64 l,.int .i64 m,.int .i64 n,.int .i64 o,.int .i64 q,.list 6 r,.list 1 s]),zl 1 u,.ptr 0 0] [.cells [zi v]] (.d (.bool true)) [.cells [zi a]]:=by
 unfold K90 at h
 refine zI Try.func90 ?_
 refine zs ?_
 refine zA ?_
 refine nT (zs ?_)
 refine zA ?_ { tk:=[7] }
 refine nT (zs ?_)
 refine zA ?_
 refine nT (zr ?_)
 cases soI h
 exact zq

theorem K146w {A:Ar} (hA:SA A) {c e:List D} (h:K146 A c=some e):ACall Try.prog 146 [zl 6 c] [] (.own 6 e) []:=by
 unfold K146 at h
 refine zI Try.func146 ?_
 refine zs ?_
 refine zA ?_
 refine nT (zs (zs ?_))
 rcases tf (A.zlt 0 (A.len c)) with a | a
 ·replace h:=cT a h
  refine zB ?_
  refine nT ?_
  refine AWp.cond (b:=false) (by cbv;simp only [a]) ?_
  rw [if_neg Bool.false_ne_true]
  refine zk (nT (zs ?_))
  obtain ⟨p,g,h⟩:=bindS h
  obtain ⟨n,o⟩:=apI g
  refine zB ?_ { tk:=[7] }
  refine nT (zr ?_)
  cases soI h
  exact zq
 ·replace h:=cF a h
  refine zB ?_
  refine nT ?_
  obtain ⟨j,k⟩:=bothI h
  refine AWp.condAny (by cbv;simp only [a]) ?_ ?_
  ·replace h:=j
   refine zs ?_
   refine zB ?_
   refine nT (zr (rT ?_))
   cases soI h
   exact zq
  ·replace h:=k
   refine zk (nT (zs ?_))
   obtain ⟨q,i,h⟩:=bindS h
   obtain ⟨l,m⟩:=apI i
   refine zB ?_ { tk:=[7] }
   refine nT (zr ?_)
   cases soI h
   exact zq

theorem K54w {A:Ar} (hA:SA A) {c e:List D} (h:K54 A c=some e):ACall Try.prog 54 [zl 1 c] [] (.own 1 e) []:=by
 unfold K54 at h
 refine zI Try.func54 ?_
 refine zs ?_
 refine zA ?_
 refine nT (zs (zs ?_))
 rcases tf (A.zlt 0 (A.len c)) with a | a
 ·replace h:=cT a h
  refine zB ?_
  refine nT ?_
  refine AWp.cond (b:=false) (by cbv;simp only [a]) ?_
  rw [if_neg Bool.false_ne_true]
  refine zk (nT (zs ?_))
  obtain ⟨p,g,h⟩:=bindS h
  obtain ⟨n,o⟩:=apI g
  refine zB ?_ { tk:=[7] }
  refine nT (zr ?_)
  cases soI h
  exact zq
 ·replace h:=cF a h
  refine zB ?_
  refine nT ?_
  obtain ⟨j,k⟩:=bothI h
  refine AWp.condAny (by cbv;simp only [a]) ?_ ?_
  ·replace h:=j
   refine zs ?_
   refine zB ?_
   refine nT (zr (rT ?_))
   cases soI h
   exact zq
  ·replace h:=k
   refine zk (nT (zs ?_))
   obtain ⟨q,i,h⟩:=bindS h
   obtain ⟨l,m⟩:=apI i
   refine zB ?_ { tk:=[7] }
   refine nT (zr ?_)
   cases soI h
   exact zq

theorem K124w {A:Ar} (hA:SA A) {C Q:List D} {V W X Y x7 x8 x9 E F G J K L M N O P R:Int} {S U a b:List D} {c e g i j k l m n o p q r s u v w y:Int} {z B:List D} (h:K124 A C Q V W X Y x7 x8 x9 E F G J K L M N O P R S U=some (a,b,c,e,g,i,j,k,l,m,n,o,p,q,r,s,u,v,w,y,z,B)):ACall Try.prog 124 [.d (.agg [.list 1 C,.list 1 Q,.int .i64 V,.int .i64 W,.int .i64 X,.int .i64 Y,.int .i64 x7,.int .i64 x8,.int .i64 x9,.int .i64 E,.int .i64 F,.int .i64 G,.int .i64 J,.int .i64 K,.int .i64 L,.int .i64 M,.int .i64 N,.int .i64 O,.int .i64 P,.int .i64 R,.list 6 S,.list 1 U])] [] (.agg [zl 1 a,zl 1 b,zi c,zi e,zi g,zi i,zi j,zi k,zi l,zi m,zi n,zi o,zi p,zi q,zi r,zi s,zi u,zi v,zi w,zi y,.gref 0 6,.gref 3 1]) [.gro 6 z,.dead,.dead,.gro 1 B,.dead,.dead]:=by
 unfold K124 at h
 refine zI Try.func124 ?_
 refine zs ?_
 refine zA ?_ { esc:=[1,2] }
 refine nT ?_
 refine AWp.weak (Wk.settle 1 20 rfl rfl rfl) ?_
 refine AWp.weak (Wk.settle 1 21 rfl rfl rfl) ?_
 refine zs ?_
 refine AWp.regionDraw rfl (lb rfl) ?_
 obtain ⟨g0,a0,h⟩:=bindS h
 obtain ⟨_,b0,h⟩:=bindS h
 refine DOps.c0 hT hA { tk:=[5,8] } rfl zc (ACall.fresh (K146w hA a0) (ckI b0)) rfl rfl (lb rfl) rfl rfl ?_
 obtain ⟨i0,d0,h⟩:=bindS h
 obtain ⟨_,e0,h⟩:=bindS h
 refine DOps.c0 hT hA { tk:=[5,8] } rfl zc (ACall.fresh (K54w hA d0) (ckI e0)) rfl rfl (lb rfl) rfl rfl ?_
 refine DOps.cd hT hA { tk:=[5,8] } rfl zc (by kernel_rfl) ?_
 refine nT ?_
 refine AWp.weak (Wk.settle 0 20 rfl rfl rfl) ?_
 refine AWp.weak (Wk.settle 0 21 rfl rfl rfl) ?_
 refine zs ?_
 refine zA ?_ { tk:=[11] }
 refine nT ?_
 refine AWp.weak (Wk.ren [some 8,some 9,some 10,some 11,some 12,some 13,some 1] [2] rfl rfl) ?_
 refine zr ?_
 cases soI h
 exact zq

theorem K85aBw {A:Ar} (hA:SA A) {self52:List D->List D->Int->Int->Int->Int->Int->Int->Int->Int->Int->Int->Int->Int->Int->Int->Int->Int->Int->Int->List D->List D->Int->List D->List D->Int->(Option (Bool×Int))} (o0 : ∀ {b q:List D} {v w y z B C E c e g i j k l m o p r:Int} {s u:List D} {F:Int} {G J:List D} {K:Int} {y1:Bool} {y2:Int},self52 b q v w y z B C E c e g i j k l m o p r s u F G J K=some (y1,y2)->ACall Try.prog 85 [.d (.agg [.list 1 b,.list 1 q,.int .i64 v,.int .i64 w,.int .i64 y,.int .i64 z,.int .i64 B,.int .i64 C,.int .i64 E,.int .i64 c,.int .i64 e,.int .i64 g,.int .i64 i,.int .i64 j,.int .i64 k,.int .i64 l,.int .i64 m,.int .i64 o,.int .i64 p,.int .i64 r,.list 6 s,.list 1 u]),zi F,zl 1 G,zl 1 J,(.func 90 [] [.ptr 0 0])] [.cells [zi K]] (.d (.bool y1)) [.cells [zi y2]]) {b q:List D} {v w y z B C E c e g i j k l m o p r:Int} {s u:List D} {F:Int} {G J:List D} {K:Int} {W:Bool} {X:Int} (h:K85aB A self52 b q v w y z B C E c e g i j k l m o p r s u F G J K=some (W,X)):ACall Try.prog 85 [.d (.agg [.list 1 b,.list 1 q,.int .i64 v,.int .i64 w,.int .i64 y,.int .i64 z,.int .i64 B,.int .i64 C,.int .i64 E,.int .i64 c,.int .i64 e,.int .i64 g,.int .i64 i,.int .i64 j,.int .i64 k,.int .i64 l,.int .i64 m,.int .i64 o,.int .i64 p,.int .i64 r,.list 6 s,.list 1 u]),zi F,zl 1 G,zl 1 J,(.func 90 [] [.ptr 0 0])] [.cells [zi K]] (.d (.bool W)) [.cells [zi X]]:=by
 unfold K85aB at h
 refine zI Try.func85 ?_
 refine zs ?_
 refine zA ?_ { esc:=[5] }
 refine nT (zs (zn ?_))
 obtain ⟨N,l0,h⟩:=bindS h
 refine zC (ACall.emb (K56w hA l0) [some 1] [.cells [zi K],.cells [zl 1 b,zl 1 q,zi v,zi w,zi y,zi z,zi B,zi C,zi E,zi c,zi e,zi g,zi i,zi j,zi k,zi l,zi m,zi o,zi p,zi r,zl 6 s,zl 1 u]] rfl rfl rfl rfl rfl rfl rfl) ?_
 refine zE ?_
 refine nT (zs (zs ?_))
 obtain ⟨a0,M,h⟩:=bindS h
 refine AWp.cutW (fun τ=>τ={ env:=[(1,zi F),(2,zl 1 G),(3,zl 1 J),(4,(.func 90 [] [.ptr 0 0])),(5,.ptr 1 0),(11,zl 1 N),(24,.d (.bool a0))],heap:=[.cells [zi K],.cells [zl 1 b,zl 1 q,zi v,zi w,zi y,zi z,zi B,zi C,zi E,zi c,zi e,zi g,zi i,zi j,zi k,zi l,zi m,zi o,zi p,zi r,zl 6 s,zl 1 u]],n:=55 }) ?_ ?_
 ·skip
  rcases tf (A.zeq (A.len N) 0) with R | R
  ·replace M:=cT R M
   refine zB ?_
   cases soI M
   exact oWi ⟨_,zR [some 0,some 1] [1,2,3,4,5,11,24],rfl⟩
  ·replace M:=cF R M
   refine zB ?_
   cases soI M
   exact oWi ⟨_,zR [some 0,some 1] [1,2,3,4,5,11,24],rfl⟩
 ·rintro _ rfl
  refine nT ?_
  rcases tf a0 with S | S
  ·replace h:=cT S h
   refine zT ?_
   refine zs ?_
   refine AWp.weak (Wk.freezeObj 1 [5] (ds:=[.list 1 b,.list 1 q,.int .i64 v,.int .i64 w,.int .i64 y,.int .i64 z,.int .i64 B,.int .i64 C,.int .i64 E,.int .i64 c,.int .i64 e,.int .i64 g,.int .i64 i,.int .i64 j,.int .i64 k,.int .i64 l,.int .i64 m,.int .i64 o,.int .i64 p,.int .i64 r,.list 6 s,.list 1 u]) rfl rfl) ?_
   refine zn ?_
   obtain ⟨k3,m0,h⟩:=bindS h
   refine zD (K90w hA m0) ?_ { tk:=[27] }
   refine zF ?_ { tk:=[27] }
   refine nT (zr (rT ?_))
   cases soI h
   exact zq
  ·replace h:=cF S h
   refine zU ?_
   refine zk (nT (zs (zs ?_)))
   refine zB ?_
   refine nT (zb ?_)
   obtain ⟨l3,n0,b0,Y,L⟩:=bindK h
   refine AWp.cutX 0 [] [] 2 (lb rfl) (fun τ => ∃ V,b0 (.inl V)=some (W,X)/\τ={ env:=[],heap:=[.cells [zi V],.cells [zl 1 b,zl 1 q,zi v,zi w,zi y,zi z,zi B,zi C,zi E,zi c,zi e,zi g,zi i,zi j,zi k,zi l,zi m,zi o,zi p,zi r,zl 6 s,zl 1 u]],n:=55 }) ?_ ?_
   ·skip
    refine AWp.iter n0 [1,2,3,4,5,28,29,30] [] 2 (lb rfl) (fun (U,O)=>{ env:=[(1,zi F),(2,zl 1 G),(3,zl 1 J),(4,(.func 90 [] [.ptr 0 0])),(5,.ptr 1 0),(28,zl 1 N),(29,(.d (.int .i64 (A.len N)))),(30,zi U)],heap:=[.cells [zi O],.cells [zl 1 b,zl 1 q,zi v,zi w,zi y,zi z,zi B,zi C,zi E,zi c,zi e,zi g,zi i,zi j,zi k,zi l,zi m,zi o,zi p,zi r,zl 6 s,zl 1 u]],n:=55 }) ⟨rfl,zv⟩ ?_
    rintro ⟨U,O⟩ r1 a
    dsimp only [K85aL0] at a
    refine zs ?_
    refine zA ?_
    refine nT (zs ?_)
    rcases tf (A.zlt U (A.len N)) with P | P
    ·replace a:=cT P a
     refine zT ?_
     refine zk (nT (zs (zb (zs ?_))))
     obtain ⟨q1,c0,a⟩:=bindS a
     obtain ⟨s1,u1⟩:=gtI c0
     refine zB ?_
     refine nT (zs (zn ?_))
     obtain ⟨⟨p0,q0,r0,s0,u0,v0,w0,y0,z0,a1,b1,c1,d1,e1,g1,i1,j1,k1,l1,m1,n1,o1⟩,d0,a⟩:=bindS a
     refine zD (ACall.shift (K124w hA d0) rfl rfl [.cells [zi O],.cells [zl 1 b,zl 1 q,zi v,zi w,zi y,zi z,zi B,zi C,zi E,zi c,zi e,zi g,zi i,zi j,zi k,zi l,zi m,zi o,zi p,zi r,zl 6 s,zl 1 u]] rfl rfl rfl rfl) ?_ { tk:=[35],esc:=[14] }
     refine zF ?_ { tk:=[35],esc:=[14] }
     refine nT (zs (zn ?_))
     obtain ⟨⟨i2,j2,k2,l2,m2,n2,o2,p2,q2,r2,s2,u2,v2,w2,z2,a3,b3,c3,d3,e3,g3,i3⟩,e0,a⟩:=bindS a
     refine zD (ACall.emb (K71w hA e0) [some 8,some 2,some 3,some 4,some 5,some 6,some 7] [.cells [zi O],.cells [zl 1 b,zl 1 q,zi v,zi w,zi y,zi z,zi B,zi C,zi E,zi c,zi e,zi g,zi i,zi j,zi k,zi l,zi m,zi o,zi p,zi r,zl 6 s,zl 1 u],.gro 6 n1,.dead,.dead,.gro 1 o1,.dead,.dead,.cells [zl 1 p0,zl 1 q0,zi r0,zi s0,zi u0,zi v0,zi w0,zi y0,zi z0,zi a1,zi b1,zi c1,zi d1,zi e1,zi g1,zi i1,zi j1,zi k1,zi l1,zi m1,.gref 2 6,.gref 5 1]] rfl rfl rfl rfl rfl rfl rfl) ?_
     refine zF ?_
     refine nT (zs ?_)
     refine AWp.weak (Wk.freezeG 8 20 rfl rfl rfl) ?_
     refine AWp.weak (Wk.freezeG 8 21 rfl rfl rfl) ?_
     refine AWp.regionDraw rfl (lb rfl) ?_
     obtain ⟨e2,g0,a⟩:=bindS a
     obtain ⟨v1,w1,z1,a2⟩:=slI g0
     obtain ⟨_,i0,a⟩:=bindS a
     have b2:=ckI i0
     obtain ⟨g2,j0,a⟩:=bindS a
     obtain ⟨c2,d2⟩:=apI j0
     obtain ⟨⟨p1,j3⟩,k0,a⟩:=bindS a
     refine DOps.cl hT hA {} rfl zu (o0 k0) rfl rfl rfl rfl rfl (lb rfl) rfl rfl ?_
     refine DOps.cd hT hA {} rfl zu (by kernel_rfl) ?_
     refine nT ?_
     rcases tf p1 with Q | Q
     ·replace a:=cT Q a
      refine zU ?_
      refine zk (nB (nT ?_))
      refine zB ?_
      exact nT ⟨_,(soI a).symm,rfl,zv⟩
     ·replace a:=cF Q a
      refine zT ?_
      refine zs ?_
      refine zB ?_
      refine nT (zr (rB (rT (rT ?_))))
      refine exL a fun hx => ?_
      subst hx
      refine oxR ?_
      replace L:=(eR (Y _ L))
      refine rB (rT ?_)
      cases soI L
      exact zq
    ·replace a:=cF P a
     refine zU ?_
     refine AWp.exit (xT (xT ?_))
     refine exL a fun hx => ?_
     subst hx
     exact oxI ⟨rfl,_,L,zv⟩
   ·rintro _ ⟨V,L,rfl⟩
    have h:=(eL (Y _ L))
    refine xB (nT (zs ?_))
    refine zA ?_
    refine nT (zr ?_)
    cases soI h
    exact zq

theorem K85aRw {A:Ar} (hA:SA A) : ∀ (n:Nat) {c r:List D} {C E F G J K L e g i j k l m o p q s:Int} {u v:List D} {w:Int} {y z:List D} {B:Int} {a:Bool} {b:Int},K85aR A n c r C E F G J K L e g i j k l m o p q s u v w y z B=some (a,b)->ACall Try.prog 85 [.d (.agg [.list 1 c,.list 1 r,.int .i64 C,.int .i64 E,.int .i64 F,.int .i64 G,.int .i64 J,.int .i64 K,.int .i64 L,.int .i64 e,.int .i64 g,.int .i64 i,.int .i64 j,.int .i64 k,.int .i64 l,.int .i64 m,.int .i64 o,.int .i64 p,.int .i64 q,.int .i64 s,.list 6 u,.list 1 v]),zi w,zl 1 y,zl 1 z,(.func 90 [] [.ptr 0 0])] [.cells [zi B]] (.d (.bool a)) [.cells [zi b]]
 | 0,_,_,_,_,_,_,_,_,_,_,_,_,_,_,_,_,_,_,_,_,_,_,_,_,_,_,_,_,h=>by cases h
 | n+1,_,_,_,_,_,_,_,_,_,_,_,_,_,_,_,_,_,_,_,_,_,_,_,_,_,_,_,_,h=>K85aBw hA (fun h=>K85aRw hA n h) h

theorem K85aw {A:Ar} (hA:SA A) {c q:List D} {B C E F G J K e g i j k l m n o p r:Int} {s u:List D} {v:Int} {w y:List D} {z:Int} {a:Bool} {b:Int} (h:K85a A c q B C E F G J K e g i j k l m n o p r s u v w y z=some (a,b)):ACall Try.prog 85 [.d (.agg [.list 1 c,.list 1 q,.int .i64 B,.int .i64 C,.int .i64 E,.int .i64 F,.int .i64 G,.int .i64 J,.int .i64 K,.int .i64 e,.int .i64 g,.int .i64 i,.int .i64 j,.int .i64 k,.int .i64 l,.int .i64 m,.int .i64 n,.int .i64 o,.int .i64 p,.int .i64 r,.list 6 s,.list 1 u]),zi v,zl 1 w,zl 1 y,(.func 90 [] [.ptr 0 0])] [.cells [zi z]] (.d (.bool a)) [.cells [zi b]]:=K85aRw hA fuel h

theorem K85w {A:Ar} (hA:SA A) {b q:List D} {v w y z B C E c e g i j k l m o p r L:Int} {M N:List D} {O:Int} {s u:List D} {W:Bool} {X:Int} (h:K85 A b q v w y z B C E c e g i j k l m o p r L M N O s u=some (W,X)):ACall Try.prog 85 [.agg [zl 1 b,zl 1 q,zi v,zi w,zi y,zi z,zi B,zi C,zi E,zi c,zi e,zi g,zi i,zi j,zi k,zi l,zi m,zi o,zi p,zi r,.gref 1 6,.gref 4 1],zi L,zl 1 M,zl 1 N,(.func 90 [] [.ptr 0 0])] [.cells [zi O],.gro 6 s,.dead,.dead,.gro 1 u,.dead,.dead] (.d (.bool W)) [.cells [zi X],.dead,.dead,.dead,.dead,.dead,.dead]:=by
 unfold K85 at h
 refine zI Try.func85 ?_
 refine zs ?_
 refine zA ?_ { esc:=[5] }
 refine nT ?_
 refine AWp.weak (Wk.freezeG 7 20 rfl rfl rfl) ?_
 refine AWp.weak (Wk.freezeG 7 21 rfl rfl rfl) ?_
 refine zs (zn ?_)
 obtain ⟨J,l0,h⟩:=bindS h
 refine zC (ACall.emb (K56w hA l0) [some 7] [.cells [zi O],.dead,.dead,.dead,.dead,.dead,.dead,.cells [zl 1 b,zl 1 q,zi v,zi w,zi y,zi z,zi B,zi C,zi E,zi c,zi e,zi g,zi i,zi j,zi k,zi l,zi m,zi o,zi p,zi r,zl 6 s,zl 1 u]] rfl rfl rfl rfl rfl rfl rfl) ?_
 refine zE ?_
 refine nT (zs (zs ?_))
 obtain ⟨a0,G,h⟩:=bindS h
 refine AWp.cutN [1,2,3,4,5,11,24] [] 8 (lb rfl) (fun τ=>τ={ env:=[(1,zi L),(2,zl 1 M),(3,zl 1 N),(4,(.func 90 [] [.ptr 0 0])),(5,.ptr 7 0),(11,zl 1 J),(24,.d (.bool a0))],heap:=[.cells [zi O],.dead,.dead,.dead,.dead,.dead,.dead,.cells [zl 1 b,zl 1 q,zi v,zi w,zi y,zi z,zi B,zi C,zi E,zi c,zi e,zi g,zi i,zi j,zi k,zi l,zi m,zi o,zi p,zi r,zl 6 s,zl 1 u]],n:=55 }) ?_ ?_
 ·skip
  rcases tf (A.zeq (A.len J) 0) with R | R
  ·replace G:=cT R G
   refine zB ?_
   cases soI G
   exact zO
  ·replace G:=cF R G
   refine zB ?_
   cases soI G
   exact zO
 ·rintro _ rfl
  refine nT ?_
  rcases tf a0 with S | S
  ·replace h:=cT S h
   refine zT ?_
   refine zs ?_
   refine AWp.weak (Wk.freezeObj 7 [5] (ds:=[.list 1 b,.list 1 q,.int .i64 v,.int .i64 w,.int .i64 y,.int .i64 z,.int .i64 B,.int .i64 C,.int .i64 E,.int .i64 c,.int .i64 e,.int .i64 g,.int .i64 i,.int .i64 j,.int .i64 k,.int .i64 l,.int .i64 m,.int .i64 o,.int .i64 p,.int .i64 r,.list 6 s,.list 1 u]) rfl rfl) ?_
   refine zn ?_
   obtain ⟨g3,m0,h⟩:=bindS h
   refine zD (K90w hA m0) ?_ { tk:=[27] }
   refine zF ?_ { tk:=[27] }
   refine nT (zr (rT ?_))
   cases soI h
   exact zq
  ·replace h:=cF S h
   refine zU ?_
   refine zk (nT (zs (zs ?_)))
   refine zB ?_
   refine nT (zb ?_)
   obtain ⟨i3,n0,b0,Y,F⟩:=bindK h
   refine AWp.cutX 0 [] [] 8 (lb rfl) (fun τ => ∃ V,b0 (.inl V)=some (W,X)/\τ={ env:=[],heap:=[.cells [zi V],.dead,.dead,.dead,.dead,.dead,.dead,.cells [zl 1 b,zl 1 q,zi v,zi w,zi y,zi z,zi B,zi C,zi E,zi c,zi e,zi g,zi i,zi j,zi k,zi l,zi m,zi o,zi p,zi r,zl 6 s,zl 1 u]],n:=55 }) ?_ ?_
   ·skip
    refine AWp.iter n0 [1,2,3,4,5,28,29,30] [] 8 (lb rfl) (fun (U,K)=>{ env:=[(1,zi L),(2,zl 1 M),(3,zl 1 N),(4,(.func 90 [] [.ptr 0 0])),(5,.ptr 7 0),(28,zl 1 J),(29,(.d (.int .i64 (A.len J)))),(30,zi U)],heap:=[.cells [zi K],.dead,.dead,.dead,.dead,.dead,.dead,.cells [zl 1 b,zl 1 q,zi v,zi w,zi y,zi z,zi B,zi C,zi E,zi c,zi e,zi g,zi i,zi j,zi k,zi l,zi m,zi o,zi p,zi r,zl 6 s,zl 1 u]],n:=55 }) ⟨rfl,zv⟩ ?_
    rintro ⟨U,K⟩ q1 a
    dsimp only [K85L0] at a
    refine zs ?_
    refine zA ?_
    refine nT (zs ?_)
    rcases tf (A.zlt U (A.len J)) with P | P
    ·replace a:=cT P a
     refine zT ?_
     refine zk (nT (zs (zb (zs ?_))))
     obtain ⟨p1,c0,a⟩:=bindS a
     obtain ⟨r1,s1⟩:=gtI c0
     refine zB ?_
     refine nT (zs (zn ?_))
     obtain ⟨⟨o0,p0,q0,r0,s0,u0,v0,w0,y0,z0,a1,b1,c1,d1,e1,g1,i1,j1,k1,l1,m1,n1⟩,d0,a⟩:=bindS a
     refine zD (ACall.shift (K124w hA d0) rfl rfl [.cells [zi K],.dead,.dead,.dead,.dead,.dead,.dead,.cells [zl 1 b,zl 1 q,zi v,zi w,zi y,zi z,zi B,zi C,zi E,zi c,zi e,zi g,zi i,zi j,zi k,zi l,zi m,zi o,zi p,zi r,zl 6 s,zl 1 u]] rfl rfl rfl rfl) ?_ { tk:=[35],esc:=[14] }
     refine zF ?_ { tk:=[35],esc:=[14] }
     refine nT (zs (zn ?_))
     obtain ⟨⟨e2,g2,i2,j2,k2,l2,m2,n2,o2,p2,q2,r2,s2,u2,v2,w2,y2,z2,a3,b3,c3,d3⟩,e0,a⟩:=bindS a
     refine zD (ACall.emb (K71w hA e0) [some 14,some 8,some 9,some 10,some 11,some 12,some 13] [.cells [zi K],.dead,.dead,.dead,.dead,.dead,.dead,.cells [zl 1 b,zl 1 q,zi v,zi w,zi y,zi z,zi B,zi C,zi E,zi c,zi e,zi g,zi i,zi j,zi k,zi l,zi m,zi o,zi p,zi r,zl 6 s,zl 1 u],.gro 6 m1,.dead,.dead,.gro 1 n1,.dead,.dead,.cells [zl 1 o0,zl 1 p0,zi q0,zi r0,zi s0,zi u0,zi v0,zi w0,zi y0,zi z0,zi a1,zi b1,zi c1,zi d1,zi e1,zi g1,zi i1,zi j1,zi k1,zi l1,.gref 8 6,.gref 11 1]] rfl rfl rfl rfl rfl rfl rfl) ?_
     refine zF ?_
     refine nT (zs ?_)
     refine AWp.weak (Wk.freezeG 14 20 rfl rfl rfl) ?_
     refine AWp.weak (Wk.freezeG 14 21 rfl rfl rfl) ?_
     refine AWp.regionDraw rfl (lb rfl) ?_
     obtain ⟨c2,g0,a⟩:=bindS a
     obtain ⟨u1,v1,w1,y1⟩:=slI g0
     obtain ⟨_,i0,a⟩:=bindS a
     have z1:=ckI i0
     obtain ⟨d2,j0,a⟩:=bindS a
     obtain ⟨a2,b2⟩:=apI j0
     obtain ⟨⟨o1,e3⟩,k0,a⟩:=bindS a
     refine DOps.cl hT hA {} rfl zu (K85aw hA k0) rfl rfl rfl rfl rfl (lb rfl) rfl rfl ?_
     refine DOps.cd hT hA {} rfl zu (by kernel_rfl) ?_
     refine nT ?_
     rcases tf o1 with Q | Q
     ·replace a:=cT Q a
      refine zU ?_
      refine zk (nB (nT ?_))
      refine zB ?_
      exact nT ⟨_,(soI a).symm,rfl,zv⟩
     ·replace a:=cF Q a
      refine zT ?_
      refine zs ?_
      refine zB ?_
      refine nT (zr (rB (rT (rT ?_))))
      refine exL a fun hx => ?_
      subst hx
      refine oxR ?_
      replace F:=(eR (Y _ F))
      refine rB (rT ?_)
      cases soI F
      exact zq
    ·replace a:=cF P a
     refine zU ?_
     refine AWp.exit (xT (xT ?_))
     refine exL a fun hx => ?_
     subst hx
     exact oxI ⟨rfl,_,F,zv⟩
   ·rintro _ ⟨V,F,rfl⟩
    have h:=(eL (Y _ F))
    refine xB (nT (zs ?_))
    refine zA ?_
    refine nT (zr ?_)
    cases soI h
    exact zq

theorem K36w {A:Ar} (hA:SA A) {g i:List D} {j c e:Int} (h:K36 A g i j=some (c,e)):ACall Try.prog 36 [zl 1 g,zl 1 i,zi j] [] (.tuple [zi c,zi e]) []:=by
 unfold K36 at h
 refine zI Try.func36 ?_
 refine zs ?_
 refine zA ?_
 refine nT (zs (zs (zn ?_)))
 obtain ⟨o,m,h⟩:=bindS h
 refine zC (K89w hA m) ?_
 refine zE ?_
 refine nT (zb (zs ?_))
 refine zA ?_
 refine nT ?_
 rcases tf (A.zeq o 0) with a | a
 ·replace h:=cT a h
  refine zU ?_
  refine zs (zn ?_)
  obtain ⟨p,n,h⟩:=bindS h
  refine zD (K84w hA n) ?_
  refine zF ?_
  refine nT ?_
  rcases tf p with b | b
  ·replace h:=cT b h
   refine zU ?_
   refine zk (nB (nT (zs ?_)))
   refine zB ?_ { esc:=[9] }
   refine nT (zs (zn ?_))
   obtain ⟨⟨q,r⟩,k,h⟩:=bindS h
   refine zD (ACall.shift (K69w hA k) rfl rfl [.cells [zi 0]] rfl rfl rfl rfl) ?_
   obtain ⟨⟨s,u⟩,l,h⟩:=bindS h
   refine zD (K85w hA l) ?_
   refine zF ?_
   refine nT (zs ?_)
   refine zB ?_
   refine nT (zr ?_)
   cases soI h
   exact zq
  ·replace h:=cF b h
   refine zT ?_
   refine zs ?_
   refine zB ?_
   refine nT (zr (rB (rT ?_)))
   cases soI h
   exact zq
 ·replace h:=cF a h
  refine zT ?_
  refine zs ?_
  refine zB ?_
  refine nT (zr (rB (rT ?_)))
  cases soI h
  exact zq

theorem K51w {A:Ar} (hA:SA A) {c e i:Int} {g:Bool} (h:K51 A c e i=some g):ACall Try.prog 51 [zi c,zi e,zi i] [] (.d (.bool g)) []:=by
 unfold K51 at h
 refine zI Try.func51 ?_
 refine zs ?_
 refine zA ?_
 refine nT (zs ?_)
 obtain ⟨j,a,h⟩:=bindS h
 refine AWp.cutN [6] [] 0 (lb rfl) (fun τ=>τ={ env:=[(6,.d (.bool j))],heap:=[],n:=15 }) ?_ ?_
 ·skip
  rcases tf (A.zle c e) with b | b
  ·replace a:=cT b a
   refine zB ?_ { tk:=[14] }
   cases soI a
   exact zO
  ·replace a:=cF b a
   refine zB ?_ { tk:=[14] }
   cases soI a
   exact zO
 ·rintro _ rfl
  refine nT (zr ?_)
  cases soI h
  exact zq

theorem K111w {A:Ar} (hA:SA A) {b:Int} {a:Bool} (h:K111 A b=some a):ACall Try.prog 111 [zi b] [] (.d (.bool a)) []:=by
 unfold K111 at h
 refine zI Try.func111 ?_
 refine zs ?_
 refine zA ?_
 refine nT (zs (zn ?_))
 obtain ⟨e,c,h⟩:=bindS h
 refine zC (K51w hA c) ?_ { tk:=[4] }
 refine zE ?_ { tk:=[4] }
 refine nT (zr ?_)
 cases soI h
 exact zq

theorem K82w {A:Ar} (hA:SA A) {b:Int} {a:Bool} (h:K82 A b=some a):ACall Try.prog 82 [zi b] [] (.d (.bool a)) []:=by
 unfold K82 at h
 refine zI Try.func82 ?_
 refine zs ?_
 refine zA ?_
 refine nT (zs (zn ?_))
 obtain ⟨e,c,h⟩:=bindS h
 refine zC (K51w hA c) ?_ { tk:=[4] }
 refine zE ?_ { tk:=[4] }
 refine nT (zr ?_)
 cases soI h
 exact zq

theorem K112w {A:Ar} (hA:SA A) {b:Int} {a:Bool} (h:K112 A b=some a):ACall Try.prog 112 [zi b] [] (.d (.bool a)) []:=by
 unfold K112 at h
 refine zI Try.func112 ?_
 refine zs ?_
 refine zA ?_
 refine nT (zs (zn ?_))
 obtain ⟨e,c,h⟩:=bindS h
 refine zC (K51w hA c) ?_ { tk:=[4] }
 refine zE ?_ { tk:=[4] }
 refine nT (zr ?_)
 cases soI h
 exact zq

theorem K52w {A:Ar} (hA:SA A) {k P N Q R:Int} {O:Bool} (h:K52 A k P N Q R=some O):ACall Try.prog 52 [.d (.agg [.int .i64 k,.int .i64 P,.int .i64 N,.int .i64 Q]),zi R] [] (.d (.bool O)) []:=by
 unfold K52 at h
 refine zI Try.func52 ?_
 refine zs ?_
 refine zA ?_
 refine nT (zs (zs ?_))
 refine zA ?_
 refine nT (zb (zs ?_))
 refine zA ?_
 refine nT ?_
 rcases tf (A.zeq k 1) with F | F
 ·replace h:=cT F h
  refine zT ?_
  refine zs ?_
  obtain ⟨y0,c,h⟩:=bindS h
  refine AWp.cutN [4] [] 0 (lb rfl) (fun τ=>τ={ env:=[(4,.d (.bool y0))],heap:=[],n:=114 }) ?_ ?_
  ·skip
   refine zn ?_
   obtain ⟨r8,e7,c⟩:=bindS c
   refine zD (K111w hA e7) ?_ { tk:=[21] }
   rcases tf r8 with M | M
   ·replace c:=cT M c
    obtain ⟨k0,S,c⟩:=bindS c
    refine zD (K82w hA S) ?_ { tk:=[21] }
    rcases tf k0 with l | l
    ·replace c:=cT l c
     refine zF ?_ { tk:=[21] }
     cases soI c
     exact zO
    ·replace c:=cF l c
     refine zF ?_ { tk:=[21] }
     cases soI c
     exact zO
   ·replace c:=cF M c
    refine zF ?_ { tk:=[21] }
    cases soI c
    exact zO
  ·rintro _ rfl
   refine nT (zr (rB (rT ?_)))
   cases soI h
   exact zq
 ·replace h:=cF F h
  refine zU ?_
  refine zs ?_
  refine zB ?_
  refine nT ?_
  rcases tf (A.zeq k 2) with m | m
  ·replace h:=cT m h
   refine zT ?_
   refine zs ?_
   obtain ⟨z0,e,h⟩:=bindS h
   refine AWp.cutN [4] [] 0 (lb rfl) (fun τ=>τ={ env:=[(4,.d (.bool z0))],heap:=[],n:=114 }) ?_ ?_
   ·skip
    refine zn ?_
    obtain ⟨l0,U,e⟩:=bindS e
    refine zD (K82w hA U) ?_ { tk:=[36] }
    rcases tf l0 with o | o
    ·replace e:=cT o e
     obtain ⟨m0,V,e⟩:=bindS e
     refine zD (K111w hA V) ?_ { tk:=[36] }
     rcases tf m0 with p | p
     ·replace e:=cT p e
      refine zF ?_ { tk:=[36] }
      cases soI e
      exact zO
     ·replace e:=cF p e
      refine zF ?_ { tk:=[36] }
      cases soI e
      exact zO
    ·replace e:=cF o e
     refine zF ?_ { tk:=[36] }
     cases soI e
     exact zO
   ·rintro _ rfl
    refine nT (zr (rB (rT ?_)))
    cases soI h
    exact zq
  ·replace h:=cF m h
   refine zU ?_
   refine zs ?_
   refine zB ?_
   refine nT ?_
   rcases tf (A.zeq k 3) with q | q
   ·replace h:=cT q h
    refine zT ?_
    refine zs ?_
    obtain ⟨a1,a,h⟩:=bindS h
    refine AWp.cutN [4] [] 0 (lb rfl) (fun τ=>τ={ env:=[(4,.d (.bool a1))],heap:=[],n:=114 }) ?_ ?_
    ·skip
     refine zn ?_
     obtain ⟨n0,W,a⟩:=bindS a
     refine zD (K82w hA W) ?_ { tk:=[51] }
     rcases tf n0 with r | r
     ·replace a:=cT r a
      obtain ⟨o0,X,a⟩:=bindS a
      refine zD (K111w hA X) ?_ { tk:=[51] }
      rcases tf o0 with s | s
      ·replace a:=cT s a
       obtain ⟨g1,Y,a⟩:=bindS a
       refine zD (K111w hA Y) ?_ { tk:=[51] }
       refine zF ?_ { tk:=[51] }
       cases soI a
       exact zO
      ·replace a:=cF s a
       refine zF ?_ { tk:=[51] }
       cases soI a
       exact zO
     ·replace a:=cF r a
      refine zF ?_ { tk:=[51] }
      cases soI a
      exact zO
    ·rintro _ rfl
     refine nT (zr (rB (rT ?_)))
     cases soI h
     exact zq
   ·replace h:=cF q h
    refine zU ?_
    refine zs ?_
    refine zB ?_
    refine nT ?_
    rcases tf (A.zeq k 4) with u | u
    ·replace h:=cT u h
     refine zT ?_
     refine zs ?_
     obtain ⟨b1,g,h⟩:=bindS h
     refine AWp.cutN [4] [] 0 (lb rfl) (fun τ=>τ={ env:=[(4,.d (.bool b1))],heap:=[],n:=114 }) ?_ ?_
     ·skip
      refine zn ?_
      obtain ⟨p0,a0,g⟩:=bindS g
      refine zD (K111w hA a0) ?_ { tk:=[66] }
      rcases tf p0 with v | v
      ·replace g:=cT v g
       obtain ⟨q0,b0,g⟩:=bindS g
       refine zD (K112w hA b0) ?_ { tk:=[66] }
       rcases tf q0 with w | w
       ·replace g:=cT w g
        refine zF ?_ { tk:=[66] }
        cases soI g
        exact zO
       ·replace g:=cF w g
        refine zF ?_ { tk:=[66] }
        cases soI g
        exact zO
      ·replace g:=cF v g
       refine zF ?_ { tk:=[66] }
       cases soI g
       exact zO
     ·rintro _ rfl
      refine nT (zr (rB (rT ?_)))
      cases soI h
      exact zq
    ·replace h:=cF u h
     refine zU ?_
     refine zs ?_
     refine zB ?_
     refine nT ?_
     rcases tf (A.zeq k 5) with y | y
     ·replace h:=cT y h
      refine zT ?_
      refine zs ?_
      obtain ⟨c1,b,h⟩:=bindS h
      refine AWp.cutN [4] [] 0 (lb rfl) (fun τ=>τ={ env:=[(4,.d (.bool c1))],heap:=[],n:=114 }) ?_ ?_
      ·skip
       refine zn ?_
       obtain ⟨r0,c0,b⟩:=bindS b
       refine zD (K111w hA c0) ?_ { tk:=[81] }
       rcases tf r0 with z | z
       ·replace b:=cT z b
        obtain ⟨s0,d0,b⟩:=bindS b
        refine zD (K111w hA d0) ?_ { tk:=[81] }
        rcases tf s0 with B | B
        ·replace b:=cT B b
         obtain ⟨i1,e0,b⟩:=bindS b
         refine zD (K111w hA e0) ?_ { tk:=[81] }
         refine zF ?_ { tk:=[81] }
         cases soI b
         exact zO
        ·replace b:=cF B b
         refine zF ?_ { tk:=[81] }
         cases soI b
         exact zO
       ·replace b:=cF z b
        refine zF ?_ { tk:=[81] }
        cases soI b
        exact zO
      ·rintro _ rfl
       refine nT (zr (rB (rT ?_)))
       cases soI h
       exact zq
     ·replace h:=cF y h
      refine zU ?_
      refine zs ?_
      refine zB ?_
      refine nT ?_
      rcases tf (A.zeq k 6) with C | C
      ·replace h:=cT C h
       refine zT ?_
       refine zs ?_
       obtain ⟨d1,i,h⟩:=bindS h
       refine AWp.cutN [4] [] 0 (lb rfl) (fun τ=>τ={ env:=[(4,.d (.bool d1))],heap:=[],n:=114 }) ?_ ?_
       ·skip
        refine zn ?_
        obtain ⟨u0,g0,i⟩:=bindS i
        refine zD (K111w hA g0) ?_ { tk:=[98] }
        rcases tf u0 with E | E
        ·replace i:=cT E i
         obtain ⟨v0,i0,i⟩:=bindS i
         refine zD (K51w hA i0) ?_ { tk:=[98] }
         rcases tf v0 with G | G
         ·replace i:=cT G i
          refine zF ?_ { tk:=[98] }
          cases soI i
          exact zO
         ·replace i:=cF G i
          refine zF ?_ { tk:=[98] }
          cases soI i
          exact zO
        ·replace i:=cF E i
         refine zF ?_ { tk:=[98] }
         cases soI i
         exact zO
       ·rintro _ rfl
        refine nT (zr (rB (rT ?_)))
        cases soI h
        exact zq
      ·replace h:=cF C h
       refine zU ?_
       refine zs ?_
       refine zB ?_
       refine nT ?_
       rcases tf (A.zeq k 7) with J | J
       ·replace h:=cT J h
        refine zT ?_
        refine zs ?_
        obtain ⟨e1,j,h⟩:=bindS h
        refine AWp.cutN [4] [] 0 (lb rfl) (fun τ=>τ={ env:=[(4,.d (.bool e1))],heap:=[],n:=114 }) ?_ ?_
        ·skip
         refine zn ?_
         obtain ⟨w0,j0,j⟩:=bindS j
         refine zD (K111w hA j0) ?_ { tk:=[113] }
         rcases tf w0 with K | K
         ·replace j:=cT K j
          rcases tf (A.zeq N 0) with L | L
          ·replace j:=cT L j
           refine zF ?_ { tk:=[113] }
           cases soI j
           exact zO
          ·replace j:=cF L j
           refine zF ?_ { tk:=[113] }
           cases soI j
           exact zO
         ·replace j:=cF K j
          refine zF ?_ { tk:=[113] }
          cases soI j
          exact zO
        ·rintro _ rfl
         refine nT (zr (rB (rT ?_)))
         cases soI h
         exact zq
       ·replace h:=cF J h
        refine zU ?_
        refine zk (nB (nT (zs ?_)))
        refine zB ?_
        refine nT (zr ?_)
        cases soI h
        exact zq

theorem K16w {A:Ar} (hA:SA A) {g:List D} {s:Bool} (h:K16 A g=some s):ACall Try.prog 16 [zl 1 g] [] (.d (.bool s)) []:=by
 unfold K16 at h
 refine zI Try.func16 ?_
 refine zs ?_
 refine zA ?_
 refine nT (zs (zs (zn ?_)))
 obtain ⟨M,z,h⟩:=bindS h
 refine zC (K51w hA z) ?_
 refine zE ?_
 refine nT ?_
 rcases tf M with k | k
 ·replace h:=cT k h
  refine zU ?_
  refine zk (nT (zs (zs ?_)))
  refine zB ?_
  refine nT (zb ?_)
  obtain ⟨j0,L,v,j,c⟩:=bindK h
  refine AWp.cutX 0 [] [] 0 (lb rfl) (fun τ=>v (.inl ())=some s/\τ={ env:=[],heap:=[],n:=59 }) ?_ ?_
  ·skip
   refine AWp.iter L [0,3] [] 0 (lb rfl) (fun i=>{ env:=[(0,zl 1 g),(3,zi i)],heap:=[],n:=59 }) ⟨rfl,zv⟩ ?_
   rintro i J a
   dsimp only [K16L1] at a
   refine zs (zs ?_)
   refine zA ?_
   refine nT ?_
   rcases tf (A.zlt i (A.len g)) with l | l
   ·replace a:=cT l a
    refine zT ?_
    refine zk (nT (zs (zb (zs (zs (zn ?_))))))
    obtain ⟨w,B,a⟩:=bindS a
    obtain ⟨Y,a0⟩:=gtI B
    obtain ⟨N,C,a⟩:=bindS a
    refine zD (K51w hA C) ?_
    refine zF ?_
    refine nT ?_
    rcases tf N with m | m
    ·replace a:=cT m a
     refine zU ?_
     refine zk (nT (zs (zs ?_)))
     refine zB ?_
     refine nT (zb ?_)
     obtain ⟨i0,K,K77,u,e⟩:=bindK a
     refine AWp.cutX 2 [0,3] [] 0 (lb rfl) (fun τ=>K77 (.inl ())=some J/\τ={ env:=[(0,zl 1 g),(3,zi i)],heap:=[],n:=59 }) ?_ ?_
     ·skip
      refine AWp.iter K [0,3,4] [] 0 (lb rfl) (fun r=>{ env:=[(0,zl 1 g),(3,zi i),(4,zi r)],heap:=[],n:=59 }) ⟨rfl,zv⟩ ?_
      rintro r X b
      dsimp only [K16L0] at b
      refine zs (zs ?_)
      refine zB ?_
      refine nT ?_
      rcases tf (A.zlt r (A.len w)) with o | o
      ·replace b:=cT o b
       refine zT ?_
       refine zk (nT (zs (zb (zs ?_))))
       refine AWp.regionDraw rfl (lb rfl) ?_
       obtain ⟨⟨P,Q,R,S⟩,E,b⟩:=bindS b
       obtain ⟨b0,d0⟩:=gtI E
       obtain ⟨O,F,b⟩:=bindS b
       refine DOps.c0 hT hA {} rfl zu (K52w hA F) rfl rfl (lb rfl) rfl rfl ?_
       refine DOps.cd hT hA {} rfl zu (by kernel_rfl) ?_
       refine nT ?_
       rcases tf O with p | p
       ·replace b:=cT p b
        refine zU ?_
        refine zk (nB (nT ?_))
        refine zB ?_
        exact nT ⟨_,(soI b).symm,rfl,zv⟩
       ·replace b:=cF p b
        refine zT ?_
        refine zs ?_
        refine zB ?_
        refine nT (zr (rB (rT (rT ?_))))
        refine exL b fun hx => ?_
        subst hx
        refine oxR ?_
        replace e:=(eR (u _ e))
        refine rB (rT (rB (rT (rT ?_))))
        refine exL e fun hx => ?_
        subst hx
        refine oxR ?_
        replace c:=(eR (j _ c))
        refine rB (rT ?_)
        cases soI c
        exact zq
      ·replace b:=cF o b
       refine zU ?_
       refine AWp.exit (xT (xT ?_))
       refine exL b fun hx => ?_
       subst hx
       exact oxI ⟨rfl,e,zv⟩
     ·rintro _ ⟨e,rfl⟩
      have a:=(eL (u _ e))
      refine xB (nT (zs ?_))
      obtain ⟨⟨y,U,V,W⟩,G,a⟩:=bindS a
      obtain ⟨e0,g0⟩:=gtI G
      refine AWp.rd hT hA {} rfl zu (by kernel_rfl) (lb rfl) ?_
      refine nT ?_
      rcases tf (A.zeq y 7) with q | q
      ·replace a:=cT q a
       refine zU ?_
       refine zk (nB (nT ?_))
       refine zB ?_
       exact nT ⟨_,(soI a).symm,rfl,zv⟩
      ·replace a:=cF q a
       refine zT ?_
       refine zs ?_
       refine zB ?_
       refine nT (zr (rB (rT (rT ?_))))
       refine exL a fun hx => ?_
       subst hx
       refine oxR ?_
       replace c:=(eR (j _ c))
       refine rB (rT ?_)
       cases soI c
       exact zq
    ·replace a:=cF m a
     refine zT ?_
     refine zs ?_
     refine zB ?_
     refine nT (zr (rT (rB (rT (rT ?_)))))
     refine exL a fun hx => ?_
     subst hx
     refine oxR ?_
     replace c:=(eR (j _ c))
     refine rB (rT ?_)
     cases soI c
     exact zq
   ·replace a:=cF l a
    refine zU ?_
    refine AWp.exit (xT (xT ?_))
    refine exL a fun hx => ?_
    subst hx
    exact oxI ⟨rfl,c,zv⟩
  ·rintro _ ⟨c,rfl⟩
   have h:=(eL (j _ c))
   refine xB (nT (zs ?_))
   refine zA ?_
   refine nT (zr ?_)
   cases soI h
   exact zq
 ·replace h:=cF k h
  refine zT ?_
  refine zs ?_
  refine zB ?_
  refine nT (zr (rT ?_))
  cases soI h
  exact zq
end Go.Am
