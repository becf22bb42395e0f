import Derived.Test.YtkjeamngjnfpkaaGreatGenw7
set_option maxRecDepth 100000
set_option maxHeartbeats 2000000
set_option linter.unusedVariables false
set_option linter.unusedSimpArgs false
namespace Go.Am
open Go Go.Proofs
theorem c5k {A:Ar} (hA:SA A) {e g:Int} {i j m n:List D} {o:Int} {k:List D} {l:Int} (h:Z11 A e g i j m n o=some (k,l)):a0c Tryz.prog 11 [.d (.agg [.int .i64 e,.int .i64 g,.list 1 i,.list 1 j]),zl 1 m,zl 1 n,zi o] [] (.tuple [zl 1 k,zi l]) []:=by
 unfold Z11 at h;refine zI Tryz.func11 ?_;refine zs (zA (nT ?_));refine AWp.freezeBox 4 [.int .i64 e,.int .i64 g,.list 1 i,.list 1 j] rfl rfl ?_;refine zs (zs (zn ?_));obtain ⟨y,u,h⟩:=a0a h;refine zC (c4Z hA u) ?_;refine zE (nT (zb (zs ?_)));refine zA (nT ?_);rcases tf (A.zeq y 0) with a | a
 ·replace h:=cT a h;refine zU (zs (zn ?_));obtain ⟨v,p,h⟩:=a0a h;refine zD (c5i hA p) ?_;refine zF (nT ?_);rcases tf v with b | b
  ·replace h:=cT b h;refine zU (zk (nB (nT (zs ?_))));refine zB (nT (zs ?_)) { esc:=[11] };refine zB (nT (zs ?_)) { tk:=[26],esc:=[12] };refine AWp.weak (Wk.softC 0 0 rfl rfl rfl) ?_;refine zn ?_;obtain ⟨⟨z,B⟩,q,h⟩:=a0a h;refine zD (a0c.shift (b9Z hA q) rfl rfl [(.cells [.d (.list 1 [])]),(.map true [.int .i64,.int .i64,.int .i64,.int .i64,.int .i64,.int .i64,.int .i64,.int .i64,.int .i64,.int .i64,.int .i64,.int .i64,.int .i64,.int .i64,.int .i64,.int .i64,.int .i64,.int .i64,.int .i64,.int .i64,.int .i64,.int .i64,.int .i64,.int .i64,.int .i64,.int .i64,.int .i64,.int .i64,.int .i64,.int .i64,.int .i64,.int .i64,.int .i64,.int .i64,.int .i64,.int .i64] []),(.cells [(.map 1)])] rfl rfl rfl rfl) ?_;obtain ⟨⟨w,C,E⟩,r,h⟩:=a0a h;refine zD (c4r hA r) ?_;refine zF (nT (zs (zs ?_)));refine zB (nT ?_);rcases tf w with c | c
   ·replace h:=cT c h;refine zT (zs ?_);refine zB (nT (zr (rT ?_)));cases soI h;exact zq
   replace h:=cF c h;refine zU (zk (nT (zs (zn ?_))));obtain ⟨F,s,h⟩:=a0a h;refine zD (c5f hA s) ?_;refine zF (nT (zr ?_));cases soI h;exact zq
  replace h:=cF b h;refine zT (zs ?_);refine zB (nT (zr (rB (rT ?_))));cases soI h;exact zq
 replace h:=cF a h;refine zT (zs ?_);refine zB (nT (zr (rB (rT ?_))));cases soI h;exact zq

theorem c5l {A:Ar} (hA:SA A) {e g:Int} {i j k l:List D} {m:Int} {b:Bool} {c:Int} (h:Z10 A e g i j k l m=some (b,c)):a0c Tryz.prog 10 [.d (.agg [.int .i64 e,.int .i64 g,.list 1 i,.list 1 j]),zl 1 k,zl 1 l,zi m] [] (.tuple [.d (.bool b),zi c]) []:=by
 unfold Z10 at h;refine zI Tryz.func10 ?_;refine zs (zA (nT (zs (zn ?_))));obtain ⟨⟨p,o⟩,n,h⟩:=a0a h;refine zC (c5k hA n) ?_;refine zE (nT (zs (zs ?_)));refine zA (nT ?_);rcases tf (A.zeq o 5) with a | a
 ·replace h:=cT a h;refine zT (zs ?_);refine zB (nT (zr (rT ?_)));cases soI h;exact zq
 replace h:=cF a h;refine zU (zk (nT (zs ?_)));refine zB (nT (zr ?_));cases soI h;exact zq

theorem c5Z {A:Ar} (hA:SA A) {e g:List D} {b:Bool} {c:Int} (h:Z13 A e g=some (b,c)):a0c Tryz.prog 13 [zl 4 e,zl 6 g] [] (.tuple [.d (.bool b),zi c]) []:=by
 unfold Z13 at h;refine zI Tryz.func13 ?_;refine zs (zA (nT (zs (zs (zn ?_)))));obtain ⟨k,i,h⟩:=a0a h;refine zC (c3S hA i) ?_;refine zE (nT ?_);rcases tf k with a | a
 ·replace h:=cT a h;refine zU (zk (nT (zs (zn ?_))));obtain ⟨l,j,h⟩:=a0a h;refine zD (c5d hA j) ?_;refine zF (nT (zr ?_));cases soI h;exact zq
 replace h:=cF a h;refine zT (zs ?_);refine zB (nT (zr (rT ?_)));cases soI h;exact zq

theorem Z3w {A:Ar} (hA:SA A) {o p:Int} {q r z C:List D} {F G J E w1:Int} {m0:Bool} (h:Z3 A o p q r z C F G J E w1=some m0):a0c Tryz.prog 3 [.d (.agg [.int .i64 o,.int .i64 p,.list 1 q,.list 1 r,.list 1 z,.list 1 C]),.d (.agg [.int .u8 F,.int .u8 G,.int .u8 J,.int .u8 E]),.d (.int .u8 w1)] [] (.d (.bool m0)) []:=by
 unfold Z3 at h;refine zI Tryz.func3 ?_;refine zs (zA (nT (zs (zs (zn ?_)))));obtain ⟨r4,b2,h⟩:=a0a h;refine zC (Z8w hA b2) ?_;refine zE (nT ?_);rcases tf r4 with c | c
 ·replace h:=cT c h;refine zU ?_ (hb:=(by first | rfl | simp only [c,zqa,zqb,zqc,zqd]))
  refine zk (nT (zs ?_));obtain ⟨_,i2,h⟩:=a0a h;have y3:=nkI i2;refine zA ?_ (h:=(by (repeat (cbv;simp only [c,y3]));try cbv))
  refine nT (zs (zn ?_));obtain ⟨⟨e0,s4⟩,o2,h⟩:=a0a h;refine zC (c5l hA o2) ?_ (h:=(by (repeat (cbv;simp only [c]));try cbv))
  refine zE ?_ (h:=(by (repeat (cbv;simp only [c]));try cbv))
  refine nT (zs (zn ?_));obtain ⟨⟨k0,q1⟩,y2,h⟩:=a0a h;refine zC (c5k hA y2) ?_ (h:=(by (repeat (cbv;simp only [c]));try cbv))
  refine zE ?_ (h:=(by (repeat (cbv;simp only [c]));try cbv))
  refine nT (zs (zn ?_));obtain ⟨⟨l0,b5⟩,c3,h⟩:=a0a h;refine zC (c5Y hA c3) ?_ (h:=(by (repeat (cbv;simp only [c]));try cbv))
  refine zE ?_ (h:=(by (repeat (cbv;simp only [c]));try cbv))
  refine nT (zs (zs ?_));obtain ⟨s1,j,h⟩:=a0a h;refine zN [3,4,8,10,12,87] [] 0 (fun τ=>τ=⟨[(3,(.lbox [zi o,zi p,zl 1 q,zl 1 r,zl 1 z,zl 1 C])),(4,(.lbox [.d (.int .u8 F),.d (.int .u8 G),.d (.int .u8 J),.d (.int .u8 E)])),(8,.d (.bool e0)),(10,zl 1 k0),(12,zl 1 l0),(87,.d (.bool s1))],[],236⟩) ?_ ?_
  ·rcases tf (A.zeq s4 0) with B | B
   ·replace j:=cT B j;rcases tf (A.zeq b5 0) with L | L
    ·replace j:=cT L j;rcases tf (A.zeq q1 0) with R | R
     ·replace j:=cT R j;refine zA ?_ (h:=(by (repeat (cbv;simp only [c,B,L,R]));try cbv))
      cases soI j;exact (zO (g:=(by first | (cbv;done) | ((repeat (cbv;simp only [c,B,L,R]));try cbv))))
     replace j:=cF R j;rcases tf (A.zeq q1 5) with Y | Y
     ·replace j:=cT Y j;refine zA ?_ (h:=(by (repeat (cbv;simp only [c,B,L,R,Y]));try cbv))
      cases soI j;exact (zO (g:=(by first | (cbv;done) | ((repeat (cbv;simp only [c,B,L,R,Y]));try cbv))))
     replace j:=cF Y j;refine zA ?_ (h:=(by (repeat (cbv;simp only [c,B,L,R,Y]));try cbv))
     cases soI j;exact (zO (g:=(by first | (cbv;done) | ((repeat (cbv;simp only [c,B,L,R,Y]));try cbv))))
    replace j:=cF L j;refine zA ?_ (h:=(by (repeat (cbv;simp only [c,B,L]));try cbv))
    cases soI j;exact (zO (g:=(by first | (cbv;done) | ((repeat (cbv;simp only [c,B,L]));try cbv))))
   replace j:=cF B j;refine zA ?_ (h:=(by (repeat (cbv;simp only [c,B]));try cbv))
   cases soI j;exact (zO (g:=(by first | (cbv;done) | ((repeat (cbv;simp only [c,B]));try cbv))))
  rintro _ rfl;refine nT ?_;rcases tf s1 with P | P
  ·replace h:=cT P h;refine zT ?_ (hb:=(by first | rfl | simp only [P,zqa,zqb,zqc,zqd]))
   refine zs ?_;refine zA ?_ (h:=(by (repeat (cbv;simp only [P]));try cbv))
   refine nT (zr (rT ?_));cases soI h;exact zq
  replace h:=cF P h;refine zU ?_ (hb:=(by first | rfl | simp only [P,zqa,zqb,zqc,zqd]))
  refine zk (nT (zs ?_));refine zA ?_ (h:=(by (repeat (cbv;simp only [P]));try cbv))
  refine nT (zs ?_);refine zA ?_ (h:=(by (repeat (cbv;simp only [P]));try cbv))
  refine nT (zs (zs ?_));refine zA ?_ (h:=(by (repeat (cbv;simp only [P]));try cbv))
  refine nT (zb ?_);obtain ⟨j6,q4,z1,p1,g0⟩:=a0z h;refine zM 0 [3,4,8,10,14,15] [] 0 (fun τ => ∃ w0,z1 (.inl w0)=some m0/\τ=⟨[(3,(.lbox [zi o,zi p,zl 1 q,zl 1 r,zl 1 z,zl 1 C])),(4,(.lbox [.d (.int .u8 F),.d (.int .u8 G),.d (.int .u8 J),.d (.int .u8 E)])),(8,.d (.bool e0)),(10,zl 1 k0),(14,.d (.list 4 [.agg [.int .i64 o,.int .i64 p,.list 1 q,.list 1 r]])),(15,.d (.bool w0))],[],236⟩) ?_ ?_
  ·refine zP q4 [3,4,8,10,12,14,15,16] [] 0 (fun (v0,n0)=>⟨[(3,(.lbox [zi o,zi p,zl 1 q,zl 1 r,zl 1 z,zl 1 C])),(4,(.lbox [.d (.int .u8 F),.d (.int .u8 G),.d (.int .u8 J),.d (.int .u8 E)])),(8,.d (.bool e0)),(10,zl 1 k0),(12,zl 1 l0),(14,.d (.list 4 [.agg [.int .i64 o,.int .i64 p,.list 1 q,.list 1 r]])),(15,.d (.bool v0)),(16,zi n0)],[],236⟩) ⟨rfl,(by first | (cbv;done) | ((repeat (cbv;simp only [P]));try cbv))⟩ ?_
   rintro ⟨v0,n0⟩ s5 i;dsimp only [b9q] at i;refine zs (zs (zA (nT ?_)));rcases tf (A.zlt n0 (A.len l0)) with u | u
   ·replace i:=cT u i;refine zT ?_ (hb:=(by first | rfl | simp only [u,zqa,zqb,zqc,zqd]))
    refine zk (nT (zs (zb (zs (zn ?_)))));obtain ⟨q5,d3,i⟩:=a0a i;obtain ⟨s0,u0⟩:=gtI d3;obtain ⟨⟨d6,c5⟩,e3,i⟩:=a0a i;refine zC (c5Z hA e3) ?_ (h:=(by (repeat (cbv;simp only [u,s0,u0]));try cbv))
    refine zE ?_ (h:=(by (repeat (cbv;simp only [u,s0,u0]));try cbv))
    refine nT (zs (zn ?_));obtain ⟨⟨d5,e5⟩,g3,i⟩:=a0a i;refine zC (c5e hA g3) ?_ (h:=(by (repeat (cbv;simp only [u,s0,u0]));try cbv))
    refine zE ?_ (h:=(by (repeat (cbv;simp only [u,s0,u0]));try cbv))
    refine nT (zs (zs ?_));obtain ⟨u1,N,i⟩:=a0a i;refine zN [3,4,8,10,12,14,15,16,19,124] [] 0 (fun τ=>τ=⟨[(3,(.lbox [zi o,zi p,zl 1 q,zl 1 r,zl 1 z,zl 1 C])),(4,(.lbox [.d (.int .u8 F),.d (.int .u8 G),.d (.int .u8 J),.d (.int .u8 E)])),(8,.d (.bool e0)),(10,zl 1 k0),(12,zl 1 l0),(14,.d (.list 4 [.agg [.int .i64 o,.int .i64 p,.list 1 q,.list 1 r]])),(15,.d (.bool v0)),(16,zi n0),(19,.d (.bool d5)),(124,.d (.bool u1))],[],236⟩) ?_ ?_
    ·rcases tf (A.zeq c5 0) with S | S
     ·replace N:=cT S N;rcases tf (A.zeq e5 0) with a0 | a0
      ·replace N:=cT a0 N;refine zA ?_ (h:=(by (repeat (cbv;simp only [u,S,a0]));try cbv))
       cases soI N;exact (zO (g:=(by first | (cbv;done) | ((repeat (cbv;simp only [u,S,a0]));try cbv))))
      replace N:=cF a0 N;refine zA ?_ (h:=(by (repeat (cbv;simp only [u,S,a0]));try cbv))
      cases soI N;exact (zO (g:=(by first | (cbv;done) | ((repeat (cbv;simp only [u,S,a0]));try cbv))))
     replace N:=cF S N;refine zA ?_ (h:=(by (repeat (cbv;simp only [u,S]));try cbv))
     cases soI N;exact (zO (g:=(by first | (cbv;done) | ((repeat (cbv;simp only [u,S]));try cbv))))
    rintro _ rfl;refine nT ?_;rcases tf u1 with Q | Q
    ·replace i:=cT Q i;refine zT ?_ (hb:=(by first | rfl | simp only [Q,zqa,zqb,zqc,zqd]))
     refine zs ?_;refine zA ?_ (h:=(by (repeat (cbv;simp only [Q]));try cbv))
     refine nT (zr (rT (rB (rT (rT ?_)))));refine exL i ?_;rintro rfl;refine oxR ?_;replace g0:=(eR (p1 _ g0));refine rB (rT ?_);cases soI g0;exact zq
    replace i:=cF Q i;refine zU ?_ (hb:=(by first | rfl | simp only [Q,zqa,zqb,zqc,zqd]))
    refine zk (nT ?_);obtain ⟨l5,j0,i⟩:=a0a i;refine zN [3,4,8,10,12,14,15,16] [] 0 (fun τ=>τ=⟨[(3,(.lbox [zi o,zi p,zl 1 q,zl 1 r,zl 1 z,zl 1 C])),(4,(.lbox [.d (.int .u8 F),.d (.int .u8 G),.d (.int .u8 J),.d (.int .u8 E)])),(8,.d (.bool e0)),(10,zl 1 k0),(12,zl 1 l0),(14,.d (.list 4 [.agg [.int .i64 o,.int .i64 p,.list 1 q,.list 1 r]])),(15,.d (.bool l5)),(16,zi n0)],[],236⟩) ?_ ?_
    ·rcases tf v0 with b0 | b0
     ·replace j0:=cT b0 j0;refine zA ?_ (h:=(by (repeat (cbv;simp only [Q,b0]));try cbv))
      cases soI j0;exact (zO (g:=(by first | (cbv;done) | ((repeat (cbv;simp only [Q,b0]));try cbv))))
     replace j0:=cF b0 j0;refine zA ?_ (h:=(by (repeat (cbv;simp only [Q,b0]));try cbv))
     cases soI j0;exact (zO (g:=(by first | (cbv;done) | ((repeat (cbv;simp only [Q,b0]));try cbv))))
    rintro _ rfl;refine nB (nT (zA ?_));exact nT ⟨_,(soI i).symm,rfl,zc⟩
   replace i:=cF u i;refine zU ?_ (hb:=(by first | rfl | simp only [u,zqa,zqb,zqc,zqd]))
   refine AWp.exit (xT (xT ?_));refine exL i ?_;rintro rfl;exact oxI ⟨rfl,_,g0,(by first | (cbv;done) | ((repeat (cbv;simp only [u]));try cbv))⟩
  rintro _ ⟨w0,g0,rfl⟩;have h:=(eL (p1 _ g0));refine xB (nT (zs (zs (zA (nT ?_)))));rcases tf (A.beq w0 e0) with e | e
  ·replace h:=cT e h;refine zU ?_ (hb:=(by first | rfl | simp only [e,zqa,zqb,zqc,zqd]))
   refine zk (nT (zs (zs ?_)));refine zA ?_ (h:=(by (repeat (cbv;simp only [e]));try cbv))
   refine nT ?_;obtain ⟨a2,o4,h⟩:=jnI h;refine zN [3,4] [] 0 (fun τ=>a2 ()=some m0/\τ=⟨[(3,(.lbox [zi o,zi p,zl 1 q,zl 1 r,zl 1 z,zl 1 C])),(4,(.lbox [.d (.int .u8 F),.d (.int .u8 G),.d (.int .u8 J),.d (.int .u8 E)]))],[],236⟩) ?_ ?_
   ·rcases tf e0 with m | m
    ·replace h:=cT m h;have v:=e;rw [m] at v;refine zU ?_ (hb:=(by first | rfl | simp only [e,m,v,zqa,zqb,zqc,zqd]))
     refine zk ?_;exact oNi ⟨rfl,h,(by first | (cbv;done) | ((repeat (cbv;simp only [e,m,v]));try cbv))⟩
    replace h:=cF m h;have v:=e;rw [m] at v;refine zT ?_ (hb:=(by first | rfl | simp only [e,m,v,zqa,zqb,zqc,zqd]))
    refine zs (zn ?_);obtain ⟨⟨e6,g5⟩,i3,h⟩:=a0a h;refine zC (c4Y hA i3) ?_ (h:=(by (repeat (cbv;simp only [e,m,v]));try cbv))
    refine zE ?_ (h:=(by (repeat (cbv;simp only [e,m,v]));try cbv))
    refine nT (zs (zn ?_));obtain ⟨⟨g6,i5⟩,j3,h⟩:=a0a h;refine zC (c5e hA j3) ?_ (h:=(by (repeat (cbv;simp only [e,m,v]));try cbv))
    refine zE ?_ (h:=(by (repeat (cbv;simp only [e,m,v]));try cbv))
    refine nT (zs ?_);obtain ⟨v1,O,h⟩:=a0a h;refine zN [3,4,157] [] 0 (fun τ=>τ=⟨[(3,(.lbox [zi o,zi p,zl 1 q,zl 1 r,zl 1 z,zl 1 C])),(4,(.lbox [.d (.int .u8 F),.d (.int .u8 G),.d (.int .u8 J),.d (.int .u8 E)])),(157,.d (.bool v1))],[],236⟩) ?_ ?_
    ·rcases tf (A.zeq g5 0) with U | U
     ·replace O:=cT U O;rcases tf (A.zeq i5 0) with c0 | c0
      ·replace O:=cT c0 O;refine zA ?_ (h:=(by (repeat (cbv;simp only [e,m,v,U,c0]));try cbv))
       cases soI O;exact (zO (g:=(by first | (cbv;done) | ((repeat (cbv;simp only [e,m,v,U,c0]));try cbv))))
      replace O:=cF c0 O;refine zA ?_ (h:=(by (repeat (cbv;simp only [e,m,v,U,c0]));try cbv))
      cases soI O;exact (zO (g:=(by first | (cbv;done) | ((repeat (cbv;simp only [e,m,v,U,c0]));try cbv))))
     replace O:=cF U O;refine zA ?_ (h:=(by (repeat (cbv;simp only [e,m,v,U]));try cbv))
     cases soI O;exact (zO (g:=(by first | (cbv;done) | ((repeat (cbv;simp only [e,m,v,U]));try cbv))))
    rintro _ rfl;refine nT ?_;rcases tf v1 with d0 | d0
    ·replace h:=cT d0 h;refine zT ?_ (hb:=(by first | rfl | simp only [d0,zqa,zqb,zqc,zqd]))
     refine zs ?_;refine zA ?_ (h:=(by (repeat (cbv;simp only [d0]));try cbv))
     refine nT (zr ?_);refine oNr ?_;refine rT ?_;cases soI h;exact zq
    replace h:=cF d0 h;refine zU ?_ (hb:=(by first | rfl | simp only [d0,zqa,zqb,zqc,zqd]))
    refine zk ?_;exact oNi ⟨rfl,h,(by first | (cbv;done) | ((repeat (cbv;simp only [d0]));try cbv))⟩
   rintro _ ⟨h,rfl⟩;replace h:=o4 _ h;refine nT (zs (zA (nT (zs (zs ?_)))));refine zA (nT (zb ?_));obtain ⟨i6,p4,y1,n4,y0⟩:=a0z h;refine zM 2 [3,25] [] 0 (fun τ => ∃ a1,y1 a1=some m0/\τ=⟨[(3,(.lbox [zi o,zi p,zl 1 q,zl 1 r,zl 1 z,zl 1 C])),(25,(.own 1 a1))],[],236⟩) ?_ ?_
   ·refine zP p4 [3,4,25,26] [] 0 (fun (z0,V)=>⟨[(3,(.lbox [zi o,zi p,zl 1 q,zl 1 r,zl 1 z,zl 1 C])),(4,(.lbox [.d (.int .u8 F),.d (.int .u8 G),.d (.int .u8 J),.d (.int .u8 E)])),(25,(.own 1 z0)),(26,zi V)],[],236⟩) ⟨rfl,zc⟩ ?_;rintro ⟨z0,V⟩ r5 M;dsimp only [b7Q] at M;refine zs (zs ?_);obtain ⟨r1,i0,M⟩:=a0a M;refine zN [3,4,25,26,166] [] 0 (fun τ=>τ=⟨[(3,(.lbox [zi o,zi p,zl 1 q,zl 1 r,zl 1 z,zl 1 C])),(4,(.lbox [.d (.int .u8 F),.d (.int .u8 G),.d (.int .u8 J),.d (.int .u8 E)])),(25,(.own 1 z0)),(26,zi V),(166,.d (.bool r1))],[],236⟩) ?_ ?_
    ·rcases tf (A.zlt V (A.len z)) with X | X
     ·replace i0:=cT X i0;refine zA ?_ (h:=(by (repeat (cbv;simp only [X]));try cbv))
      cases soI i0;exact (zO (g:=(by first | (cbv;done) | ((repeat (cbv;simp only [X]));try cbv))))
     replace i0:=cF X i0;refine zA ?_ (h:=(by (repeat (cbv;simp only [X]));try cbv))
     cases soI i0;exact (zO (g:=(by first | (cbv;done) | ((repeat (cbv;simp only [X]));try cbv))))
    rintro _ rfl;refine nT ?_;rcases tf r1 with w | w
    ·replace M:=cT w M;refine zT ?_ (hb:=(by first | rfl | simp only [w,zqa,zqb,zqc,zqd]))
     refine zk (nT (zs (zb ?_)));obtain ⟨j5,a,M⟩:=a0a M;refine zN [3,4,25,26] [] 0 (fun τ=>τ=⟨[(3,(.lbox [zi o,zi p,zl 1 q,zl 1 r,zl 1 z,zl 1 C])),(4,(.lbox [.d (.int .u8 F),.d (.int .u8 G),.d (.int .u8 J),.d (.int .u8 E)])),(25,(.own 1 j5)),(26,zi V)],[],236⟩) ?_ ?_
     ·rcases tf (A.zeq V 0) with o0 | o0
      ·replace a:=cT o0 a;obtain ⟨k3,l3,b1⟩:=ixF hA (n:=4) o0 (by decide);obtain ⟨m5,d2,a⟩:=a0a a;obtain ⟨m3,c1⟩:=gtI d2;have d1:=c1;rw [b1] at d1;obtain ⟨_,e2,a⟩:=a0a a;have n3:=nkI e2;obtain ⟨u5,g2,a⟩:=a0a a;obtain ⟨o3,p3⟩:=apI g2;refine zH ?_ { tk:=[25,182] } (h:=(by (repeat (cbv;simp only [w,k3,l3,b1,d1,m3,c1,n3,o3,p3]));try cbv))
       cases soI a;exact (zO (g:=(by first | (cbv;done) | ((repeat (cbv;simp only [w]));try cbv))))
      replace a:=cF o0 a;rcases tf (A.zeq V 1) with p0 | p0
      ·replace a:=cT p0 a;obtain ⟨q3,r3,e1⟩:=ixF hA (n:=4) p0 (by decide);obtain ⟨n5,j2,a⟩:=a0a a;obtain ⟨s3,g1⟩:=gtI j2;have i1:=g1;rw [e1] at i1;obtain ⟨_,k2,a⟩:=a0a a;have u3:=nkI k2;obtain ⟨v5,l2,a⟩:=a0a a;obtain ⟨v3,w3⟩:=apI l2;refine zH ?_ { tk:=[25,182] } (h:=(by (repeat (cbv;simp only [w,q3,r3,e1,i1,s3,g1,u3,v3,w3]));try cbv))
       cases soI a;exact (zO (g:=(by first | (cbv;done) | ((repeat (cbv;simp only [w]));try cbv))))
      replace a:=cF p0 a;rcases tf (A.zeq V 2) with q0 | q0
      ·replace a:=cT q0 a;obtain ⟨z3,a4,j1⟩:=ixF hA (n:=4) q0 (by decide);obtain ⟨o5,m2,a⟩:=a0a a;obtain ⟨b4,k1⟩:=gtI m2;have l1:=k1;rw [j1] at l1;obtain ⟨_,n2,a⟩:=a0a a;have c4:=nkI n2;obtain ⟨w5,p2,a⟩:=a0a a;obtain ⟨d4,e4⟩:=apI p2;refine zH ?_ { tk:=[25,182] } (h:=(by (repeat (cbv;simp only [w,z3,a4,j1,l1,b4,k1,c4,d4,e4]));try cbv))
       cases soI a;exact (zO (g:=(by first | (cbv;done) | ((repeat (cbv;simp only [w]));try cbv))))
      replace a:=cF q0 a;rcases tf (A.zeq V 3) with r0 | r0
      ·replace a:=cT r0 a;obtain ⟨g4,i4,m1⟩:=ixF hA (n:=4) r0 (by decide);obtain ⟨p5,q2,a⟩:=a0a a;obtain ⟨j4,n1⟩:=gtI q2;have o1:=n1;rw [m1] at o1;obtain ⟨_,r2,a⟩:=a0a a;have k4:=nkI r2;obtain ⟨y5,s2,a⟩:=a0a a;obtain ⟨l4,m4⟩:=apI s2;refine zH ?_ { tk:=[25,182] } (h:=(by (repeat (cbv;simp only [w,g4,i4,m1,o1,j4,n1,k4,l4,m4]));try cbv))
       cases soI a;exact (zO (g:=(by first | (cbv;done) | ((repeat (cbv;simp only [w]));try cbv))))
      replace a:=cF r0 a;cases a
     rintro _ rfl;refine nB (nT (zA ?_));exact nT ⟨_,(soI M).symm,rfl,zc⟩
    replace M:=cF w M;refine zU ?_ (hb:=(by first | rfl | simp only [w,zqa,zqb,zqc,zqd]))
    refine AWp.exit (xT (xT ?_));refine exL M ?_;rintro rfl;exact oxI ⟨rfl,_,y0,(by first | (cbv;done) | ((repeat (cbv;simp only [w]));try cbv))⟩
   rintro _ ⟨a1,y0,rfl⟩;have h:=(n4 _ y0);refine xB (nT (zs (zn ?_)));obtain ⟨⟨u4,v4⟩,u2,h⟩:=a0a h;refine zC (c5Q hA u2) ?_;refine zE (nT (zs (zn ?_)));obtain ⟨⟨w4,y4⟩,v2,h⟩:=a0a h;refine zC (c5R hA v2) ?_;refine zE (nT (zs (zn ?_)));obtain ⟨⟨z4,a5⟩,w2,h⟩:=a0a h;refine zC (c5l hA w2) ?_;refine zE (nT (zs ?_));obtain ⟨k5,b,h⟩:=a0a h;refine zN [6] [] 0 (fun τ=>τ=⟨[(6,.d (.bool k5))],[],236⟩) ?_ ?_
   ·refine zn ?_;rcases tf (A.zeq v4 0) with k | k
    ·replace b:=cT k b;rcases tf (A.zeq y4 0) with l | l
     ·replace b:=cT l b;rcases tf (A.zeq a5 0) with s | s
      ·replace b:=cT s b;rcases tf u4 with y | y
       ·replace b:=cT y b;rcases tf w4 with K | K
        ·replace b:=cT K b;rcases tf z4 with W | W
         ·replace b:=cT W b;obtain ⟨a6,z2,b⟩:=a0a b;refine zC (Z9w hA z2) ?_ { tk:=[235] } (h:=(by (repeat (cbv;simp only [k,l,s,y,K,W]));try cbv))
          refine zE ?_ { tk:=[235] } (h:=(by (repeat (cbv;simp only [k,l,s,y,K,W]));try cbv))
          cases soI b;exact (zO (g:=(by first | (cbv;done) | ((repeat (cbv;simp only [k,l,s,y,K,W]));try cbv))))
         replace b:=cF W b;refine zE ?_ { tk:=[235] } (h:=(by (repeat (cbv;simp only [k,l,s,y,K,W]));try cbv))
         cases soI b;exact (zO (g:=(by first | (cbv;done) | ((repeat (cbv;simp only [k,l,s,y,K,W]));try cbv))))
        replace b:=cF K b;obtain ⟨b6,a3,b⟩:=a0a b;refine zC (Z9w hA a3) ?_ { tk:=[235] } (h:=(by (repeat (cbv;simp only [k,l,s,y,K]));try cbv))
        refine zE ?_ { tk:=[235] } (h:=(by (repeat (cbv;simp only [k,l,s,y,K]));try cbv))
        cases soI b;exact (zO (g:=(by first | (cbv;done) | ((repeat (cbv;simp only [k,l,s,y,K]));try cbv))))
       replace b:=cF y b;obtain ⟨c6,b3,b⟩:=a0a b;refine zC (Z9w hA b3) ?_ { tk:=[235] } (h:=(by (repeat (cbv;simp only [k,l,s,y]));try cbv))
       refine zE ?_ { tk:=[235] } (h:=(by (repeat (cbv;simp only [k,l,s,y]));try cbv))
       cases soI b;exact (zO (g:=(by first | (cbv;done) | ((repeat (cbv;simp only [k,l,s,y]));try cbv))))
      replace b:=cF s b;refine zE ?_ { tk:=[235] } (h:=(by (repeat (cbv;simp only [k,l,s]));try cbv))
      cases soI b;exact (zO (g:=(by first | (cbv;done) | ((repeat (cbv;simp only [k,l,s]));try cbv))))
     replace b:=cF l b;refine zE ?_ { tk:=[235] } (h:=(by (repeat (cbv;simp only [k,l]));try cbv))
     cases soI b;exact (zO (g:=(by first | (cbv;done) | ((repeat (cbv;simp only [k,l]));try cbv))))
    replace b:=cF k b;refine zE ?_ { tk:=[235] } (h:=(by (repeat (cbv;simp only [k]));try cbv))
    cases soI b;exact (zO (g:=(by first | (cbv;done) | ((repeat (cbv;simp only [k]));try cbv))))
   rintro _ rfl;refine nT (zr ?_);cases soI h;exact zq
  replace h:=cF e h;refine zT ?_ (hb:=(by first | rfl | simp only [e,zqa,zqb,zqc,zqd]))
  refine zs ?_;refine zA ?_ (h:=(by (repeat (cbv;simp only [e]));try cbv))
  refine nT (zr (rT ?_));cases soI h;exact zq
 replace h:=cF c h;refine zT ?_ (hb:=(by first | rfl | simp only [c,zqa,zqb,zqc,zqd]))
 refine zs (zn ?_);obtain ⟨z5,c2,h⟩:=a0a h;refine zC (Z9w hA c2) ?_ { tk:=[33] } (h:=(by (repeat (cbv;simp only [c]));try cbv))
 refine zE ?_ { tk:=[33] } (h:=(by (repeat (cbv;simp only [c]));try cbv))
 refine nT (zr (rT ?_));cases soI h;exact zq
end Go.Am
