import Derived.Test.YtlljehkmemajkaaGenw3
set_option maxRecDepth 100000
set_option maxHeartbeats 2000000
set_option linter.unusedVariables false
set_option linter.unusedSimpArgs false
namespace Go.Am
open Go Go.Proofs
theorem c2X {A:Ar} (hA:SA A) {e:List D} {b:Bool} {c:Int} (h:M42 A e=some (b,c)):a0h Try.prog 42 [zl 1 e] [] (.tuple [.d (.bool b),zi c]) []:=by
 unfold M42 at h;refine zI Try.func42 ?_;refine zs (zA (nT (zs (zs (zn ?_)))));obtain ⟨l,g,h⟩:=a0a h;refine zC (c2o hA g) ?_;refine zE (nT ?_);rcases tf l with a | a
 ·replace h:=cT a h;refine zU (zk (nT (zs (zn ?_))));obtain ⟨n,i,h⟩:=a0a h;refine zD (c0N hA i) ?_;obtain ⟨o,j,h⟩:=a0a h;refine zD (c0N hA j) ?_;obtain ⟨m,k,h⟩:=a0a h;refine zD (c2S hA k) ?_;refine zF (nT (zr ?_));cases soI h;exact zq
 replace h:=cF a h;refine zT (zs ?_);refine zB (nT (zr (rT ?_)));cases soI h;exact zq

theorem c2Y {A:Ar} (hA:SA A) {w:List D} {B:Int} {L:List D} {M:Int} (h:M44 A w B=some (L,M)):a0h Try.prog 44 [zl 1 w,zi B] [] (.tuple [zl 2 L,zi M]) []:=by
 unfold M44 at h;refine zI Try.func44 ?_;refine zs (zA (nT (zs (zn ?_))));obtain ⟨r4,e3,h⟩:=a0a h;refine zC (c2T hA e3) ?_;refine zE (nT (zs (zs ?_)));refine zA (nT ?_);rcases tf (A.zeq r4 0) with j | j
 ·replace h:=cT j h;refine zU ?_ (hb:=(by first | rfl | simp only [j,zqa,zqb,zqc,zqd]))
  refine zk (nT (zs (zn ?_)));obtain ⟨C,e6,h⟩:=a0a h;refine zC (c0N hA e6) ?_ (h:=(by (repeat (cbv;simp only [j]));try cbv))
  refine zE ?_ (h:=(by (repeat (cbv;simp only [j]));try cbv))
  refine nT (zs ?_);refine zA ?_ (h:=(by (repeat (cbv;simp only [j]));try cbv))
  refine nT (zs (zs ?_));refine zA ?_ (h:=(by (repeat (cbv;simp only [j]));try cbv))
  refine nT (zb ?_);obtain ⟨g2,n1,X,l1,G⟩:=a0Q h;refine zM 0 [8] [] 0 (fun τ => ∃ K,X K=some (L,M)/\τ=⟨[(8,(.own 2 K))],[],83⟩) ?_ ?_
  ·refine zP n1 [0,1,7,8,9] [] 0 (fun (U,v)=>⟨[(0,zl 1 w),(1,zi B),(7,(.d (.int .i64 (A.len C)))),(8,(.own 2 U)),(9,zi v)],[],83⟩) ⟨rfl,(by first | (cbv;done) | ((repeat (cbv;simp only [j]));try cbv))⟩ ?_
   rintro ⟨U,v⟩ p0 p;dsimp only [b1o] at p;refine zs (zs (zA (nT ?_)));rcases tf (A.zlt v (A.len w)) with s | s
   ·replace p:=cT s p;refine zT ?_ (hb:=(by first | rfl | simp only [s,zqa,zqb,zqc,zqd]))
    refine zk (nT (zs (zb (zs ?_))));refine zA ?_ (h:=(by (repeat (cbv;simp only [s]));try cbv))
    refine nT (zb ?_);obtain ⟨e2,m1,W,k1,F⟩:=a0Q p;refine zM 2 [0,1,7,8,9] [] 0 (fun τ => ∃ J,W J=some p0/\τ=⟨[(0,zl 1 w),(1,zi B),(7,(.d (.int .i64 (A.len C)))),(8,(.own 2 J)),(9,zi v)],[],83⟩) ?_ ?_
    ·refine zP m1 [0,1,7,8,9,10] [] 0 (fun (V,E)=>⟨[(0,zl 1 w),(1,zi B),(7,(.d (.int .i64 (A.len C)))),(8,(.own 2 V)),(9,zi v),(10,zi E)],[],83⟩) ⟨rfl,(by first | (cbv;done) | ((repeat (cbv;simp only [s]));try cbv))⟩ ?_
     rintro ⟨V,E⟩ y1 m;dsimp only [b1n] at m;refine zs (zs ?_);obtain ⟨Y,o0,m⟩:=a0a m;obtain ⟨R,S⟩:=gtI o0;refine zA ?_ (h:=(by (repeat (cbv;simp only [R,S]));try cbv))
     refine nT ?_;rcases tf (A.zlt E (A.len Y)) with a | a
     ·replace m:=cT a m;refine zT ?_ (hb:=(by first | rfl | simp only [a,zqa,zqb,zqc,zqd]))
      refine zk (nT (zs ?_));obtain ⟨s1,e,m⟩:=a0a m;refine zN [0,1,7,8,9,10] [] 0 (fun τ=>τ=⟨[(0,zl 1 w),(1,zi B),(7,(.d (.int .i64 (A.len C)))),(8,(.own 2 s1)),(9,zi v),(10,zi E)],[],83⟩) ?_ ?_
      ·refine zb (zs (zs ?_));obtain ⟨⟨a0,w1,u1⟩,b0,e⟩:=a0a e;obtain ⟨q0,r0⟩:=gtI b0;refine zA ?_ (h:=(by (repeat (cbv;simp only [a,R,S,q0,r0]));try cbv))
       refine nT ?_;rcases tf (A.zeq a0 3) with b | b
       ·replace e:=cT b e;refine zU ?_ (hb:=(by first | rfl | simp only [a,b,zqa,zqb,zqc,zqd]))
        refine zk (nT (zs (zn ?_)));obtain ⟨d2,c,e⟩:=a0a e;dsimp only [c0K] at c;obtain ⟨q1,e0,c⟩:=a0a c;refine zC (c1m hA e0) ?_ (h:=(by (repeat (cbv;simp only [a,b]));try cbv))
        refine zE ?_ (h:=(by (repeat (cbv;simp only [a,b]));try cbv))
        refine nT (zs ?_);refine zA ?_ (h:=(by (repeat (cbv;simp only [a,b]));try cbv))
        refine nT (zs ?_);obtain ⟨v1,g0,c⟩:=a0a c;obtain ⟨N,O⟩:=gtI g0;obtain ⟨a2,i0,c⟩:=a0a c;obtain ⟨v0,w0,y0,z0⟩:=slI i0;obtain ⟨b2,j0,c⟩:=a0a c;obtain ⟨a1,b1⟩:=apI j0;refine AWp.weak (Wk.settleS 12 rfl (lb rfl)) ?_;refine zA ?_ { gr:=[56] } (h:=(by (repeat (cbv;simp only [a,b,N,O,v0,w0,y0,z0,a1,b1]));try cbv))
        refine nT (zs ?_);obtain ⟨c2,k0,c⟩:=a0a c;obtain ⟨c1,d1,e1,g1⟩:=slI k0;obtain ⟨o1,l0,c⟩:=a0a c;obtain ⟨i1,j1⟩:=apI l0;refine zA ?_ { gr:=[65] } (h:=(by (repeat (cbv;simp only [a,b,N,O,c1,d1,e1,g1,i1,j1]));try cbv))
        refine nT (zs ?_);obtain ⟨_,m0,c⟩:=a0a c;have P:=ckI m0;obtain ⟨_,n0,c⟩:=a0a c;have Q:=ckI n0;refine zA ?_ (h:=(by (repeat (cbv;simp only [a,b,P,Q]));try cbv))
        refine nT ?_;refine AWp.weak (Wk.shutGA hA 0 (q:=9) (k:=3) (z:=v) (l:=q1) (y:=o1) rfl rfl P Q) ?_;refine AWp.weak (Wk.frzJ 11 (i:=0) (k:=3) (o:=none) rfl rfl rfl) ?_;refine AWp.weak (Wk.ren [] [0,1,2,7,8,9,10,11] rfl rfl) ?_;cases soI c;refine zs (zn ?_);obtain ⟨p1,c0,e⟩:=a0a e;refine zC (c0N hA c0) ?_ (h:=(by (repeat (cbv;simp only [a,b]));try cbv))
        refine zE ?_ (h:=(by (repeat (cbv;simp only [a,b]));try cbv))
        refine nT ?_;obtain ⟨r1,u,e⟩:=a0a e;refine zN [0,1,7,8,9,10] [] 0 (fun τ=>τ=⟨[(0,zl 1 w),(1,zi B),(7,(.d (.int .i64 (A.len C)))),(8,(.own 2 r1)),(9,zi v),(10,zi E)],[],83⟩) ?_ ?_
        ·rcases tf (A.zlt (A.len C) (A.len p1)) with r | r
         ·replace u:=cT r u;refine zT ?_ (hb:=(by first | rfl | simp only [a,b,r,zqa,zqb,zqc,zqd]))
          obtain ⟨z1,d0,u⟩:=a0a u;obtain ⟨s0,u0⟩:=apI d0;refine zA ?_ { tk:=[8,81] } (h:=(by (repeat (cbv;simp only [a,b,r,s0,u0]));try cbv))
          cases soI u;exact (zO (g:=(by first | (cbv;done) | ((repeat (cbv;simp only [a,b,r]));try cbv))))
         replace u:=cF r u;refine zU ?_ (hb:=(by first | rfl | simp only [a,b,r,zqa,zqb,zqc,zqd]))
         refine zk ?_;cases soI u;exact (zO (g:=(by first | (cbv;done) | ((repeat (cbv;simp only [a,b,r]));try cbv))))
        rintro _ rfl;refine nB ?_;cases soI e;exact zO
       replace e:=cF b e;refine zT ?_ (hb:=(by first | rfl | simp only [a,b,zqa,zqb,zqc,zqd]))
       refine AWp.exit (xT (xB ?_));cases soI e;exact (zO (g:=(by first | (cbv;done) | ((repeat (cbv;simp only [a,b]));try cbv))))
      rintro _ rfl;refine nT (zA ?_);exact nT ⟨_,(soI m).symm,rfl,zc⟩
     replace m:=cF a m;refine zU ?_ (hb:=(by first | rfl | simp only [a,zqa,zqb,zqc,zqd]))
     refine AWp.exit (xT (xT ?_));refine exL m ?_;rintro rfl;exact oxI ⟨rfl,_,F,(by first | (cbv;done) | ((repeat (cbv;simp only [a]));try cbv))⟩
    rintro _ ⟨J,F,rfl⟩;have p:=(k1 _ F);refine xB (nB (nT (zA ?_)));exact nT ⟨_,(soI p).symm,rfl,zc⟩
   replace p:=cF s p;refine zU ?_ (hb:=(by first | rfl | simp only [s,zqa,zqb,zqc,zqd]))
   refine AWp.exit (xT (xT ?_));refine exL p ?_;rintro rfl;exact oxI ⟨rfl,_,G,(by first | (cbv;done) | ((repeat (cbv;simp only [s]));try cbv))⟩
  rintro _ ⟨K,G,rfl⟩;have h:=(l1 _ G);refine xB (nT (zs (zA (nT (zr ?_)))));cases soI h;exact zq
 replace h:=cF j h;refine zT ?_ (hb:=(by first | rfl | simp only [j,zqa,zqb,zqc,zqd]))
 refine zs ?_;refine zA ?_ (h:=(by (repeat (cbv;simp only [j]));try cbv))
 refine nT (zr (rT ?_));cases soI h;exact zq

theorem c2Z {A:Ar} (hA:SA A) {w:List D} {y:Int} {r:Bool} (h:M10 A w y=some r):a0h Try.prog 10 [zl 1 w,zi y] [] (.d (.bool r)) []:=by
 unfold M10 at h;refine zI Try.func10 ?_;refine zs (zA (nT (zs (zs (zn ?_)))));obtain ⟨r4,L,h⟩:=a0a h;refine zC (c2C hA L) ?_;refine zE (nT ?_);rcases tf r4 with a | a
 ·replace h:=cT a h;refine zT ?_ (hb:=(by first | rfl | simp only [a,zqa,zqb,zqc,zqd]))
  refine zs (zn ?_);obtain ⟨r7,P,h⟩:=a0a h;refine zC (c2u hA P) ?_ { tk:=[16] } (h:=(by (repeat (cbv;simp only [a]));try cbv))
  refine zE ?_ { tk:=[16] } (h:=(by (repeat (cbv;simp only [a]));try cbv))
  refine nT (zr (rT ?_));cases soI h;exact zq
 replace h:=cF a h;refine zU ?_ (hb:=(by first | rfl | simp only [a,zqa,zqb,zqc,zqd]))
 refine zk (nT (zs (zn ?_)));obtain ⟨⟨r9,X⟩,Q,h⟩:=a0a h;refine zC (c2R hA Q) ?_ (h:=(by (repeat (cbv;simp only [a]));try cbv))
 refine zE ?_ (h:=(by (repeat (cbv;simp only [a]));try cbv))
 refine nT (zs (zn ?_));obtain ⟨⟨Y,a0⟩,G,h⟩:=a0a h;refine zC (c2X hA G) ?_ (h:=(by (repeat (cbv;simp only [a]));try cbv))
 refine zE ?_ (h:=(by (repeat (cbv;simp only [a]));try cbv))
 refine nT (zs (zn ?_));obtain ⟨⟨p,b0⟩,J,h⟩:=a0a h;refine zC (c2W hA J) ?_ (h:=(by (repeat (cbv;simp only [a]));try cbv))
 refine zE ?_ (h:=(by (repeat (cbv;simp only [a]));try cbv))
 refine nT (zs (zn ?_));obtain ⟨⟨u,c0⟩,K,h⟩:=a0a h;refine zC (c2Y hA K) ?_ (h:=(by (repeat (cbv;simp only [a]));try cbv))
 refine zE ?_ (h:=(by (repeat (cbv;simp only [a]));try cbv))
 refine nT (zs (zs ?_));obtain ⟨v,c,h⟩:=a0a h;refine zN [9,11,58] [] 0 (fun τ=>τ=⟨[(9,zl 2 p),(11,zl 2 u),(58,.d (.bool v))],[],75⟩) ?_ ?_
 ·rcases tf (A.beq r9 Y) with i | i
  ·replace c:=cT i c;rcases tf (A.zeq X a0) with j | j
   ·replace c:=cT j c;rcases tf (A.zeq b0 c0) with m | m
    ·replace c:=cT m c;refine zA ?_ (h:=(by (repeat (cbv;simp only [a,i,j,m]));try cbv))
     cases soI c;exact (zO (g:=(by first | (cbv;done) | ((repeat (cbv;simp only [a,i,j,m]));try cbv))))
    replace c:=cF m c;refine zA ?_ (h:=(by (repeat (cbv;simp only [a,i,j,m]));try cbv))
    cases soI c;exact (zO (g:=(by first | (cbv;done) | ((repeat (cbv;simp only [a,i,j,m]));try cbv))))
   replace c:=cF j c;refine zA ?_ (h:=(by (repeat (cbv;simp only [a,i,j]));try cbv))
   cases soI c;exact (zO (g:=(by first | (cbv;done) | ((repeat (cbv;simp only [a,i,j]));try cbv))))
  replace c:=cF i c;refine zA ?_ (h:=(by (repeat (cbv;simp only [a,i]));try cbv))
  cases soI c;exact (zO (g:=(by first | (cbv;done) | ((repeat (cbv;simp only [a,i]));try cbv))))
 rintro _ rfl;refine nT ?_;rcases tf v with k | k
 ·replace h:=cT k h;refine zT ?_ (hb:=(by first | rfl | simp only [k,zqa,zqb,zqc,zqd]))
  refine zs ?_;refine zA ?_ (h:=(by (repeat (cbv;simp only [k]));try cbv))
  refine nT (zr (rT ?_));cases soI h;exact zq
 replace h:=cF k h;refine zU ?_ (hb:=(by first | rfl | simp only [k,zqa,zqb,zqc,zqd]))
 refine zk (nT (zs (zs ?_)));refine zA ?_ (h:=(by (repeat (cbv;simp only [k]));try cbv))
 refine nT (zb ?_);obtain ⟨g0,W,z,s,o⟩:=a0Q h;refine zM 0 [] [] 0 (fun τ=>z (.inl ())=some r/\τ=⟨[],[],75⟩) ?_ ?_
 ·refine zP W [9,11,13] [] 0 (fun q=>⟨[(9,zl 2 p),(11,zl 2 u),(13,zi q)],[],75⟩) ⟨rfl,(by first | (cbv;done) | ((repeat (cbv;simp only [k]));try cbv))⟩ ?_
  rintro q d0 b;dsimp only [b2j] at b;refine zs (zs (zA (nT ?_)));rcases tf (A.zlt q (A.len p)) with e | e
  ·replace b:=cT e b;refine zT ?_ (hb:=(by first | rfl | simp only [e,zqa,zqb,zqc,zqd]))
   refine zk (nT (zs (zb (zs ?_))));obtain ⟨⟨B,C⟩,M,b⟩:=a0a b;obtain ⟨R,S⟩:=gtI M;obtain ⟨⟨E,F⟩,N,b⟩:=a0a b;obtain ⟨U,V⟩:=gtI N;refine zH ?_ (h:=(by (repeat (cbv;simp only [e,R,S,U,V]));try cbv))
   refine nT ?_;rcases tf (A.deq [.int .i64 B,.int .i64 C] [.int .i64 E,.int .i64 F]) with l | l
   ·replace b:=cT l b;refine zU ?_ (hb:=(by first | rfl | simp only [e,l,zqa,zqb,zqc,zqd]))
    refine zk (nB (nT ?_));refine zA ?_ (h:=(by (repeat (cbv;simp only [e,l]));try cbv))
    exact nT ⟨_,(soI b).symm,rfl,(by first | (cbv;done) | ((repeat (cbv;simp only [e,l]));try cbv))⟩
   replace b:=cF l b;refine zT ?_ (hb:=(by first | rfl | simp only [e,l,zqa,zqb,zqc,zqd]))
   refine zs ?_;refine zA ?_ (h:=(by (repeat (cbv;simp only [e,l]));try cbv))
   refine nT (zr (rB (rT (rT ?_))));refine exL b ?_;rintro rfl;refine oxR ?_;replace o:=(eR (s _ o));refine rB (rT ?_);cases soI o;exact zq
  replace b:=cF e b;refine zU ?_ (hb:=(by first | rfl | simp only [e,zqa,zqb,zqc,zqd]))
  refine AWp.exit (xT (xT ?_));refine exL b ?_;rintro rfl;exact oxI ⟨rfl,o,(by first | (cbv;done) | ((repeat (cbv;simp only [e]));try cbv))⟩
 rintro _ ⟨o,rfl⟩;have h:=(eL (s _ o));refine xB (nT (zs (zn ?_)));obtain ⟨e0,O,h⟩:=a0a h;refine zC (c2u hA O) ?_ { tk:=[74] };refine zE (nT (zr ?_)) { tk:=[74] };cases soI h;exact zq
end Go.Am
