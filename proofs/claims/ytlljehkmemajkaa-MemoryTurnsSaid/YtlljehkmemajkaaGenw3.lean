/- Own text: Genw3. -/
import Derived.Test.YtlljehkmemajkaaGenw2
set_option maxRecDepth 100000
set_option maxHeartbeats 2000000
set_option linter.unusedVariables false
set_option linter.unusedSimpArgs false
namespace Go.Am
open Go Go.Proofs
theorem M9w {A:Ar} (hA:SA A) {z:List D} {E F B:Int} {L:Bool} (h:M9 A z E F B=some L):ACall Try.prog 9 [zl 1 z,.d (.agg [.int .u8 E,.int .u8 F]),.d (.int .u8 B)] [] (.d (.bool L)) []:=by
 unfold M9 at h
 refine zI Try.func9 ?_
 refine zs ?_
 refine zA ?_
 refine nT (zs (zs ?_))
 obtain ⟨P,q,h⟩:=bindS h
 refine AWp.cutN [0,2,4,28] [] 0 (lb rfl) (fun τ=>τ={ env:=[(0,zl 1 z),(2,.d (.int .u8 B)),(4,(.lbox [.d (.int .u8 E),.d (.int .u8 F)])),(28,.d (.bool P))],heap:=[],n:=148 }) ?_ ?_
 ·skip
  refine zn ?_
  obtain ⟨r6,e5,q⟩:=bindS q
  refine zC (M17w hA e5) ?_
  rcases tf r6 with v | v
  ·replace q:=cT v q
   refine zE ?_ (h:=(by (repeat (cbv;simp only [v]));try cbv))
   cases soI q
   exact (zO (g:=(by first | (cbv;done) | ((repeat (cbv;simp only [v]));try cbv))))
  ·replace q:=cF v q
   obtain ⟨r9,e8,q⟩:=bindS q
   refine zC (M24w hA e8) ?_ (h:=(by (repeat (cbv;simp only [v]));try cbv))
   refine zE ?_ (h:=(by (repeat (cbv;simp only [v]));try cbv))
   cases soI q
   exact (zO (g:=(by first | (cbv;done) | ((repeat (cbv;simp only [v]));try cbv))))
 ·rintro _ rfl
  refine nT ?_
  rcases tf P with l | l
  ·replace h:=cT l h
   refine zT ?_ (hb:=(by first | rfl | simp only [l,zqa,zqb,zqc,zqd]))
   refine zs (zn ?_)
   obtain ⟨k1,V,h⟩:=bindS h
   refine zC (M18w hA V) ?_ { tk:=[29] } (h:=(by (repeat (cbv;simp only [l]));try cbv))
   refine zE ?_ { tk:=[29] } (h:=(by (repeat (cbv;simp only [l]));try cbv))
   refine nT (zr (rT ?_))
   cases soI h
   exact zq
  ·replace h:=cF l h
   refine zU ?_ (hb:=(by first | rfl | simp only [l,zqa,zqb,zqc,zqd]))
   refine zk (nT (zs ?_))
   obtain ⟨_,W,h⟩:=bindS h
   have n0:=nkI W
   refine zA ?_ (h:=(by (repeat (cbv;simp only [l,n0]));try cbv))
   refine nT (zs ?_)
   obtain ⟨_,X,h⟩:=bindS h
   have o0:=nkI X
   obtain ⟨_,Y,h⟩:=bindS h
   have p0:=nkI Y
   refine AWp.rd hT hA {} rfl (by (repeat (cbv;simp only [l,o0,p0]));try cbv) (by kernel_rfl) (lb rfl) ?_
   refine nT (zs ?_)
   refine zA ?_ (h:=(by (repeat (cbv;simp only [l]));try cbv))
   refine nT (zs (zs ?_))
   refine zA ?_ (h:=(by (repeat (cbv;simp only [l]));try cbv))
   refine nT (zb ?_)
   obtain ⟨q1,u0,U,s0,J⟩:=bindK h
   refine AWp.cutX 0 [0,7,8,9,10] [] 0 (lb rfl) (fun τ => ∃ G,U G=some L/\τ={ env:=[(0,zl 1 z),(7,(.d (.int .i64 (A.wrp .i64 (A.zadd 1 (A.rem (A.wrp .i64 B) 3)))))),(8,(.d (.int .i64 (A.rem (A.wrp .i64 E) 3)))),(9,(.d (.int .i64 (A.rem (A.wrp .i64 F) 3)))),(10,(.own 1 G))],heap:=[],n:=148 }) ?_ ?_
   ·skip
    refine AWp.iter u0 [0,7,8,9,10,11] [] 0 (lb rfl) (fun (Q,K)=>{ env:=[(0,zl 1 z),(7,(.d (.int .i64 (A.wrp .i64 (A.zadd 1 (A.rem (A.wrp .i64 B) 3)))))),(8,(.d (.int .i64 (A.rem (A.wrp .i64 E) 3)))),(9,(.d (.int .i64 (A.rem (A.wrp .i64 F) 3)))),(10,(.own 1 Q)),(11,zi K)],heap:=[],n:=148 }) ⟨rfl,(by first | (cbv;done) | ((repeat (cbv;simp only [l]));try cbv))⟩ ?_
    rintro ⟨Q,K⟩ i1 s
    dsimp only [M9L0] at s
    refine zs (zs ?_)
    refine zA ?_
    refine nT ?_
    rcases tf (A.zle 0 K) with r | r
    ·replace s:=cT r s
     refine zT ?_ (hb:=(by first | rfl | simp only [r,zqa,zqb,zqc,zqd]))
     refine zk (nT (zs (zb ?_)))
     obtain ⟨j1,a0,s⟩:=bindS s
     obtain ⟨q0,r0⟩:=apI a0
     refine zA ?_ { tk:=[10,52] } (h:=(by (repeat (cbv;simp only [r,q0,r0]));try cbv))
     refine nB (nT ?_)
     refine zA ?_ (h:=(by (repeat (cbv;simp only [r]));try cbv))
     exact nT ⟨_,(soI s).symm,rfl,(by first | (cbv;done) | ((repeat (cbv;simp only [r]));try cbv))⟩
    ·replace s:=cF r s
     refine zU ?_ (hb:=(by first | rfl | simp only [r,zqa,zqb,zqc,zqd]))
     refine AWp.exit (xT (xT ?_))
     refine exL s fun hx => ?_
     subst hx
     exact oxI ⟨rfl,_,J,(by first | (cbv;done) | ((repeat (cbv;simp only [r]));try cbv))⟩
   ·rintro _ ⟨G,J,rfl⟩
    have h:=(s0 _ J)
    refine xB (nT (zs (zn ?_)))
    obtain ⟨⟨M,v0⟩,b0,h⟩:=bindS h
    refine zC (M39w hA b0) ?_
    refine zE ?_
    refine nT (zs (zn ?_))
    obtain ⟨⟨N,l1⟩,c0,h⟩:=bindS h
    refine zC (M40w hA c0) ?_
    refine zE ?_
    refine nT (zs (zs ?_))
    obtain ⟨R,C,h⟩:=bindS h
    refine AWp.cutN [0,7,8,9,10,12,14,71] [] 0 (lb rfl) (fun τ=>τ={ env:=[(0,zl 1 z),(7,(.d (.int .i64 (A.wrp .i64 (A.zadd 1 (A.rem (A.wrp .i64 B) 3)))))),(8,(.d (.int .i64 (A.rem (A.wrp .i64 E) 3)))),(9,(.d (.int .i64 (A.rem (A.wrp .i64 F) 3)))),(10,(.own 1 G)),(12,zl 1 M),(14,zl 1 N),(71,.d (.bool R))],heap:=[],n:=148 }) ?_ ?_
    ·skip
     rcases tf (A.zeq v0 0) with y | y
     ·replace C:=cT y C
      refine zA ?_ (h:=(by (repeat (cbv;simp only [y]));try cbv))
      cases soI C
      exact (zO (g:=(by first | (cbv;done) | ((repeat (cbv;simp only [y]));try cbv))))
     ·replace C:=cF y C
      refine zA ?_ (h:=(by (repeat (cbv;simp only [y]));try cbv))
      cases soI C
      exact (zO (g:=(by first | (cbv;done) | ((repeat (cbv;simp only [y]));try cbv))))
    ·rintro _ rfl
     refine nT ?_
     rcases tf R with c | c
     ·replace h:=cT c h
      refine zT ?_ (hb:=(by first | rfl | simp only [c,zqa,zqb,zqc,zqd]))
      refine zs ?_
      refine zA ?_ (h:=(by (repeat (cbv;simp only [c]));try cbv))
      refine nT (zr (rT ?_))
      cases soI h
      exact zq
     ·replace h:=cF c h
      refine zU ?_ (hb:=(by first | rfl | simp only [c,zqa,zqb,zqc,zqd]))
      refine zk (nT (zs (zn ?_)))
      obtain ⟨⟨m1,w0⟩,d0,h⟩:=bindS h
      refine zC (M40w hA d0) ?_ (h:=(by (repeat (cbv;simp only [c]));try cbv))
      refine zE ?_ (h:=(by (repeat (cbv;simp only [c]));try cbv))
      refine nT (zs (zn ?_))
      obtain ⟨⟨n1,y0⟩,e0,h⟩:=bindS h
      refine zC (M39w hA e0) ?_ (h:=(by (repeat (cbv;simp only [c]));try cbv))
      refine zE ?_ (h:=(by (repeat (cbv;simp only [c]));try cbv))
      refine nT (zs (zs ?_))
      obtain ⟨S,e,h⟩:=bindS h
      refine AWp.cutN [0,7,12,14,102] [] 0 (lb rfl) (fun τ=>τ={ env:=[(0,zl 1 z),(7,(.d (.int .i64 (A.wrp .i64 (A.zadd 1 (A.rem (A.wrp .i64 B) 3)))))),(12,zl 1 M),(14,zl 1 N),(102,.d (.bool S))],heap:=[],n:=148 }) ?_ ?_
      ·skip
       refine zn ?_
       rcases tf (A.zeq w0 0) with k | k
       ·replace e:=cT k e
        rcases tf (A.zeq y0 0) with o | o
        ·replace e:=cT o e
         obtain ⟨z0,g0,e⟩:=bindS e
         refine zC (M41w hA g0) ?_ (h:=(by (repeat (cbv;simp only [c,k,o]));try cbv))
         rcases tf z0 with u | u
         ·replace e:=cT u e
          obtain ⟨o1,i0,e⟩:=bindS e
          refine zC (M41w hA i0) ?_ (h:=(by (repeat (cbv;simp only [c,k,o,u]));try cbv))
          refine zE ?_ (h:=(by (repeat (cbv;simp only [c,k,o,u]));try cbv))
          cases soI e
          exact (zO (g:=(by first | (cbv;done) | ((repeat (cbv;simp only [c,k,o,u]));try cbv))))
         ·replace e:=cF u e
          refine zE ?_ (h:=(by (repeat (cbv;simp only [c,k,o,u]));try cbv))
          cases soI e
          exact (zO (g:=(by first | (cbv;done) | ((repeat (cbv;simp only [c,k,o,u]));try cbv))))
        ·replace e:=cF o e
         refine zE ?_ (h:=(by (repeat (cbv;simp only [c,k,o]));try cbv))
         cases soI e
         exact (zO (g:=(by first | (cbv;done) | ((repeat (cbv;simp only [c,k,o]));try cbv))))
       ·replace e:=cF k e
        refine zE ?_ (h:=(by (repeat (cbv;simp only [c,k]));try cbv))
        cases soI e
        exact (zO (g:=(by first | (cbv;done) | ((repeat (cbv;simp only [c,k]));try cbv))))
      ·rintro _ rfl
       refine nT ?_
       rcases tf S with b | b
       ·replace h:=cT b h
        refine zT ?_ (hb:=(by first | rfl | simp only [b,zqa,zqb,zqc,zqd]))
        refine zs ?_
        refine zA ?_ (h:=(by (repeat (cbv;simp only [b]));try cbv))
        refine nT (zr (rT ?_))
        cases soI h
        exact zq
       ·replace h:=cF b h
        refine zU ?_ (hb:=(by first | rfl | simp only [b,zqa,zqb,zqc,zqd]))
        refine zk (nT (zs (zn ?_)))
        obtain ⟨⟨O,a1⟩,j0,h⟩:=bindS h
        refine zC (M19w hA j0) ?_ (h:=(by (repeat (cbv;simp only [b]));try cbv))
        refine zE ?_ (h:=(by (repeat (cbv;simp only [b]));try cbv))
        refine nT (zs (zn ?_))
        obtain ⟨⟨b1,c1⟩,k0,h⟩:=bindS h
        refine zC (M19w hA k0) ?_ (h:=(by (repeat (cbv;simp only [b]));try cbv))
        refine zE ?_ (h:=(by (repeat (cbv;simp only [b]));try cbv))
        refine nT (zs (zn ?_))
        obtain ⟨⟨d1,e1⟩,l0,h⟩:=bindS h
        refine zC (M19w hA l0) ?_ (h:=(by (repeat (cbv;simp only [b]));try cbv))
        refine zE ?_ (h:=(by (repeat (cbv;simp only [b]));try cbv))
        refine nT (zs ?_)
        obtain ⟨g1,a,h⟩:=bindS h
        refine AWp.cutN [6] [] 0 (lb rfl) (fun τ=>τ={ env:=[(6,.d (.bool g1))],heap:=[],n:=148 }) ?_ ?_
        ·skip
         refine zn ?_
         rcases tf (A.zeq a1 0) with i | i
         ·replace a:=cT i a
          rcases tf (A.zeq c1 0) with j | j
          ·replace a:=cT j a
           rcases tf (A.zeq e1 0) with m | m
           ·replace a:=cT m a
            rcases tf (A.zeq (A.len O) (A.len b1)) with p | p
            ·replace a:=cT p a
             rcases tf (A.zeq (A.len O) (A.len d1)) with w | w
             ·replace a:=cT w a
              obtain ⟨p1,m0,a⟩:=bindS a
              refine zC (M18w hA m0) ?_ { tk:=[147] } (h:=(by (repeat (cbv;simp only [b,i,j,m,p,w]));try cbv))
              refine zE ?_ { tk:=[147] } (h:=(by (repeat (cbv;simp only [b,i,j,m,p,w]));try cbv))
              cases soI a
              exact (zO (g:=(by first | (cbv;done) | ((repeat (cbv;simp only [b,i,j,m,p,w]));try cbv))))
             ·replace a:=cF w a
              refine zE ?_ { tk:=[147] } (h:=(by (repeat (cbv;simp only [b,i,j,m,p,w]));try cbv))
              cases soI a
              exact (zO (g:=(by first | (cbv;done) | ((repeat (cbv;simp only [b,i,j,m,p,w]));try cbv))))
            ·replace a:=cF p a
             refine zE ?_ { tk:=[147] } (h:=(by (repeat (cbv;simp only [b,i,j,m,p]));try cbv))
             cases soI a
             exact (zO (g:=(by first | (cbv;done) | ((repeat (cbv;simp only [b,i,j,m,p]));try cbv))))
           ·replace a:=cF m a
            refine zE ?_ { tk:=[147] } (h:=(by (repeat (cbv;simp only [b,i,j,m]));try cbv))
            cases soI a
            exact (zO (g:=(by first | (cbv;done) | ((repeat (cbv;simp only [b,i,j,m]));try cbv))))
          ·replace a:=cF j a
           refine zE ?_ { tk:=[147] } (h:=(by (repeat (cbv;simp only [b,i,j]));try cbv))
           cases soI a
           exact (zO (g:=(by first | (cbv;done) | ((repeat (cbv;simp only [b,i,j]));try cbv))))
         ·replace a:=cF i a
          refine zE ?_ { tk:=[147] } (h:=(by (repeat (cbv;simp only [b,i]));try cbv))
          cases soI a
          exact (zO (g:=(by first | (cbv;done) | ((repeat (cbv;simp only [b,i]));try cbv))))
        ·rintro _ rfl
         refine nT (zr ?_)
         cases soI h
         exact zq
end Go.Am
