/- Own text: Genw5. -/
import Derived.Test.YtkjeamngjnfpkaaGenw4
set_option maxRecDepth 100000
set_option maxHeartbeats 2000000
set_option linter.unusedVariables false
set_option linter.unusedSimpArgs false
namespace Go.Am
open Go Go.Proofs
theorem K6w {A:Ar} (hA:SA A) {k l:Int} {m o p q:List D} {s u:Int} {v:List D} {e0:Bool} (h:K6 A k l m o p q s u v=some e0):ACall Try.prog 6 [.d (.agg [.int .i64 k,.int .i64 l,.list 1 m,.list 1 o,.list 1 p,.list 1 q]),.d (.agg [.int .u8 s,.int .u8 u]),zl 1 v] [] (.d (.bool e0)) []:=by
 unfold K6 at h
 refine zI Try.func6 ?_
 refine zs ?_
 refine zA ?_
 refine nT (zs (zs ?_))
 obtain ⟨g0,g,h⟩:=bindS h
 refine AWp.cutN [2,3,4,32] [] 0 (lb rfl) (fun τ=>τ={ env:=[(2,zl 1 v),(3,(.lbox [zi k,zi l,zl 1 m,zl 1 o,zl 1 p,zl 1 q])),(4,(.lbox [.d (.int .u8 s),.d (.int .u8 u)])),(32,.d (.bool g0))],heap:=[],n:=196 }) ?_ ?_
 ·skip
  refine zn ?_
  obtain ⟨d1,m0,g⟩:=bindS g
  refine zC (K23w hA m0) ?_
  rcases tf d1 with E | E
  ·replace g:=cT E g
   refine zF ?_
   cases soI g
   exact zO
  ·replace g:=cF E g
   refine zF ?_
   cases soI g
   exact zO
 ·rintro _ rfl
  refine nT ?_
  rcases tf g0 with F | F
  ·replace h:=cT F h
   refine zT ?_
   refine zs (zn ?_)
   obtain ⟨u1,n0,h⟩:=bindS h
   refine zD (K10w hA n0) ?_ { tk:=[33] }
   refine zF ?_ { tk:=[33] }
   refine nT (zr (rT ?_))
   cases soI h
   exact zq
  ·replace h:=cF F h
   refine zU ?_
   refine zk (nT (zs ?_))
   obtain ⟨_,o0,h⟩:=bindS h
   have r1:=nkI o0
   obtain ⟨_,p0,h⟩:=bindS h
   have s1:=nkI p0
   refine AWp.rd hT hA {} rfl zu (by kernel_rfl) (lb rfl) ?_
   refine nT (zs ?_)
   refine zB ?_
   refine nT (zs (zn ?_))
   obtain ⟨⟨b0,e1⟩,q0,h⟩:=bindS h
   refine zD (K32w hA q0) ?_
   refine zF ?_
   refine nT (zs (zn ?_))
   obtain ⟨⟨v1,g1⟩,r0,h⟩:=bindS h
   refine zD (K32w hA r0) ?_
   refine zF ?_
   refine nT (zs (zn ?_))
   obtain ⟨⟨i1,c0⟩,s0,h⟩:=bindS h
   refine zD (K33w hA s0) ?_
   refine zF ?_
   refine nT (zs (zs ?_))
   obtain ⟨⟨i0,j0⟩,a,h⟩:=bindS h
   refine AWp.cutN [2,3,10,11,15,107] [] 0 (lb rfl) (fun τ=>τ={ env:=[(2,zl 1 v),(3,(.lbox [zi k,zi l,zl 1 m,zl 1 o,zl 1 p,zl 1 q])),(10,(.d (.int .i64 (A.zmax (A.rem (A.wrp .i64 s) 13) (A.rem (A.wrp .i64 u) 13))))),(11,.d (.bool i0)),(15,zl 1 i1),(107,.d (.bool j0))],heap:=[],n:=196 }) ?_ ?_
   ·skip
    rcases tf (A.zeq e1 0) with G | G
    ·replace a:=cT G a
     rcases tf (A.zeq g1 0) with J | J
     ·replace a:=cT J a
      rcases tf (A.beq b0 (A.zeq c0 5)) with e | e
      ·replace a:=cT e a
       rcases tf (A.zeq c0 0) with K | K
       ·replace a:=cT K a
        rcases tf b0 with w | w
        ·replace a:=cT w a
         have L:=e
         rw [w] at L
         refine zB ?_
         cases soI a
         exact zO
        ·replace a:=cF w a
         have L:=e
         rw [w] at L
         refine zB ?_
         cases soI a
         exact zO
       ·replace a:=cF K a
        rcases tf (A.zeq c0 5) with y | y
        ·replace a:=cT y a
         have z:=e
         rw [y] at z
         rcases tf b0 with i | i
         ·replace a:=cT i a
          have M:=e
          rw [i] at M
          have N:=z
          rw [i] at N
          refine zB ?_
          cases soI a
          exact zO
         ·replace a:=cF i a
          have M:=e
          rw [i] at M
          have N:=z
          rw [i] at N
          refine zB ?_
          cases soI a
          exact zO
        ·replace a:=cF y a
         have z:=e
         rw [y] at z
         refine zB ?_
         cases soI a
         exact zO
      ·replace a:=cF e a
       refine zB ?_
       cases soI a
       exact zO
     ·replace a:=cF J a
      refine zB ?_
      cases soI a
      exact zO
    ·replace a:=cF G a
     refine zB ?_
     cases soI a
     exact zO
   ·rintro _ rfl
    refine nT ?_
    rcases tf j0 with O | O
    ·replace h:=cT O h
     refine zT ?_
     refine zs ?_
     refine zB ?_
     refine nT (zr (rT ?_))
     cases soI h
     exact zq
    ·replace h:=cF O h
     refine zU ?_
     refine zk (nT (zs (zs ?_)))
     refine zB ?_
     refine nT ?_
     obtain ⟨K56,c1,h⟩:=jnI h
     refine AWp.cutN [2,3,10,11] [] 0 (lb rfl) (fun τ => ∃ C,K56 C=some e0/\τ={ env:=[(2,zl 1 v),(3,(.lbox [zi k,zi l,zl 1 m,zl 1 o,zl 1 p,zl 1 q])),(10,(.d (.int .i64 (A.zmax (A.rem (A.wrp .i64 s) 13) (A.rem (A.wrp .i64 u) 13))))),(11,.d (.bool C))],heap:=[],n:=196 }) ?_ ?_
     ·skip
      rcases tf i0 with P | P
      ·replace h:=cT P h
       refine zU ?_
       refine zk ?_
       exact oNi ⟨rfl,_,h,zv⟩
      ·replace h:=cF P h
       refine zT ?_
       refine zs (zn ?_)
       obtain ⟨⟨j1,k1⟩,u0,h⟩:=bindS h
       refine zD (K34w hA u0) ?_
       refine zF ?_
       refine nT (zs ?_)
       obtain ⟨k0,c,h⟩:=bindS h
       refine AWp.cutN [2,3,10,11,132] [] 0 (lb rfl) (fun τ=>τ={ env:=[(2,zl 1 v),(3,(.lbox [zi k,zi l,zl 1 m,zl 1 o,zl 1 p,zl 1 q])),(10,(.d (.int .i64 (A.zmax (A.rem (A.wrp .i64 s) 13) (A.rem (A.wrp .i64 u) 13))))),(11,.d (.bool false)),(132,.d (.bool k0))],heap:=[],n:=196 }) ?_ ?_
       ·skip
        rcases tf (A.zeq k1 0) with Q | Q
        ·replace c:=cT Q c
         rcases tf j1 with R | R
         ·replace c:=cT R c
          refine zB ?_
          cases soI c
          exact zO
         ·replace c:=cF R c
          refine zB ?_
          cases soI c
          exact zO
        ·replace c:=cF Q c
         refine zB ?_
         cases soI c
         exact zO
       ·rintro _ rfl
        refine nT ?_
        rcases tf k0 with S | S
        ·replace h:=cT S h
         refine zT ?_
         refine zs ?_
         refine zB ?_
         refine nT (zr ?_)
         refine oNr ?_
         refine rT ?_
         cases soI h
         exact zq
        ·replace h:=cF S h
         refine zU ?_
         refine zk ?_
         exact oNi ⟨rfl,_,h,zv⟩
     ·rintro _ ⟨C,h,rfl⟩
      replace h:=c1 _ h
      refine nT (zs (zn ?_))
      obtain ⟨⟨w1,y1,l1⟩,v0,h⟩:=bindS h
      refine zC (K24w hA v0) ?_
      refine zE ?_
      refine nT (zs (zs ?_))
      refine zA ?_
      refine nT ?_
      rcases tf l1 with U | U
      ·replace h:=cT U h
       refine zU ?_
       refine zk (nT (zs (zn ?_)))
       obtain ⟨⟨d0,m1⟩,w0,h⟩:=bindS h
       refine zD (K34w hA w0) ?_
       refine zF ?_
       refine nT (zs (zn ?_))
       obtain ⟨⟨n1,z1⟩,y0,h⟩:=bindS h
       refine zD (K13w hA y0) ?_
       refine zF ?_
       refine nT (zs (zs ?_))
       obtain ⟨l0,r,h⟩:=bindS h
       refine AWp.cutN [3,11,22,23,168] [] 0 (lb rfl) (fun τ=>τ={ env:=[(3,(.lbox [zi k,zi l,zl 1 m,zl 1 o,zl 1 p,zl 1 q])),(11,.d (.bool C)),(22,.d (.bool d0)),(23,zl 6 n1),(168,.d (.bool l0))],heap:=[],n:=196 }) ?_ ?_
       ·skip
        rcases tf (A.zeq m1 0) with V | V
        ·replace r:=cT V r
         refine zB ?_
         cases soI r
         exact zO
        ·replace r:=cF V r
         refine zB ?_
         cases soI r
         exact zO
       ·rintro _ rfl
        refine nT ?_
        rcases tf l0 with W | W
        ·replace h:=cT W h
         refine zT ?_
         refine zs ?_
         refine zB ?_
         refine nT (zr (rT ?_))
         cases soI h
         exact zq
        ·replace h:=cF W h
         refine zU ?_
         refine zk (nT (zs (zn ?_)))
         obtain ⟨⟨o1,p1⟩,z0,h⟩:=bindS h
         refine zD (K35w hA z0) ?_
         refine zF ?_
         refine nT (zs ?_)
         obtain ⟨q1,b,h⟩:=bindS h
         refine AWp.cutN [6] [] 0 (lb rfl) (fun τ=>τ={ env:=[(6,.d (.bool q1))],heap:=[],n:=196 }) ?_ ?_
         ·skip
          refine zn ?_
          rcases tf (A.zeq p1 0) with X | X
          ·replace b:=cT X b
           rcases tf (A.beq d0 (!o1)) with j | j
           ·replace b:=cT j b
            unfold Bool.not at j
            rcases tf C with Y | Y
            ·replace b:=cT Y b
             rcases tf d0 with B | B
             ·replace b:=cT B b
              have a0:=j
              rw [B] at a0
              refine zF ?_ { tk:=[195] }
              cases soI b
              exact zO
             ·replace b:=cF B b
              have a0:=j
              rw [B] at a0
              obtain ⟨a2,a1,b⟩:=bindS b
              refine zD (K10w hA a1) ?_ { tk:=[195] }
              refine zF ?_ { tk:=[195] }
              cases soI b
              exact zO
            ·replace b:=cF Y b
             obtain ⟨b2,b1,b⟩:=bindS b
             refine zD (K10w hA b1) ?_ { tk:=[195] }
             refine zF ?_ { tk:=[195] }
             cases soI b
             exact zO
           ·replace b:=cF j b
            unfold Bool.not at j
            refine zF ?_ { tk:=[195] }
            cases soI b
            exact zO
          ·replace b:=cF X b
           refine zF ?_ { tk:=[195] }
           cases soI b
           exact zO
         ·rintro _ rfl
          refine nT (zr ?_)
          cases soI h
          exact zq
      ·replace h:=cF U h
       refine zT ?_
       refine zs ?_
       refine zB ?_
       refine nT (zr (rT ?_))
       cases soI h
       exact zq
end Go.Am
