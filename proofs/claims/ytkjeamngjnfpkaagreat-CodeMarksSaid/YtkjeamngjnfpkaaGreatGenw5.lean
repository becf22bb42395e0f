/- Own text: Genw5. -/
import Derived.Test.YtkjeamngjnfpkaaGreatGenw4
set_option maxRecDepth 100000
set_option maxHeartbeats 2000000
set_option linter.unusedVariables false
set_option linter.unusedSimpArgs false
namespace Go.Am
open Go Go.Proofs
theorem Z102Rw {A:Ar} (hA:SA A) : ∀ (n:Nat) {b j k l:List D} {m o p q:Int} {r c e:List D} {g:Int} {i a:List D},Z102R A n b j k l m o p q r c e g i=some a→ACallO Tryz.prog 102 [.d (.ref [.list 1 b,.list 1 j,.list 1 k,.list 8 l,.int .i64 m,.int .i64 o,.int .i64 p,.int .i64 q,.list 6 r,.list 1 c]),zl 1 e,zi g,(.own 2 i)] [.dead] (.own 2 a) [.dead]
 | 0,_,_,_,_,_,_,_,_,_,_,_,_,_,_,h=>by cases h
 | n+1,_,_,_,_,_,_,_,_,_,_,_,_,_,_,h=>Z102Bw hA (fun h=>Z102Rw hA n h) h

theorem Z102w {A:Ar} (hA:SA A) {b j k l:List D} {m n o p:Int} {q c e:List D} {g:Int} {i a:List D} (h:Z102 A b j k l m n o p q c e g i=some a):ACallO Tryz.prog 102 [.d (.ref [.list 1 b,.list 1 j,.list 1 k,.list 8 l,.int .i64 m,.int .i64 n,.int .i64 o,.int .i64 p,.list 6 q,.list 1 c]),zl 1 e,zi g,(.own 2 i)] [.dead] (.own 2 a) [.dead]:=Z102Rw hA fuel h

theorem Z62w {A:Ar} (hA:SA A) {b c e:List D} {g:Int} {a:List D} (h:Z62 A b c e g=some a):ACall Tryz.prog 62 [zl 1 b,zl 1 c,zl 1 e,zi g] [] (.own 2 a) []:=by
 unfold Z62 at h
 refine zI Tryz.func62 ?_
 refine zs ?_
 refine zA ?_
 refine nT (zs (zn ?_))
 obtain ⟨⟨k,l,m,n⟩,j,h⟩:=bindS h
 refine zC (Z101w hA j) ?_ { tk:=[14] }
 refine AOps.weak (Wk.freezeG 0 3 rfl rfl rfl) ?_
 refine AOps.weak (Wk.freezeG 0 8 rfl rfl rfl) ?_
 refine AOps.weak (Wk.freezeG 0 9 rfl rfl rfl) ?_
 refine AOps.weak (Wk.freezeObj 0 [12] (ds:=[.list 1 k,.list 1 l,.list 1 m,.list 8 n,.int .i64 0,.int .i64 0,.int .i64 0,.int .i64 0,.list 6 [],.list 1 []]) rfl rfl) ?_
 obtain ⟨o,i,h⟩:=bindS h
 refine AOps.cN hT hA { tk:=[14] } 3 2 zc (lb rfl) (ACallO.emb (Z102w hA i) [some 10] [.dead,.dead,.dead,.dead,.dead,.dead,.dead,.dead,.dead,.dead,.dead] rfl rfl rfl rfl rfl rfl rfl rfl) rfl rfl (fun _=>rfl) rfl rfl rfl rfl rfl (lb rfl) rfl rfl ?_
 refine zE ?_ { tk:=[14] }
 refine nT (zr ?_)
 cases soI h
 exact zq

theorem Z66aw {A:Ar} (hA:SA A) {j l m o:List D} {e p q r:Int} {g k F:List D} {G:Bool} (h:Z66a A j l m o e p q r g k=some (F,G)):ACall Tryz.prog 66 [.d (.ref [.list 1 j,.list 1 l,.list 1 m,.list 8 o,.int .i64 e,.int .i64 p,.int .i64 q,.int .i64 r,.list 6 g,.list 1 k])] [] (.tuple [zl 1 F,.d (.bool G)]) []:=by
 unfold Z66a at h
 refine zI Tryz.func66 ?_
 refine zs ?_
 refine zA ?_
 refine nT (zs (zs (zn ?_)))
 obtain ⟨X,O,h⟩:=bindS h
 refine zC (Z65aw hA O) ?_
 refine zE ?_
 refine nT ?_
 rcases tf X with u | u
 ·replace h:=cT u h
  refine zU ?_
  refine zk (nT (zs ?_))
  refine zB ?_
  refine nT (zs (zs ?_))
  refine zB ?_
  refine nT (zb ?_)
  obtain ⟨j0,W,M,U,B⟩:=bindK h
  refine AWp.cutX 0 [0,4] [] 0 (lb rfl) (fun τ => ∃ E,M E=some (F,G)∧τ={ env:=[(0,.d (.ref [.list 1 j,.list 1 l,.list 1 m,.list 8 o,.int .i64 e,.int .i64 p,.int .i64 q,.int .i64 r,.list 6 g,.list 1 k])),(4,(.own 1 E))],heap:=[],n:=49 }) ?_ ?_
  ·skip
   refine AWp.iter W [0,4,5] [] 0 (lb rfl) (fun (J,i)=>{ env:=[(0,.d (.ref [.list 1 j,.list 1 l,.list 1 m,.list 8 o,.int .i64 e,.int .i64 p,.int .i64 q,.int .i64 r,.list 6 g,.list 1 k])),(4,(.own 1 J)),(5,zi i)],heap:=[],n:=49 }) ⟨rfl,zv⟩ ?_
   rintro ⟨J,i⟩ R b
   dsimp only [Z66aL1] at b
   refine zs (zs ?_)
   refine zA ?_
   refine nT ?_
   rcases tf (A.zlt i e) with v | v
   ·replace b:=cT v b
    refine zT ?_
    refine zk (nT (zs (zb (zs ?_))))
    refine zB ?_
    refine nT (zb ?_)
    obtain ⟨i0,V,L,S,z⟩:=bindK b
    refine AWp.cutX 2 [0,4,5] [] 0 (lb rfl) (fun τ => ∃ C,L C=some R∧τ={ env:=[(0,.d (.ref [.list 1 j,.list 1 l,.list 1 m,.list 8 o,.int .i64 e,.int .i64 p,.int .i64 q,.int .i64 r,.list 6 g,.list 1 k])),(4,(.own 1 C)),(5,zi i)],heap:=[],n:=49 }) ?_ ?_
    ·skip
     refine AWp.iter V [0,4,5,6] [] 0 (lb rfl) (fun (K,s)=>{ env:=[(0,.d (.ref [.list 1 j,.list 1 l,.list 1 m,.list 8 o,.int .i64 e,.int .i64 p,.int .i64 q,.int .i64 r,.list 6 g,.list 1 k])),(4,(.own 1 K)),(5,zi i),(6,zi s)],heap:=[],n:=49 }) ⟨rfl,zv⟩ ?_
     rintro ⟨K,s⟩ a0 a
     dsimp only [Z66aL0] at a
     refine zs (zs ?_)
     refine zA ?_
     refine nT ?_
     rcases tf (A.zlt s (A.len g)) with w | w
     ·replace a:=cT w a
      refine zT ?_
      refine zk (nT (zs (zb (zs ?_))))
      obtain ⟨N,P,a⟩:=bindS a
      obtain ⟨b0,c0⟩:=gtI P
      refine zB ?_
      refine nT ?_
      obtain ⟨Y,c,a⟩:=bindS a
      refine AWp.cutN [0,4,5,6] [] 0 (lb rfl) (fun τ=>τ={ env:=[(0,.d (.ref [.list 1 j,.list 1 l,.list 1 m,.list 8 o,.int .i64 e,.int .i64 p,.int .i64 q,.int .i64 r,.list 6 g,.list 1 k])),(4,(.own 1 Y)),(5,zi i),(6,zi s)],heap:=[],n:=49 }) ?_ ?_
      ·skip
       rcases tf (A.zeq N i) with y | y
       ·replace c:=cT y c
        refine zT ?_
        obtain ⟨g0,Q,c⟩:=bindS c
        obtain ⟨d0,e0⟩:=apI Q
        refine zB ?_ { tk:=[4,39] }
        cases soI c
        exact zO
       ·replace c:=cF y c
        refine zU ?_
        refine zk ?_
        cases soI c
        exact zO
      ·rintro _ rfl
       refine nB (nT ?_)
       refine zA ?_
       exact nT ⟨_,(soI a).symm,rfl,zc⟩
     ·replace a:=cF w a
      refine zU ?_
      refine AWp.exit (xT (xT ?_))
      refine exL a fun hx => ?_
      subst hx
      exact oxI ⟨rfl,_,z,zv⟩
    ·rintro _ ⟨C,z,rfl⟩
     have b:=(S _ z)
     refine xB (nB (nT ?_))
     refine zA ?_
     exact nT ⟨_,(soI b).symm,rfl,zc⟩
   ·replace b:=cF v b
    refine zU ?_
    refine AWp.exit (xT (xT ?_))
    refine exL b fun hx => ?_
    subst hx
    exact oxI ⟨rfl,_,B,zv⟩
  ·rintro _ ⟨E,B,rfl⟩
   have h:=(U _ B)
   refine xB (nT (zs ?_))
   refine AWp.rd hT hA {} rfl zc (by kernel_rfl) (lb rfl) ?_
   refine nT (zr ?_)
   cases soI h
   exact zq
 ·replace h:=cF u h
  refine zT ?_
  refine zs ?_
  refine zB ?_
  refine nT (zr (rT ?_))
  cases soI h
  exact zq

theorem Z22w {A:Ar} (hA:SA A) {g i:Int} {j k q r s:List D} {J:Bool} {K:Int} (h:Z22 A g i j k q r s=some (J,K)):ACall Tryz.prog 22 [.d (.agg [.int .i64 g,.int .i64 i,.list 1 j,.list 1 k]),zl 1 q,zl 1 r,zl 1 s] [] (.tuple [.d (.bool J),zi K]) []:=by
 unfold Z22 at h
 refine zI Tryz.func22 ?_
 refine zs ?_
 refine zA ?_
 refine nT (zs (zn ?_))
 obtain ⟨O,e8,h⟩:=bindS h
 refine zC (Z60w hA e8) ?_
 refine zE ?_
 refine nT (zs (zs ?_))
 obtain ⟨P,e,h⟩:=bindS h
 refine AWp.cutN [1,2,3,4,10,30] [] 0 (lb rfl) (fun τ=>τ={ env:=[(1,zl 1 q),(2,zl 1 r),(3,zl 1 s),(4,(.lbox [zi g,zi i,zl 1 j,zl 1 k])),(10,zi O),(30,.d (.bool P))],heap:=[],n:=96 }) ?_ ?_
 ·skip
  refine zn ?_
  rcases tf (A.zeq O 0) with u | u
  ·replace e:=cT u e
   obtain ⟨i2,l0,e⟩:=bindS e
   refine zD (Z64w hA l0) ?_
   refine zF ?_
   cases soI e
   exact zO
  ·replace e:=cF u e
   refine zF ?_
   cases soI e
   exact zO
 ·rintro _ rfl
  refine nT ?_
  obtain ⟨Q,m,h⟩:=bindS h
  refine AWp.cutN [1,2,3,4,10] [] 0 (lb rfl) (fun τ=>τ={ env:=[(1,zl 1 q),(2,zl 1 r),(3,zl 1 s),(4,(.lbox [zi g,zi i,zl 1 j,zl 1 k])),(10,zi Q)],heap:=[],n:=96 }) ?_ ?_
  ·skip
   rcases tf P with z | z
   ·replace m:=cT z m
    refine zT ?_
    refine zB ?_
    cases soI m
    exact zO
   ·replace m:=cF z m
    refine zU ?_
    refine zk ?_
    cases soI m
    exact zO
  ·rintro _ rfl
   refine nT (zs (zs ?_))
   refine zA ?_
   refine nT ?_
   rcases tf (A.zeq Q 0) with C | C
   ·replace h:=cT C h
    refine zU ?_
    refine zk (nT (zs (zn ?_)))
    obtain ⟨p,v0,h⟩:=bindS h
    refine zD (Z62w hA v0) ?_
    refine zF ?_
    refine nT (zs (zs ?_))
    refine zB ?_
    refine nT (zb ?_)
    obtain ⟨k2,a1,V,F,c⟩:=bindK h
    refine AWp.cutX 0 [] [] 0 (lb rfl) (fun τ=>V (.inl ())=some (J,K)∧τ={ env:=[],heap:=[],n:=96 }) ?_ ?_
    ·skip
     refine AWp.iter a1 [4,11,12] [] 0 (lb rfl) (fun o=>{ env:=[(4,(.lbox [zi g,zi i,zl 1 j,zl 1 k])),(11,zl 2 p),(12,zi o)],heap:=[],n:=96 }) ⟨rfl,zv⟩ ?_
     rintro o L a
     dsimp only [Z22L1] at a
     refine zs (zs ?_)
     refine zA ?_
     refine nT ?_
     rcases tf (A.zlt o (A.len p)) with v | v
     ·replace a:=cT v a
      refine zT ?_
      refine zk (nT (zs ?_))
      obtain ⟨U,y0,a⟩:=jnI a
      refine AWp.cutN [4,11,12] [] 0 (lb rfl) (fun τ=>U ()=some L∧τ={ env:=[(4,(.lbox [zi g,zi i,zl 1 j,zl 1 k])),(11,zl 2 p),(12,zi o)],heap:=[],n:=96 }) ?_ ?_
      ·skip
       refine zb (zs ?_)
       obtain ⟨⟨W,X,Y,a0,b0,c0,d0,e0,g0,i0,d1⟩,m0,a⟩:=bindS a
       obtain ⟨q1,r1⟩:=gtI m0
       refine zB ?_
       refine nT (zs (zs (zn ?_)))
       obtain ⟨b1,n0,a⟩:=bindS a
       refine zD (Z65aw hA n0) ?_
       refine zF ?_
       refine nT ?_
       rcases tf b1 with w | w
       ·replace a:=cT w a
        refine zU ?_
        refine zk (nT (zs (zn ?_)))
        obtain ⟨⟨N,c1⟩,o0,a⟩:=bindS a
        refine zD (Z66aw hA o0) ?_
        refine zF ?_
        refine nT (zs (zs ?_))
        refine zB ?_
        refine nT ?_
        rcases tf c1 with y | y
        ·replace a:=cT y a
         refine zU ?_
         refine zk (nT (zs ?_))
         refine zB ?_
         refine nT (zs ?_)
         refine zB ?_
         refine nT (zb ?_)
         obtain ⟨j2,z0,S,M,l⟩:=bindK a
         refine AWp.cutX 2 [4,11,12] [] 0 (lb rfl) (fun τ=>S (.inl ())=some L∧τ={ env:=[(4,(.lbox [zi g,zi i,zl 1 j,zl 1 k])),(11,zl 2 p),(12,zi o)],heap:=[],n:=96 }) ?_ ?_
         ·skip
          refine AWp.iter z0 [4,11,12,13,14,16,17] [] 0 (lb rfl) (fun (R,G)=>{ env:=[(4,(.lbox [zi g,zi i,zl 1 j,zl 1 k])),(11,zl 2 p),(12,zi o),(13,.d (.ref [.list 1 W,.list 1 X,.list 1 Y,.list 8 a0,.int .i64 b0,.int .i64 c0,.int .i64 d0,.int .i64 e0,.list 6 g0,.list 1 i0])),(14,zl 1 N),(16,zi R),(17,zi G)],heap:=[],n:=96 }) ⟨rfl,zv⟩ ?_
          rintro ⟨R,G⟩ p1 b
          dsimp only [Z22L0] at b
          refine zs (zs ?_)
          refine zA ?_
          refine nT ?_
          rcases tf (A.zlt G (A.len N)) with B | B
          ·replace b:=cT B b
           refine zT ?_
           refine zk (nT (zs (zb (zs ?_))))
           obtain ⟨e1,p0,b⟩:=bindS b
           obtain ⟨s1,u1⟩:=gtI p0
           obtain ⟨⟨g1,i1,j1,j0,k1,l1⟩,q0,b⟩:=bindS b
           obtain ⟨v1,w1⟩:=gtI q0
           refine AWp.rd hT hA { tk:=[74] } rfl zu (by kernel_rfl) (lb rfl) ?_
           refine nT (zs (zs ?_))
           obtain ⟨m1,r0,b⟩:=bindS b
           obtain ⟨y1,z1⟩:=gtI r0
           obtain ⟨k0,s0,b⟩:=bindS b
           obtain ⟨a2,b2⟩:=gtI s0
           refine AWp.rd hT hA {} rfl zu (by kernel_rfl) (lb rfl) ?_
           refine nT ?_
           rcases tf (A.zeq k0 j0) with E | E
           ·replace b:=cT E b
            refine zU ?_
            refine zk (nT ?_)
            obtain ⟨n1,u0,b⟩:=bindS b
            obtain ⟨c2,d2⟩:=gtI u0
            obtain ⟨o1,w0,b⟩:=bindS b
            obtain ⟨e2,g2⟩:=gtI w0
            refine AWp.rd hT hA {} rfl zu (by kernel_rfl) (lb rfl) ?_
            refine nB (nT ?_)
            refine zB ?_
            exact nT ⟨_,(soI b).symm,rfl,zv⟩
           ·replace b:=cF E b
            refine zT ?_
            refine zs ?_
            refine zB ?_
            refine nT (zr (rT (rB (rT (rT ?_)))))
            refine exL b fun hx => ?_
            subst hx
            refine oxR ?_
            replace l:=(eR (M _ l))
            refine rB (rB ?_)
            refine oNr ?_
            refine rT (rT ?_)
            refine exL l fun hx => ?_
            subst hx
            refine oxR ?_
            replace c:=(eR (F _ c))
            refine rB (rT ?_)
            cases soI c
            exact zq
          ·replace b:=cF B b
           refine zU ?_
           refine AWp.exit (xT (xT ?_))
           refine exL b fun hx => ?_
           subst hx
           exact oxI ⟨rfl,l,zv⟩
         ·rintro _ ⟨l,rfl⟩
          have a:=(eL (M _ l))
          refine xB (nB ?_)
          exact oNi ⟨rfl,a,zc⟩
        ·replace a:=cF y a
         refine zT ?_
         refine zs ?_
         refine zB ?_
         refine nT (zr (rT (rB ?_)))
         refine oNr ?_
         refine rT (rT ?_)
         refine exL a fun hx => ?_
         subst hx
         refine oxR ?_
         replace c:=(eR (F _ c))
         refine rB (rT ?_)
         cases soI c
         exact zq
       ·replace a:=cF w a
        refine zT ?_
        refine AWp.exit (xT (xB ?_))
        exact oNi ⟨rfl,a,zv⟩
      ·rintro _ ⟨a,rfl⟩
       replace a:=y0 _ a
       refine nT ?_
       refine zA ?_
       exact nT ⟨_,(soI a).symm,rfl,zc⟩
     ·replace a:=cF v a
      refine zU ?_
      refine AWp.exit (xT (xT ?_))
      refine exL a fun hx => ?_
      subst hx
      exact oxI ⟨rfl,c,zv⟩
    ·rintro _ ⟨c,rfl⟩
     have h:=(eL (F _ c))
     refine xB (nT (zs ?_))
     refine zA ?_
     refine nT (zr ?_)
     cases soI h
     exact zq
   ·replace h:=cF C h
    refine zT ?_
    refine zs ?_
    refine zB ?_
    refine nT (zr (rT ?_))
    cases soI h
    exact zq

theorem Z58w {A:Ar} (hA:SA A) {b p:List D} {v w y z B C E c e g i j k l m n o q:Int} {r s u:List D} {a:Bool} (h:Z58 A b p v w y z B C E c e g i j k l m n o q r s u=some a):ACall Tryz.prog 58 [.d (.ref [.list 1 b,.list 1 p,.int .i64 v,.int .i64 w,.int .i64 y,.int .i64 z,.int .i64 B,.int .i64 C,.int .i64 E,.int .i64 c,.int .i64 e,.int .i64 g,.int .i64 i,.int .i64 j,.int .i64 k,.int .i64 l,.int .i64 m,.int .i64 n,.int .i64 o,.int .i64 q,.list 6 r,.list 1 s]),zl 1 u] [] (.d (.bool a)) []:=by
 unfold Z58 at h
 refine zI Tryz.func58 ?_
 refine zs ?_
 refine zA ?_
 refine nT (zs (zn ?_))
 obtain ⟨G,F,h⟩:=bindS h
 refine zC (Z55w hA F) ?_ { tk:=[8] }
 refine zE ?_ { tk:=[8] }
 refine nT (zr ?_)
 cases soI h
 exact zq

theorem Z36cBw {A:Ar} (hA:SA A) {self186:List D→List D→Int→Int→Int→Int→Int→Int→Int→Int→Int→Int→Int→Int→Int→Int→Int→Int→Int→Int→List D→List D→Int→List D→List D→Option (Bool)} (m0 : ∀ {b q:List D} {v w y z B C E c e g i j k l m o p r:Int} {s u:List D} {F:Int} {G J:List D} {W:Bool},self186 b q v w y z B C E c e g i j k l m o p r s u F G J=some W→ACall Tryz.prog 36 [.d (.agg [.list 1 b,.list 1 q,.int .i64 v,.int .i64 w,.int .i64 y,.int .i64 z,.int .i64 B,.int .i64 C,.int .i64 E,.int .i64 c,.int .i64 e,.int .i64 g,.int .i64 i,.int .i64 j,.int .i64 k,.int .i64 l,.int .i64 m,.int .i64 o,.int .i64 p,.int .i64 r,.list 6 s,.list 1 u]),zi F,zl 1 G,zl 1 J,(.func 58 [] [])] [] (.d (.bool W)) []) {b q:List D} {v w y z B C E c e g i j k l m o p r:Int} {s u:List D} {F:Int} {G J:List D} {S:Bool} (h:Z36cB A self186 b q v w y z B C E c e g i j k l m o p r s u F G J=some S):ACall Tryz.prog 36 [.d (.agg [.list 1 b,.list 1 q,.int .i64 v,.int .i64 w,.int .i64 y,.int .i64 z,.int .i64 B,.int .i64 C,.int .i64 E,.int .i64 c,.int .i64 e,.int .i64 g,.int .i64 i,.int .i64 j,.int .i64 k,.int .i64 l,.int .i64 m,.int .i64 o,.int .i64 p,.int .i64 r,.list 6 s,.list 1 u]),zi F,zl 1 G,zl 1 J,(.func 58 [] [])] [] (.d (.bool S)) []:=by
 unfold Z36cB at h
 refine zI Tryz.func36 ?_
 refine zs ?_
 refine zA ?_ { esc:=[5] }
 refine nT (zs (zn ?_))
 obtain ⟨M,j0,h⟩:=bindS h
 refine zC (Z55aw hA j0) ?_
 refine zE ?_
 refine nT (zs (zs ?_))
 obtain ⟨V,L,h⟩:=bindS h
 refine AWp.cutW (fun τ=>τ={ env:=[(1,zi F),(2,zl 1 G),(3,zl 1 J),(4,(.func 58 [] [])),(5,.ptr 0 0),(11,zl 1 M),(24,.d (.bool V))],heap:=[.cells [zl 1 b,zl 1 q,zi v,zi w,zi y,zi z,zi B,zi C,zi E,zi c,zi e,zi g,zi i,zi j,zi k,zi l,zi m,zi o,zi p,zi r,zl 6 s,zl 1 u]],n:=55 }) ?_ ?_
 ·skip
  rcases tf (A.zeq (A.len M) 0) with P | P
  ·replace L:=cT P L
   refine zB ?_
   cases soI L
   exact oWi ⟨_,zR [some 0] [1,2,3,4,5,11,24],rfl⟩
  ·replace L:=cF P L
   refine zB ?_
   cases soI L
   exact oWi ⟨_,zR [some 0] [1,2,3,4,5,11,24],rfl⟩
 ·rintro _ rfl
  refine nT ?_
  rcases tf V with Q | Q
  ·replace h:=cT Q h
   refine zT ?_
   refine zs ?_
   refine AWp.weak (Wk.freezeObj 0 [5] (ds:=[.list 1 b,.list 1 q,.int .i64 v,.int .i64 w,.int .i64 y,.int .i64 z,.int .i64 B,.int .i64 C,.int .i64 E,.int .i64 c,.int .i64 e,.int .i64 g,.int .i64 i,.int .i64 j,.int .i64 k,.int .i64 l,.int .i64 m,.int .i64 o,.int .i64 p,.int .i64 r,.list 6 s,.list 1 u]) rfl rfl) ?_
   refine zn ?_
   obtain ⟨d3,k0,h⟩:=bindS h
   refine zD (Z58w hA k0) ?_ { tk:=[27] }
   refine zF ?_ { tk:=[27] }
   refine nT (zr (rT ?_))
   cases soI h
   exact zq
  ·replace h:=cF Q h
   refine zU ?_
   refine zk (nT (zs (zs ?_)))
   refine zB ?_
   refine nT (zb ?_)
   obtain ⟨e3,l0,X,U,K⟩:=bindK h
   refine AWp.cutX 0 [] [] 1 (lb rfl) (fun τ=>X (.inl ())=some S∧τ={ env:=[],heap:=[.cells [zl 1 b,zl 1 q,zi v,zi w,zi y,zi z,zi B,zi C,zi E,zi c,zi e,zi g,zi i,zi j,zi k,zi l,zi m,zi o,zi p,zi r,zl 6 s,zl 1 u]],n:=55 }) ?_ ?_
   ·skip
    refine AWp.iter l0 [1,2,3,4,5,28,29,30] [] 1 (lb rfl) (fun R=>{ env:=[(1,zi F),(2,zl 1 G),(3,zl 1 J),(4,(.func 58 [] [])),(5,.ptr 0 0),(28,zl 1 M),(29,(.d (.int .i64 (A.len M)))),(30,zi R)],heap:=[.cells [zl 1 b,zl 1 q,zi v,zi w,zi y,zi z,zi B,zi C,zi E,zi c,zi e,zi g,zi i,zi j,zi k,zi l,zi m,zi o,zi p,zi r,zl 6 s,zl 1 u]],n:=55 }) ⟨rfl,zv⟩ ?_
    rintro R p1 a
    dsimp only [Z36cL0] at a
    refine zs ?_
    refine zA ?_
    refine nT (zs ?_)
    rcases tf (A.zlt R (A.len M)) with N | N
    ·replace a:=cT N a
     refine zT ?_
     refine zk (nT (zs (zb (zs ?_))))
     obtain ⟨o1,Y,a⟩:=bindS a
     obtain ⟨q1,r1⟩:=gtI Y
     refine zB ?_
     refine nT (zs (zn ?_))
     obtain ⟨⟨n0,o0,p0,q0,r0,s0,u0,v0,w0,y0,z0,a1,b1,c1,d1,e1,g1,i1,j1,k1,l1,m1⟩,a0,a⟩:=bindS a
     refine zD (ACall.shift (Z83w hA a0) rfl rfl [.cells [zl 1 b,zl 1 q,zi v,zi w,zi y,zi z,zi B,zi C,zi E,zi c,zi e,zi g,zi i,zi j,zi k,zi l,zi m,zi o,zi p,zi r,zl 6 s,zl 1 u]] rfl rfl rfl rfl) ?_ { tk:=[35],esc:=[14] }
     refine zF ?_ { tk:=[35],esc:=[14] }
     refine nT (zs (zn ?_))
     obtain ⟨⟨d2,e2,g2,i2,j2,k2,l2,m2,n2,o2,p2,q2,r2,s2,u2,v2,w2,y2,z2,a3,b3,c3⟩,b0,a⟩:=bindS a
     refine zD (ACall.emb (Z84w hA b0) [some 7,some 1,some 2,some 3,some 4,some 5,some 6] [.cells [zl 1 b,zl 1 q,zi v,zi w,zi y,zi z,zi B,zi C,zi E,zi c,zi e,zi g,zi i,zi j,zi k,zi l,zi m,zi o,zi p,zi r,zl 6 s,zl 1 u],.gro 6 l1,.dead,.dead,.gro 1 m1,.dead,.dead,.cells [zl 1 n0,zl 1 o0,zi p0,zi q0,zi r0,zi s0,zi u0,zi v0,zi w0,zi y0,zi z0,zi a1,zi b1,zi c1,zi d1,zi e1,zi g1,zi i1,zi j1,zi k1,.gref 1 6,.gref 4 1]] rfl rfl rfl rfl rfl rfl rfl) ?_
     refine zF ?_
     refine nT (zs ?_)
     refine AWp.weak (Wk.freezeG 7 20 rfl rfl rfl) ?_
     refine AWp.weak (Wk.freezeG 7 21 rfl rfl rfl) ?_
     refine AWp.regionDraw rfl (lb rfl) ?_
     obtain ⟨b2,d0,a⟩:=bindS a
     obtain ⟨s1,u1,v1,w1⟩:=slI d0
     obtain ⟨_,e0,a⟩:=bindS a
     have y1:=ckI e0
     obtain ⟨c2,g0,a⟩:=bindS a
     obtain ⟨z1,a2⟩:=apI g0
     obtain ⟨n1,i0,a⟩:=bindS a
     refine DOps.c0 hT hA {} rfl zu (m0 i0) rfl rfl (lb rfl) rfl rfl ?_
     refine DOps.cd hT hA {} rfl zu (by kernel_rfl) ?_
     refine nT ?_
     rcases tf n1 with O | O
     ·replace a:=cT O a
      refine zU ?_
      refine zk (nB (nT ?_))
      refine zB ?_
      exact nT ⟨_,(soI a).symm,rfl,zv⟩
     ·replace a:=cF O a
      refine zT ?_
      refine zs ?_
      refine zB ?_
      refine nT (zr (rB (rT (rT ?_))))
      refine exL a fun hx => ?_
      subst hx
      refine oxR ?_
      replace K:=(eR (U _ K))
      refine rB (rT ?_)
      cases soI K
      exact zq
    ·replace a:=cF N a
     refine zU ?_
     refine AWp.exit (xT (xT ?_))
     refine exL a fun hx => ?_
     subst hx
     exact oxI ⟨rfl,K,zv⟩
   ·rintro _ ⟨K,rfl⟩
    have h:=(eL (U _ K))
    refine xB (nT (zs ?_))
    refine zA ?_
    refine nT (zr ?_)
    cases soI h
    exact zq

theorem Z36cRw {A:Ar} (hA:SA A) : ∀ (n:Nat) {b q:List D} {z B C E F G J c e g i j k l m o p r:Int} {s u:List D} {v:Int} {w y:List D} {a:Bool},Z36cR A n b q z B C E F G J c e g i j k l m o p r s u v w y=some a→ACall Tryz.prog 36 [.d (.agg [.list 1 b,.list 1 q,.int .i64 z,.int .i64 B,.int .i64 C,.int .i64 E,.int .i64 F,.int .i64 G,.int .i64 J,.int .i64 c,.int .i64 e,.int .i64 g,.int .i64 i,.int .i64 j,.int .i64 k,.int .i64 l,.int .i64 m,.int .i64 o,.int .i64 p,.int .i64 r,.list 6 s,.list 1 u]),zi v,zl 1 w,zl 1 y,(.func 58 [] [])] [] (.d (.bool a)) []
 | 0,_,_,_,_,_,_,_,_,_,_,_,_,_,_,_,_,_,_,_,_,_,_,_,_,_,_,h=>by cases h
 | n+1,_,_,_,_,_,_,_,_,_,_,_,_,_,_,_,_,_,_,_,_,_,_,_,_,_,_,h=>Z36cBw hA (fun h=>Z36cRw hA n h) h

theorem Z36cw {A:Ar} (hA:SA A) {b p:List D} {y z B C E F G c e g i j k l m n o q:Int} {r s:List D} {u:Int} {v w:List D} {a:Bool} (h:Z36c A b p y z B C E F G c e g i j k l m n o q r s u v w=some a):ACall Tryz.prog 36 [.d (.agg [.list 1 b,.list 1 p,.int .i64 y,.int .i64 z,.int .i64 B,.int .i64 C,.int .i64 E,.int .i64 F,.int .i64 G,.int .i64 c,.int .i64 e,.int .i64 g,.int .i64 i,.int .i64 j,.int .i64 k,.int .i64 l,.int .i64 m,.int .i64 n,.int .i64 o,.int .i64 q,.list 6 r,.list 1 s]),zi u,zl 1 v,zl 1 w,(.func 58 [] [])] [] (.d (.bool a)) []:=Z36cRw hA fuel h

theorem Z36bw {A:Ar} (hA:SA A) {b q:List D} {v w y z B C E c e g i j k l m o p r K:Int} {L M s u:List D} {S:Bool} (h:Z36b A b q v w y z B C E c e g i j k l m o p r K L M s u=some S):ACall Tryz.prog 36 [.agg [zl 1 b,zl 1 q,zi v,zi w,zi y,zi z,zi B,zi C,zi E,zi c,zi e,zi g,zi i,zi j,zi k,zi l,zi m,zi o,zi p,zi r,.gref 0 6,.gref 3 1],zi K,zl 1 L,zl 1 M,(.func 58 [] [])] [.gro 6 s,.dead,.dead,.gro 1 u,.dead,.dead] (.d (.bool S)) [.dead,.dead,.dead,.dead,.dead,.dead]:=by
 unfold Z36b at h
 refine zI Tryz.func36 ?_
 refine zs ?_
 refine zA ?_ { esc:=[5] }
 refine nT ?_
 refine AWp.weak (Wk.freezeG 6 20 rfl rfl rfl) ?_
 refine AWp.weak (Wk.freezeG 6 21 rfl rfl rfl) ?_
 refine zs (zn ?_)
 obtain ⟨J,i0,h⟩:=bindS h
 refine zC (ACall.emb (Z55aw hA i0) [some 6] [.dead,.dead,.dead,.dead,.dead,.dead,.cells [zl 1 b,zl 1 q,zi v,zi w,zi y,zi z,zi B,zi C,zi E,zi c,zi e,zi g,zi i,zi j,zi k,zi l,zi m,zi o,zi p,zi r,zl 6 s,zl 1 u]] rfl rfl rfl rfl rfl rfl rfl) ?_
 refine zE ?_
 refine nT (zs (zs ?_))
 obtain ⟨V,G,h⟩:=bindS h
 refine AWp.cutN [1,2,3,4,5,11,24] [] 7 (lb rfl) (fun τ=>τ={ env:=[(1,zi K),(2,zl 1 L),(3,zl 1 M),(4,(.func 58 [] [])),(5,.ptr 6 0),(11,zl 1 J),(24,.d (.bool V))],heap:=[.dead,.dead,.dead,.dead,.dead,.dead,.cells [zl 1 b,zl 1 q,zi v,zi w,zi y,zi z,zi B,zi C,zi E,zi c,zi e,zi g,zi i,zi j,zi k,zi l,zi m,zi o,zi p,zi r,zl 6 s,zl 1 u]],n:=55 }) ?_ ?_
 ·skip
  rcases tf (A.zeq (A.len J) 0) with P | P
  ·replace G:=cT P G
   refine zB ?_
   cases soI G
   exact zO
  ·replace G:=cF P G
   refine zB ?_
   cases soI G
   exact zO
 ·rintro _ rfl
  refine nT ?_
  rcases tf V with Q | Q
  ·replace h:=cT Q h
   refine zT ?_
   refine zs ?_
   refine AWp.weak (Wk.freezeObj 6 [5] (ds:=[.list 1 b,.list 1 q,.int .i64 v,.int .i64 w,.int .i64 y,.int .i64 z,.int .i64 B,.int .i64 C,.int .i64 E,.int .i64 c,.int .i64 e,.int .i64 g,.int .i64 i,.int .i64 j,.int .i64 k,.int .i64 l,.int .i64 m,.int .i64 o,.int .i64 p,.int .i64 r,.list 6 s,.list 1 u]) rfl rfl) ?_
   refine zn ?_
   obtain ⟨b3,j0,h⟩:=bindS h
   refine zD (Z58w hA j0) ?_ { tk:=[27] }
   refine zF ?_ { tk:=[27] }
   refine nT (zr (rT ?_))
   cases soI h
   exact zq
  ·replace h:=cF Q h
   refine zU ?_
   refine zk (nT (zs (zs ?_)))
   refine zB ?_
   refine nT (zb ?_)
   obtain ⟨c3,k0,W,U,F⟩:=bindK h
   refine AWp.cutX 0 [] [] 7 (lb rfl) (fun τ=>W (.inl ())=some S∧τ={ env:=[],heap:=[.dead,.dead,.dead,.dead,.dead,.dead,.cells [zl 1 b,zl 1 q,zi v,zi w,zi y,zi z,zi B,zi C,zi E,zi c,zi e,zi g,zi i,zi j,zi k,zi l,zi m,zi o,zi p,zi r,zl 6 s,zl 1 u]],n:=55 }) ?_ ?_
   ·skip
    refine AWp.iter k0 [1,2,3,4,5,28,29,30] [] 7 (lb rfl) (fun R=>{ env:=[(1,zi K),(2,zl 1 L),(3,zl 1 M),(4,(.func 58 [] [])),(5,.ptr 6 0),(28,zl 1 J),(29,(.d (.int .i64 (A.len J)))),(30,zi R)],heap:=[.dead,.dead,.dead,.dead,.dead,.dead,.cells [zl 1 b,zl 1 q,zi v,zi w,zi y,zi z,zi B,zi C,zi E,zi c,zi e,zi g,zi i,zi j,zi k,zi l,zi m,zi o,zi p,zi r,zl 6 s,zl 1 u]],n:=55 }) ⟨rfl,zv⟩ ?_
    rintro R n1 a
    dsimp only [Z36bL0] at a
    refine zs ?_
    refine zA ?_
    refine nT (zs ?_)
    rcases tf (A.zlt R (A.len J)) with N | N
    ·replace a:=cT N a
     refine zT ?_
     refine zk (nT (zs (zb (zs ?_))))
     obtain ⟨m1,X,a⟩:=bindS a
     obtain ⟨o1,p1⟩:=gtI X
     refine zB ?_
     refine nT (zs (zn ?_))
     obtain ⟨⟨l0,m0,n0,o0,p0,q0,r0,s0,u0,v0,w0,y0,z0,a1,b1,c1,d1,e1,g1,i1,j1,k1⟩,Y,a⟩:=bindS a
     refine zD (ACall.shift (Z83w hA Y) rfl rfl [.dead,.dead,.dead,.dead,.dead,.dead,.cells [zl 1 b,zl 1 q,zi v,zi w,zi y,zi z,zi B,zi C,zi E,zi c,zi e,zi g,zi i,zi j,zi k,zi l,zi m,zi o,zi p,zi r,zl 6 s,zl 1 u]] rfl rfl rfl rfl) ?_ { tk:=[35],esc:=[14] }
     refine zF ?_ { tk:=[35],esc:=[14] }
     refine nT (zs (zn ?_))
     obtain ⟨⟨b2,c2,d2,e2,g2,i2,j2,k2,l2,m2,n2,o2,p2,q2,r2,s2,u2,v2,w2,y2,z2,a3⟩,a0,a⟩:=bindS a
     refine zD (ACall.emb (Z84w hA a0) [some 13,some 7,some 8,some 9,some 10,some 11,some 12] [.dead,.dead,.dead,.dead,.dead,.dead,.cells [zl 1 b,zl 1 q,zi v,zi w,zi y,zi z,zi B,zi C,zi E,zi c,zi e,zi g,zi i,zi j,zi k,zi l,zi m,zi o,zi p,zi r,zl 6 s,zl 1 u],.gro 6 j1,.dead,.dead,.gro 1 k1,.dead,.dead,.cells [zl 1 l0,zl 1 m0,zi n0,zi o0,zi p0,zi q0,zi r0,zi s0,zi u0,zi v0,zi w0,zi y0,zi z0,zi a1,zi b1,zi c1,zi d1,zi e1,zi g1,zi i1,.gref 7 6,.gref 10 1]] rfl rfl rfl rfl rfl rfl rfl) ?_
     refine zF ?_
     refine nT (zs ?_)
     refine AWp.weak (Wk.freezeG 13 20 rfl rfl rfl) ?_
     refine AWp.weak (Wk.freezeG 13 21 rfl rfl rfl) ?_
     refine AWp.regionDraw rfl (lb rfl) ?_
     obtain ⟨z1,b0,a⟩:=bindS a
     obtain ⟨q1,r1,s1,u1⟩:=slI b0
     obtain ⟨_,d0,a⟩:=bindS a
     have v1:=ckI d0
     obtain ⟨a2,e0,a⟩:=bindS a
     obtain ⟨w1,y1⟩:=apI e0
     obtain ⟨l1,g0,a⟩:=bindS a
     refine DOps.c0 hT hA {} rfl zu (Z36cw hA g0) rfl rfl (lb rfl) rfl rfl ?_
     refine DOps.cd hT hA {} rfl zu (by kernel_rfl) ?_
     refine nT ?_
     rcases tf l1 with O | O
     ·replace a:=cT O a
      refine zU ?_
      refine zk (nB (nT ?_))
      refine zB ?_
      exact nT ⟨_,(soI a).symm,rfl,zv⟩
     ·replace a:=cF O a
      refine zT ?_
      refine zs ?_
      refine zB ?_
      refine nT (zr (rB (rT (rT ?_))))
      refine exL a fun hx => ?_
      subst hx
      refine oxR ?_
      replace F:=(eR (U _ F))
      refine rB (rT ?_)
      cases soI F
      exact zq
    ·replace a:=cF N a
     refine zU ?_
     refine AWp.exit (xT (xT ?_))
     refine exL a fun hx => ?_
     subst hx
     exact oxI ⟨rfl,F,zv⟩
   ·rintro _ ⟨F,rfl⟩
    have h:=(eL (U _ F))
    refine xB (nT (zs ?_))
    refine zA ?_
    refine nT (zr ?_)
    cases soI h
    exact zq

theorem Z17w {A:Ar} (hA:SA A) {e g:List D} {b:Bool} {c:Int} (h:Z17 A e g=some (b,c)):ACall Tryz.prog 17 [zl 1 e,zl 1 g] [] (.tuple [.d (.bool b),zi c]) []:=by
 unfold Z17 at h
 refine zI Tryz.func17 ?_
 refine zs ?_
 refine zA ?_
 refine nT (zs (zs (zn ?_)))
 obtain ⟨l,i,h⟩:=bindS h
 refine zC (Z40w hA i) ?_
 refine zE ?_
 refine nT (zs ?_)
 refine zA ?_
 refine nT ?_
 rcases tf (A.zeq l 0) with a | a
 ·replace h:=cT a h
  refine zU ?_
  refine zk (nT (zs (zn ?_)))
  obtain ⟨⟨n,o⟩,j,h⟩:=bindS h
  refine zD (Z35w hA j) ?_
  obtain ⟨m,k,h⟩:=bindS h
  refine zD (Z36bw hA k) ?_
  refine zF ?_
  refine nT (zr ?_)
  cases soI h
  exact zq
 ·replace h:=cF a h
  refine zT ?_
  refine zs ?_
  refine zB ?_
  refine nT (zr (rT ?_))
  cases soI h
  exact zq

theorem Z23w {A:Ar} (hA:SA A) {o p:List D} {j:Bool} {k:Int} (h:Z23 A o p=some (j,k)):ACall Tryz.prog 23 [zl 1 o,zl 1 p] [] (.tuple [.d (.bool j),zi k]) []:=by
 unfold Z23 at h
 refine zI Tryz.func23 ?_
 refine zs ?_
 refine zA ?_
 refine nT (zs (zn ?_))
 obtain ⟨y,r,h⟩:=bindS h
 refine zC (Z67w hA r) ?_
 refine zE ?_
 refine nT (zs (zs ?_))
 refine zA ?_
 refine nT ?_
 rcases tf (A.zeq y 0) with g | g
 ·replace h:=cT g h
  refine zU ?_
  refine zk (nT (zs (zn ?_)))
  obtain ⟨m,v,h⟩:=bindS h
  refine zD (Z62w hA v) ?_
  refine zF ?_
  refine nT (zs (zs ?_))
  refine zB ?_
  refine nT (zb ?_)
  obtain ⟨S,w,q,l,b⟩:=bindK h
  refine AWp.cutX 0 [] [] 0 (lb rfl) (fun τ=>q (.inl ())=some (j,k)∧τ={ env:=[],heap:=[],n:=31 }) ?_ ?_
  ·skip
   refine AWp.iter w [7,8] [] 0 (lb rfl) (fun i=>{ env:=[(7,zl 2 m),(8,zi i)],heap:=[],n:=31 }) ⟨rfl,zv⟩ ?_
   rintro i P a
   dsimp only [Z23L0] at a
   refine zs (zs ?_)
   refine zA ?_
   refine nT ?_
   rcases tf (A.zlt i (A.len m)) with c | c
   ·replace a:=cT c a
    refine zT ?_
    refine zk (nT (zs (zb (zs (zn ?_)))))
    obtain ⟨⟨B,C,E,F,G,J,K,L,M,N,O⟩,s,a⟩:=bindS a
    obtain ⟨Q,R⟩:=gtI s
    obtain ⟨z,u,a⟩:=bindS a
    refine zD (Z65aw hA u) ?_
    refine zF ?_
    refine nT ?_
    rcases tf z with e | e
    ·replace a:=cT e a
     refine zU ?_
     refine zk (nB (nT ?_))
     refine zB ?_
     exact nT ⟨_,(soI a).symm,rfl,zv⟩
    ·replace a:=cF e a
     refine zT ?_
     refine zs ?_
     refine zB ?_
     refine nT (zr (rB (rT (rT ?_))))
     refine exL a fun hx => ?_
     subst hx
     refine oxR ?_
     replace b:=(eR (l _ b))
     refine rB (rT ?_)
     cases soI b
     exact zq
   ·replace a:=cF c a
    refine zU ?_
    refine AWp.exit (xT (xT ?_))
    refine exL a fun hx => ?_
    subst hx
    exact oxI ⟨rfl,b,zv⟩
  ·rintro _ ⟨b,rfl⟩
   have h:=(eL (l _ b))
   refine xB (nT (zs ?_))
   refine zA ?_
   refine nT (zr ?_)
   cases soI h
   exact zq
 ·replace h:=cF g h
  refine zT ?_
  refine zs ?_
  refine zB ?_
  refine nT (zr (rT ?_))
  cases soI h
  exact zq

theorem Z5w {A:Ar} (hA:SA A) {l m:Int} {o p q r s:List D} {v:Bool} (h:Z5 A l m o p q r s=some v):ACall Tryz.prog 5 [.d (.agg [.int .i64 l,.int .i64 m,.list 1 o,.list 1 p,.list 1 q,.list 1 r]),zl 1 s] [] (.d (.bool v)) []:=by
 unfold Z5 at h
 refine zI Tryz.func5 ?_
 refine zs ?_
 refine zA ?_
 refine nT (zs (zs ?_))
 obtain ⟨u,b,h⟩:=bindS h
 refine AWp.cutN [1,2,19] [] 0 (lb rfl) (fun τ=>τ={ env:=[(1,zl 1 s),(2,(.lbox [zi l,zi m,zl 1 o,zl 1 p,zl 1 q,zl 1 r])),(19,.d (.bool u))],heap:=[],n:=80 }) ?_ ?_
 ·skip
  refine zn ?_
  obtain ⟨Q,F,b⟩:=bindS b
  refine zC (Z18w hA F) ?_
  rcases tf Q with c | c
  ·replace b:=cT c b
   refine zF ?_
   cases soI b
   exact zO
  ·replace b:=cF c b
   refine zF ?_
   cases soI b
   exact zO
 ·rintro _ rfl
  refine nT ?_
  rcases tf u with e | e
  ·replace h:=cT e h
   refine zT ?_
   refine zs (zn ?_)
   obtain ⟨S,w,h⟩:=bindS h
   refine zD (Z9w hA w) ?_ { tk:=[20] }
   refine zF ?_ { tk:=[20] }
   refine nT (zr (rT ?_))
   cases soI h
   exact zq
  ·replace h:=cF e h
   refine zU ?_
   refine zk (nT (zs (zn ?_)))
   obtain ⟨⟨G,J⟩,y,h⟩:=bindS h
   refine zD (Z16w hA y) ?_
   refine zF ?_
   refine nT (zs (zn ?_))
   obtain ⟨⟨K,L⟩,z,h⟩:=bindS h
   refine zD (Z22w hA z) ?_
   refine zF ?_
   refine nT (zs (zn ?_))
   obtain ⟨⟨M,N⟩,B,h⟩:=bindS h
   refine zD (Z17w hA B) ?_
   refine zF ?_
   refine nT (zs (zn ?_))
   obtain ⟨⟨O,P⟩,C,h⟩:=bindS h
   refine zD (Z23w hA C) ?_
   refine zF ?_
   refine nT (zs ?_)
   obtain ⟨R,a,h⟩:=bindS h
   refine AWp.cutN [4] [] 0 (lb rfl) (fun τ=>τ={ env:=[(4,.d (.bool R))],heap:=[],n:=80 }) ?_ ?_
   ·skip
    refine zn ?_
    rcases tf (A.beq G K) with g | g
    ·replace a:=cT g a
     rcases tf (A.zeq J L) with i | i
     ·replace a:=cT i a
      rcases tf (A.beq M O) with j | j
      ·replace a:=cT j a
       rcases tf (A.zeq N P) with k | k
       ·replace a:=cT k a
        obtain ⟨U,E,a⟩:=bindS a
        refine zD (Z9w hA E) ?_ { tk:=[79] }
        refine zF ?_ { tk:=[79] }
        cases soI a
        exact zO
       ·replace a:=cF k a
        refine zF ?_ { tk:=[79] }
        cases soI a
        exact zO
      ·replace a:=cF j a
       refine zF ?_ { tk:=[79] }
       cases soI a
       exact zO
     ·replace a:=cF i a
      refine zF ?_ { tk:=[79] }
      cases soI a
      exact zO
    ·replace a:=cF g a
     refine zF ?_ { tk:=[79] }
     cases soI a
     exact zO
   ·rintro _ rfl
    refine nT (zr ?_)
    cases soI h
    exact zq
end Go.Am
