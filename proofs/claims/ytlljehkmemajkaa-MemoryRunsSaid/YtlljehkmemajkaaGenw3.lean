/- Own text: Genw3. -/
import Derived.Test.YtlljehkmemajkaaGenw2
set_option maxRecDepth 100000
set_option maxHeartbeats 2000000
set_option linter.unusedVariables false
set_option linter.unusedSimpArgs false
namespace Go.Am
open Go Go.Proofs
theorem M35w {A:Ar} (hA:SA A) {c:List D} {r s:Int} (h:M35 A c=some (r,s)):ACall Try.prog 35 [zl 1 c] [] (.tuple [zi r,zi s]) []:=by
 unfold M35 at h
 refine zI Try.func35 ?_
 refine zs ?_
 refine zA ?_
 refine nT (zs (zs (zn ?_)))
 obtain ⟨O,E,h⟩:=bindS h
 refine zC (M23w hA E) ?_
 refine zE ?_
 refine nT ?_
 rcases tf O with j | j
 ·replace h:=cT j h
  refine zU ?_
  refine zk (nT (zs ?_))
  refine zB ?_
  refine nT (zs (zs ?_))
  refine zB ?_
  refine nT (zb ?_)
  obtain ⟨V,N,C,L,l⟩:=bindK h
  refine AWp.cutX 0 [4] [] 0 (lb rfl) (fun τ => ∃ q,C q=some (r,s)/\τ={ env:=[(4,zi q)],heap:=[],n:=34 }) ?_ ?_
  ·skip
   refine AWp.iter N [4,5,12,13,14] [] 0 (lb rfl) (fun (v,w,e)=>{ env:=[(4,zi v),(5,zi w),(12,zl 1 c),(13,(.d (.int .i64 (A.len c)))),(14,zi e)],heap:=[],n:=34 }) ⟨rfl,zv⟩ ?_
   rintro ⟨v,w,e⟩ J a
   dsimp only [M35L1] at a
   refine zs ?_
   refine zA ?_
   refine nT (zs ?_)
   rcases tf (A.zlt e (A.len c)) with g | g
   ·replace a:=cT g a
    refine zT ?_
    refine zk (nT (zs (zb (zs ?_))))
    obtain ⟨u,F,a⟩:=bindS a
    obtain ⟨Q,R⟩:=gtI F
    refine zB ?_
    refine nT (zs ?_)
    refine zB ?_
    refine nT (zb ?_)
    obtain ⟨U,M,B,K,k⟩:=bindK a
    refine AWp.cutX 2 [4,5,12,13,14] [] 0 (lb rfl) (fun τ => ∃ o p,B (o,p)=some J/\τ={ env:=[(4,zi o),(5,zi p),(12,zl 1 c),(13,(.d (.int .i64 (A.len c)))),(14,zi e)],heap:=[],n:=34 }) ?_ ?_
    ·skip
     refine AWp.iter M [4,5,12,13,14,19,20] [] 0 (lb rfl) (fun (y,z,m)=>{ env:=[(4,zi y),(5,zi z),(12,zl 1 c),(13,(.d (.int .i64 (A.len c)))),(14,zi e),(19,(.d (.int .i64 (A.len u)))),(20,zi m)],heap:=[],n:=34 }) ⟨rfl,zv⟩ ?_
     rintro ⟨y,z,m⟩ P b
     dsimp only [M35L0] at b
     refine zs ?_
     refine zA ?_
     refine nT (zs ?_)
     rcases tf (A.zlt m (A.len u)) with i | i
     ·replace b:=cT i b
      refine zT ?_
      refine zk (nT (zs (zb (zs ?_))))
      refine zB ?_
      refine nT (zs ?_)
      refine zB ?_
      refine nT ?_
      obtain ⟨_,G,b⟩:=bindS b
      have S:=nkI G
      refine zB ?_
      refine nB (nT ?_)
      refine zB ?_
      exact nT ⟨_,(soI b).symm,rfl,zv⟩
     ·replace b:=cF i b
      refine zU ?_
      refine AWp.exit (xT (xT ?_))
      refine exL b fun hx => ?_
      subst hx
      exact oxI ⟨rfl,_,_,k,zv⟩
    ·rintro _ ⟨o,p,k,rfl⟩
     have a:=(K _ k)
     refine xB (nB (nT ?_))
     refine zA ?_
     exact nT ⟨_,(soI a).symm,rfl,zc⟩
   ·replace a:=cF g a
    refine zU ?_
    refine AWp.exit (xT (xT ?_))
    refine exL a fun hx => ?_
    subst hx
    exact oxI ⟨rfl,_,l,zv⟩
  ·rintro _ ⟨q,l,rfl⟩
   have h:=(L _ l)
   refine xB (nT (zs ?_))
   refine zA ?_
   refine nT (zr ?_)
   cases soI h
   exact zq
 ·replace h:=cF j h
  refine zT ?_
  refine zs ?_
  refine zB ?_
  refine nT (zr (rT ?_))
  cases soI h
  exact zq

theorem M81w {A:Ar} (hA:SA A) {c:List D} {r:Int} (h:M81 A c=some r):ACall Try.prog 81 [zl 1 c] [] (zi r) []:=by
 unfold M81 at h
 refine zI Try.func81 ?_
 refine zs ?_
 refine zA ?_
 refine nT (zs ?_)
 refine zA ?_
 refine nT (zs (zs ?_))
 refine zA ?_
 refine nT (zb ?_)
 obtain ⟨V,K,w,G,o⟩:=bindK h
 refine AWp.cutX 0 [3] [] 0 (lb rfl) (fun τ => ∃ q,w q=some r/\τ={ env:=[(3,zi q)],heap:=[],n:=33 }) ?_ ?_
 ·skip
  refine AWp.iter K [0,3,4] [] 0 (lb rfl) (fun (s,g)=>{ env:=[(0,zl 1 c),(3,zi s),(4,zi g)],heap:=[],n:=33 }) ⟨rfl,zc⟩ ?_
  rintro ⟨s,g⟩ E b
  dsimp only [M81L1] at b
  refine zs (zs ?_)
  refine zA ?_
  refine nT ?_
  rcases tf (A.zlt g (A.len c)) with j | j
  ·replace b:=cT j b
   refine zT ?_
   refine zk (nT (zs (zb (zs ?_))))
   refine zB ?_
   refine nT (zb ?_)
   obtain ⟨U,J,v,F,m⟩:=bindK b
   refine AWp.cutX 2 [0,3,4] [] 0 (lb rfl) (fun τ => ∃ p,v p=some E/\τ={ env:=[(0,zl 1 c),(3,zi p),(4,zi g)],heap:=[],n:=33 }) ?_ ?_
   ·skip
    refine AWp.iter J [0,3,4,5] [] 0 (lb rfl) (fun (u,i)=>{ env:=[(0,zl 1 c),(3,zi u),(4,zi g),(5,zi i)],heap:=[],n:=33 }) ⟨rfl,zv⟩ ?_
    rintro ⟨u,i⟩ O a
    dsimp only [M81L0] at a
    refine zs (zs ?_)
    obtain ⟨y,B,a⟩:=bindS a
    obtain ⟨P,Q⟩:=gtI B
    refine zB ?_
    refine nT ?_
    rcases tf (A.zlt i (A.len y)) with k | k
    ·replace a:=cT k a
     refine zT ?_
     refine zk (nT (zs (zb (zs ?_))))
     obtain ⟨⟨z,M,N⟩,C,a⟩:=bindS a
     obtain ⟨R,S⟩:=gtI C
     refine zB ?_
     refine nT ?_
     obtain ⟨L,e,a⟩:=bindS a
     refine AWp.cutN [0,3,4,5] [] 0 (lb rfl) (fun τ=>τ={ env:=[(0,zl 1 c),(3,zi L),(4,zi g),(5,zi i)],heap:=[],n:=33 }) ?_ ?_
     ·skip
      rcases tf (A.zeq z 1) with l | l
      ·replace e:=cT l e
       refine zT ?_
       refine zB ?_ { tk:=[31] }
       cases soI e
       exact zO
      ·replace e:=cF l e
       refine zU ?_
       refine zk ?_
       cases soI e
       exact zO
     ·rintro _ rfl
      refine nB (nT ?_)
      refine zA ?_
      exact nT ⟨_,(soI a).symm,rfl,zc⟩
    ·replace a:=cF k a
     refine zU ?_
     refine AWp.exit (xT (xT ?_))
     refine exL a fun hx => ?_
     subst hx
     exact oxI ⟨rfl,_,m,zv⟩
   ·rintro _ ⟨p,m,rfl⟩
    have b:=(F _ m)
    refine xB (nB (nT ?_))
    refine zA ?_
    exact nT ⟨_,(soI b).symm,rfl,zc⟩
  ·replace b:=cF j b
   refine zU ?_
   refine AWp.exit (xT (xT ?_))
   refine exL b fun hx => ?_
   subst hx
   exact oxI ⟨rfl,_,o,zv⟩
 ·rintro _ ⟨q,o,rfl⟩
  have h:=(G _ o)
  refine xB (nT (zs ?_))
  refine zA ?_ { tk:=[3,32] }
  refine nT (zr ?_)
  cases soI h
  exact zq

theorem M38w {A:Ar} (hA:SA A) {e:List D} {b c:Int} (h:M38 A e=some (b,c)):ACall Try.prog 38 [zl 1 e] [] (.tuple [zi b,zi c]) []:=by
 unfold M38 at h
 refine zI Try.func38 ?_
 refine zs ?_
 refine zA ?_
 refine nT (zs (zs (zn ?_)))
 obtain ⟨j,g,h⟩:=bindS h
 refine zC (M24w hA g) ?_
 refine zE ?_
 refine nT ?_
 rcases tf j with a | a
 ·replace h:=cT a h
  refine zU ?_
  refine zk (nT (zs (zn ?_)))
  obtain ⟨k,i,h⟩:=bindS h
  refine zD (M81w hA i) ?_
  refine zF ?_
  refine nT (zr ?_)
  cases soI h
  exact zq
 ·replace h:=cF a h
  refine zT ?_
  refine zs ?_
  refine zB ?_
  refine nT (zr (rT ?_))
  cases soI h
  exact zq

theorem M7w {A:Ar} (hA:SA A) {q r:List D} {u:Bool} (h:M7 A q r=some u):ACall Try.prog 7 [zl 1 q,zl 1 r] [] (.d (.bool u)) []:=by
 unfold M7 at h
 refine zI Try.func7 ?_
 refine zs ?_
 refine zA ?_
 refine nT (zs (zs ?_))
 obtain ⟨v,m,h⟩:=bindS h
 refine AWp.cutN [0,1,21] [] 0 (lb rfl) (fun τ=>τ={ env:=[(0,zl 1 q),(1,zl 1 r),(21,.d (.bool v))],heap:=[],n:=85 }) ?_ ?_
 ·skip
  refine zn ?_
  obtain ⟨V,F,m⟩:=bindS m
  refine zC (M17w hA F) ?_
  rcases tf V with p | p
  ·replace m:=cT p m
   refine zE ?_ (h:=(by (repeat (cbv;simp only [p]));try cbv))
   cases soI m
   exact (zO (g:=(by first | (cbv;done) | ((repeat (cbv;simp only [p]));try cbv))))
  ·replace m:=cF p m
   refine zE ?_ (h:=(by (repeat (cbv;simp only [p]));try cbv))
   cases soI m
   exact (zO (g:=(by first | (cbv;done) | ((repeat (cbv;simp only [p]));try cbv))))
 ·rintro _ rfl
  refine nT ?_
  rcases tf v with c | c
  ·replace h:=cT c h
   refine zT ?_ (hb:=(by first | rfl | simp only [c,zqa,zqb,zqc,zqd]))
   refine zs (zn ?_)
   obtain ⟨X,K,h⟩:=bindS h
   refine zC (M18w hA K) ?_ { tk:=[22] } (h:=(by (repeat (cbv;simp only [c]));try cbv))
   refine zE ?_ { tk:=[22] } (h:=(by (repeat (cbv;simp only [c]));try cbv))
   refine nT (zr (rT ?_))
   cases soI h
   exact zq
  ·replace h:=cF c h
   refine zU ?_ (hb:=(by first | rfl | simp only [c,zqa,zqb,zqc,zqd]))
   refine zk (nT (zs (zn ?_)))
   obtain ⟨⟨Y,a0⟩,w,h⟩:=bindS h
   refine zC (M33w hA w) ?_ (h:=(by (repeat (cbv;simp only [c]));try cbv))
   refine zE ?_ (h:=(by (repeat (cbv;simp only [c]));try cbv))
   refine nT (zs (zn ?_))
   obtain ⟨⟨b0,c0⟩,y,h⟩:=bindS h
   refine zC (M34w hA y) ?_ (h:=(by (repeat (cbv;simp only [c]));try cbv))
   refine zE ?_ (h:=(by (repeat (cbv;simp only [c]));try cbv))
   refine nT (zs (zs ?_))
   obtain ⟨s,l,h⟩:=bindS h
   refine AWp.cutN [0,43] [] 0 (lb rfl) (fun τ=>τ={ env:=[(0,zl 1 q),(43,.d (.bool s))],heap:=[],n:=85 }) ?_ ?_
   ·skip
    refine zn ?_
    obtain ⟨L,z,l⟩:=bindS l
    refine zC (M30w hA z) ?_ (h:=(by (repeat (cbv;simp only [c]));try cbv))
    rcases tf (A.zeq L 0) with o | o
    ·replace l:=cT o l
     refine zE ?_ (h:=(by (repeat (cbv;simp only [c,o]));try cbv))
     cases soI l
     exact (zO (g:=(by first | (cbv;done) | ((repeat (cbv;simp only [c,o]));try cbv))))
    ·replace l:=cF o l
     refine zE ?_ (h:=(by (repeat (cbv;simp only [c,o]));try cbv))
     cases soI l
     exact (zO (g:=(by first | (cbv;done) | ((repeat (cbv;simp only [c,o]));try cbv))))
   ·rintro _ rfl
    refine nT ?_
    rcases tf s with a | a
    ·replace h:=cT a h
     refine zT ?_ (hb:=(by first | rfl | simp only [a,zqa,zqb,zqc,zqd]))
     refine zs ?_
     refine zA ?_ (h:=(by (repeat (cbv;simp only [a]));try cbv))
     refine nT (zr (rT ?_))
     cases soI h
     exact zq
    ·replace h:=cF a h
     refine zU ?_ (hb:=(by first | rfl | simp only [a,zqa,zqb,zqc,zqd]))
     refine zk (nT (zs (zn ?_)))
     obtain ⟨⟨M,N⟩,B,h⟩:=bindS h
     refine zC (M35w hA B) ?_ (h:=(by (repeat (cbv;simp only [a]));try cbv))
     refine zE ?_ (h:=(by (repeat (cbv;simp only [a]));try cbv))
     refine nT (zs (zn ?_))
     obtain ⟨⟨O,P⟩,C,h⟩:=bindS h
     refine zC (M36w hA C) ?_ (h:=(by (repeat (cbv;simp only [a]));try cbv))
     refine zE ?_ (h:=(by (repeat (cbv;simp only [a]));try cbv))
     refine nT (zs (zn ?_))
     obtain ⟨⟨Q,R⟩,E,h⟩:=bindS h
     refine zC (M37w hA E) ?_ (h:=(by (repeat (cbv;simp only [a]));try cbv))
     refine zE ?_ (h:=(by (repeat (cbv;simp only [a]));try cbv))
     refine nT (zs (zn ?_))
     obtain ⟨⟨S,U⟩,G,h⟩:=bindS h
     refine zC (M38w hA G) ?_ (h:=(by (repeat (cbv;simp only [a]));try cbv))
     refine zE ?_ (h:=(by (repeat (cbv;simp only [a]));try cbv))
     refine nT (zs ?_)
     obtain ⟨W,b,h⟩:=bindS h
     refine AWp.cutN [4] [] 0 (lb rfl) (fun τ=>τ={ env:=[(4,.d (.bool W))],heap:=[],n:=85 }) ?_ ?_
     ·skip
      refine zn ?_
      rcases tf (A.zeq M O) with e | e
      ·replace b:=cT e b
       rcases tf (A.zeq N P) with i | i
       ·replace b:=cT i b
        rcases tf (A.zeq Q S) with j | j
        ·replace b:=cT j b
         rcases tf (A.zeq R U) with k | k
         ·replace b:=cT k b
          obtain ⟨d0,J,b⟩:=bindS b
          refine zC (M18w hA J) ?_ { tk:=[84] } (h:=(by (repeat (cbv;simp only [a,e,i,j,k]));try cbv))
          refine zE ?_ { tk:=[84] } (h:=(by (repeat (cbv;simp only [a,e,i,j,k]));try cbv))
          cases soI b
          exact (zO (g:=(by first | (cbv;done) | ((repeat (cbv;simp only [a,e,i,j,k]));try cbv))))
         ·replace b:=cF k b
          refine zE ?_ { tk:=[84] } (h:=(by (repeat (cbv;simp only [a,e,i,j,k]));try cbv))
          cases soI b
          exact (zO (g:=(by first | (cbv;done) | ((repeat (cbv;simp only [a,e,i,j,k]));try cbv))))
        ·replace b:=cF j b
         refine zE ?_ { tk:=[84] } (h:=(by (repeat (cbv;simp only [a,e,i,j]));try cbv))
         cases soI b
         exact (zO (g:=(by first | (cbv;done) | ((repeat (cbv;simp only [a,e,i,j]));try cbv))))
       ·replace b:=cF i b
        refine zE ?_ { tk:=[84] } (h:=(by (repeat (cbv;simp only [a,e,i]));try cbv))
        cases soI b
        exact (zO (g:=(by first | (cbv;done) | ((repeat (cbv;simp only [a,e,i]));try cbv))))
      ·replace b:=cF e b
       refine zE ?_ { tk:=[84] } (h:=(by (repeat (cbv;simp only [a,e]));try cbv))
       cases soI b
       exact (zO (g:=(by first | (cbv;done) | ((repeat (cbv;simp only [a,e]));try cbv))))
     ·rintro _ rfl
      refine nT (zr ?_)
      cases soI h
      exact zq
end Go.Am
