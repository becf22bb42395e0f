/- Own text: Genw5. -/
import Derived.Test.YtkjeamngjnfpkaaGenw4
set_option maxRecDepth 100000
set_option maxHeartbeats 2000000
set_option linter.unusedVariables false
set_option linter.unusedSimpArgs false
namespace Go.Am
open Go Go.Proofs
theorem K17w {A:Ar} (hA:SA A) {c e:List D} {l:Bool} (h:K17 A c e=some l):ACall Try.prog 17 [zl 6 c,zl 6 e] [] (.d (.bool l)) []:=by
 unfold K17 at h
 refine zI Try.func17 ?_
 refine zs ?_
 refine zA ?_
 refine nT (zs (zs ?_))
 refine zA ?_
 refine nT ?_
 rcases tf (A.zeq (A.len c) (A.len e)) with i | i
 ·replace h:=cT i h
  refine zU ?_
  refine zk (nT (zs (zs ?_)))
  refine zB ?_
  refine nT (zb ?_)
  obtain ⟨O,G,K45,m,b⟩:=bindK h
  refine AWp.cutX 0 [] [] 0 (lb rfl) (fun τ=>K45 (.inl ())=some l/\τ={ env:=[],heap:=[],n:=26 }) ?_ ?_
  ·skip
   refine AWp.iter G [0,1,5] [] 0 (lb rfl) (fun k=>{ env:=[(0,zl 6 c),(1,zl 6 e),(5,zi k)],heap:=[],n:=26 }) ⟨rfl,zv⟩ ?_
   rintro k J a
   dsimp only [K17L0] at a
   refine zs (zs ?_)
   refine zA ?_
   refine nT ?_
   rcases tf (A.zlt k (A.len c)) with g | g
   ·replace a:=cT g a
    refine zT ?_
    refine zk (nT (zs (zb (zs ?_))))
    obtain ⟨⟨o,p,q,r,s,u⟩,E,a⟩:=bindS a
    obtain ⟨K,L⟩:=gtI E
    obtain ⟨⟨v,w,y,z,B,C⟩,F,a⟩:=bindS a
    obtain ⟨M,N⟩:=gtI F
    refine AWp.rd hT hA {} rfl zu (by kernel_rfl) (lb rfl) ?_
    refine nT ?_
    rcases tf (A.deq [.int .i64 o,.int .i64 p,.int .i64 q,.int .i64 r,.int .i64 s,.int .i64 u] [.int .i64 v,.int .i64 w,.int .i64 y,.int .i64 z,.int .i64 B,.int .i64 C]) with j | j
    ·replace a:=cT j a
     refine zU ?_
     refine zk (nB (nT ?_))
     refine zB ?_
     exact nT ⟨_,(soI a).symm,rfl,zv⟩
    ·replace a:=cF j a
     refine zT ?_
     refine zs ?_
     refine zB ?_
     refine nT (zr (rB (rT (rT ?_))))
     refine exL a fun hx => ?_
     subst hx
     refine oxR ?_
     replace b:=(eR (m _ b))
     refine rB (rT ?_)
     cases soI b
     exact zq
   ·replace a:=cF g a
    refine zU ?_
    refine AWp.exit (xT (xT ?_))
    refine exL a fun hx => ?_
    subst hx
    exact oxI ⟨rfl,b,zv⟩
  ·rintro _ ⟨b,rfl⟩
   have h:=(eL (m _ b))
   refine xB (nT (zs ?_))
   refine zA ?_
   refine nT (zr ?_)
   cases soI h
   exact zq
 ·replace h:=cF i h
  refine zT ?_
  refine zs ?_
  refine zB ?_
  refine nT (zr (rT ?_))
  cases soI h
  exact zq

theorem K40w {A:Ar} (hA:SA A) {c e:List D} {l:Bool} (h:K40 A c e=some l):ACall Try.prog 40 [zl 1 c,zl 1 e] [] (.d (.bool l)) []:=by
 unfold K40 at h
 refine zI Try.func40 ?_
 refine zs ?_
 refine zA ?_
 refine nT (zs (zs ?_))
 refine zA ?_
 refine nT ?_
 rcases tf (A.zeq (A.len c) (A.len e)) with j | j
 ·replace h:=cT j h
  refine zU ?_
  refine zk (nT (zs (zs ?_)))
  refine zB ?_
  refine nT (zb ?_)
  obtain ⟨F,s,o,m,b⟩:=bindK h
  refine AWp.cutX 0 [] [] 0 (lb rfl) (fun τ=>o (.inl ())=some l/\τ={ env:=[],heap:=[],n:=27 }) ?_ ?_
  ·skip
   refine AWp.iter s [0,1,5] [] 0 (lb rfl) (fun k=>{ env:=[(0,zl 1 c),(1,zl 1 e),(5,zi k)],heap:=[],n:=27 }) ⟨rfl,zv⟩ ?_
   rintro k y a
   dsimp only [K40L0] at a
   refine zs (zs ?_)
   refine zA ?_
   refine nT ?_
   rcases tf (A.zlt k (A.len c)) with g | g
   ·replace a:=cT g a
    refine zT ?_
    refine zk (nT (zs (zb (zs ?_))))
    refine AWp.regionDraw rfl (lb rfl) ?_
    obtain ⟨v,p,a⟩:=bindS a
    obtain ⟨z,B⟩:=gtI p
    obtain ⟨w,q,a⟩:=bindS a
    obtain ⟨C,E⟩:=gtI q
    obtain ⟨u,r,a⟩:=bindS a
    refine DOps.c0 hT hA {} rfl zu (K17w hA r) rfl rfl (lb rfl) rfl rfl ?_
    refine DOps.cd hT hA {} rfl zu (by kernel_rfl) ?_
    refine nT ?_
    rcases tf u with i | i
    ·replace a:=cT i a
     refine zU ?_
     refine zk (nB (nT ?_))
     refine zB ?_
     exact nT ⟨_,(soI a).symm,rfl,zv⟩
    ·replace a:=cF i a
     refine zT ?_
     refine zs ?_
     refine zB ?_
     refine nT (zr (rB (rT (rT ?_))))
     refine exL a fun hx => ?_
     subst hx
     refine oxR ?_
     replace b:=(eR (m _ b))
     refine rB (rT ?_)
     cases soI b
     exact zq
   ·replace a:=cF g a
    refine zU ?_
    refine AWp.exit (xT (xT ?_))
    refine exL a fun hx => ?_
    subst hx
    exact oxI ⟨rfl,b,zv⟩
  ·rintro _ ⟨b,rfl⟩
   have h:=(eL (m _ b))
   refine xB (nT (zs ?_))
   refine zA ?_
   refine nT (zr ?_)
   cases soI h
   exact zq
 ·replace h:=cF j h
  refine zT ?_
  refine zs ?_
  refine zB ?_
  refine nT (zr (rT ?_))
  cases soI h
  exact zq

theorem K7w {A:Ar} (hA:SA A) {k l:Int} {m o p q:List D} {r:Int} {j:Bool} (h:K7 A k l m o p q r=some j):ACall Try.prog 7 [.d (.agg [.int .i64 k,.int .i64 l,.list 1 m,.list 1 o,.list 1 p,.list 1 q]),zi r] [] (.d (.bool j)) []:=by
 unfold K7 at h
 refine zI Try.func7 ?_
 refine zs ?_
 refine zA ?_
 refine nT (zs (zs (zn ?_)))
 obtain ⟨N,C,h⟩:=bindS h
 refine zC (K9w hA C) ?_
 refine zE ?_
 refine nT ?_
 rcases tf N with b | b
 ·replace h:=cT b h
  refine zT ?_
  refine zs (zn ?_)
  obtain ⟨P,s,h⟩:=bindS h
  refine zD (K10w hA s) ?_ { tk:=[15] }
  refine zF ?_ { tk:=[15] }
  refine nT (zr (rT ?_))
  cases soI h
  exact zq
 ·replace h:=cF b h
  refine zU ?_
  refine zk (nT (zs (zn ?_)))
  obtain ⟨⟨E,F⟩,u,h⟩:=bindS h
  refine zD (K36w hA u) ?_
  refine zF ?_
  refine nT (zs (zn ?_))
  obtain ⟨⟨G,J⟩,v,h⟩:=bindS h
  refine zD (K37w hA v) ?_
  refine zF ?_
  refine nT (zs (zn ?_))
  obtain ⟨⟨Q,K⟩,w,h⟩:=bindS h
  refine zD (K38w hA w) ?_
  refine zF ?_
  refine nT (zs (zn ?_))
  obtain ⟨⟨R,L⟩,y,h⟩:=bindS h
  refine zD (K39w hA y) ?_
  refine zF ?_
  refine nT (zs ?_)
  obtain ⟨O,a,h⟩:=bindS h
  refine AWp.cutN [4] [] 0 (lb rfl) (fun τ=>τ={ env:=[(4,.d (.bool O))],heap:=[],n:=73 }) ?_ ?_
  ·skip
   refine zn ?_
   rcases tf (A.zeq E G) with c | c
   ·replace a:=cT c a
    rcases tf (A.zeq F J) with e | e
    ·replace a:=cT e a
     obtain ⟨M,z,a⟩:=bindS a
     refine zD (K40w hA z) ?_ { tk:=[72] }
     rcases tf M with g | g
     ·replace a:=cT g a
      rcases tf (A.zeq K L) with i | i
      ·replace a:=cT i a
       obtain ⟨S,B,a⟩:=bindS a
       refine zD (K10w hA B) ?_ { tk:=[72] }
       refine zF ?_ { tk:=[72] }
       cases soI a
       exact zO
      ·replace a:=cF i a
       refine zF ?_ { tk:=[72] }
       cases soI a
       exact zO
     ·replace a:=cF g a
      refine zF ?_ { tk:=[72] }
      cases soI a
      exact zO
    ·replace a:=cF e a
     refine zF ?_ { tk:=[72] }
     cases soI a
     exact zO
   ·replace a:=cF c a
    refine zF ?_ { tk:=[72] }
    cases soI a
    exact zO
  ·rintro _ rfl
   refine nT (zr ?_)
   cases soI h
   exact zq
end Go.Am
