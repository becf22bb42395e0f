/- Own text: Genw3. -/
import Derived.Test.YtkjeamngjnfpkaaGenw2
set_option maxRecDepth 100000
set_option maxHeartbeats 2000000
set_option linter.unusedVariables false
set_option linter.unusedSimpArgs false
namespace Go.Am
open Go Go.Proofs
theorem K165w {A:Ar} (hA:SA A) {b c:Int} {a:Bool} (h:K165 A b c=some a):ACall Try.prog 165 [zi b,.iptr [.int .i64 c]] [] (.d (.bool a)) []:=by
 unfold K165 at h
 refine zI Try.func165 ?_
 refine zs ?_
 refine zA ?_
 refine nT (zs (zn ?_))
 obtain ⟨g,e,h⟩:=bindS h
 refine zC (K140w hA e) ?_ { tk:=[7] }
 refine zE ?_ { tk:=[7] }
 refine nT (zr ?_)
 cases soI h
 exact zq

theorem K162bw {A:Ar} (hA:SA A) {c:List D} {k j:Int} (h:K162b A c k=some j):ACall Try.prog 162 [zl 1 c,(.func 165 [] [.iptr [.int .i64 k]])] [] (zi j) []:=by
 unfold K162b at h
 refine zI Try.func162 ?_
 refine zs ?_
 refine zA ?_
 refine nT (zs (zs ?_))
 refine zA ?_
 refine nT (zb ?_)
 obtain ⟨y,q,m,l,b⟩:=bindK h
 refine AWp.cutX 0 [] [] 0 (lb rfl) (fun τ=>m (.inl ())=some j/\τ={ env:=[],heap:=[],n:=19 }) ?_ ?_
 ·skip
  refine AWp.iter q [0,1,7,8] [] 0 (lb rfl) (fun i=>{ env:=[(0,zl 1 c),(1,(.func 165 [] [.iptr [.int .i64 k]])),(7,(.d (.int .i64 (A.len c)))),(8,zi i)],heap:=[],n:=19 }) ⟨rfl,zc⟩ ?_
  rintro i u a
  dsimp only [K162bL0] at a
  refine zs ?_
  refine zA ?_
  refine nT (zs ?_)
  rcases tf (A.zlt i (A.len c)) with e | e
  ·replace a:=cT e a
   refine zT ?_
   refine zk (nT (zs (zb (zs ?_))))
   refine zB ?_ { tk:=[8,10] }
   refine nT (zs (zn ?_))
   obtain ⟨s,o,a⟩:=bindS a
   obtain ⟨v,w⟩:=gtI o
   obtain ⟨r,p,a⟩:=bindS a
   refine zD (K165w hA p) ?_
   refine zF ?_
   refine nT ?_
   rcases tf r with g | g
   ·replace a:=cT g a
    refine zT ?_
    refine zs ?_
    refine zB ?_ { tk:=[5,17] }
    refine nT (zr (rB (rT (rT ?_))))
    refine exL a fun hx => ?_
    subst hx
    refine oxR ?_
    replace b:=(eR (l _ b))
    refine rB (rT ?_)
    cases soI b
    exact zq
   ·replace a:=cF g a
    refine zU ?_
    refine zk (nB (nT ?_))
    refine zB ?_ { tk:=[18] }
    exact nT ⟨_,(soI a).symm,rfl,zv⟩
  ·replace a:=cF e a
   refine zU ?_
   refine AWp.exit (xT (xT ?_))
   refine exL a fun hx => ?_
   subst hx
   exact oxI ⟨rfl,b,zv⟩
 ·rintro _ ⟨b,rfl⟩
  have h:=(eL (l _ b))
  refine xB (nT (zs ?_))
  refine zA ?_
  refine nT (zr ?_)
  cases soI h
  exact zq

theorem K135bw {A:Ar} (hA:SA A) {b:List D} {c:Int} {a:Bool} (h:K135b A b c=some a):ACall Try.prog 135 [zl 1 b,(.func 165 [] [.iptr [.int .i64 c]])] [] (.d (.bool a)) []:=by
 unfold K135b at h
 refine zI Try.func135 ?_
 refine zs ?_
 refine zA ?_
 refine nT (zs (zn ?_))
 obtain ⟨g,e,h⟩:=bindS h
 refine zC (K162bw hA e) ?_ { tk:=[8] }
 refine zE ?_ { tk:=[8] }
 refine nT (zr ?_)
 cases soI h
 exact zq

theorem K164w {A:Ar} (hA:SA A) {c:List D} {i e:Int} {j k:List D} {l:Int} {g:Bool} (h:K164 A c i e j k l=some g):ACall Try.prog 164 [zl 1 c,.iptr [.int .i64 i,.int .i64 e,.list 1 j,.list 1 k],.iptr [.int .i64 l]] [] (.d (.bool g)) []:=by
 unfold K164 at h
 refine zI Try.func164 ?_
 refine zs ?_
 refine zA ?_
 refine nT (zs ?_)
 obtain ⟨o,a,h⟩:=bindS h
 refine AWp.cutN [4] [] 0 (lb rfl) (fun τ=>τ={ env:=[(4,.d (.bool o))],heap:=[],n:=15 }) ?_ ?_
 ·skip
  refine zn ?_
  rcases tf (A.zeq (A.len c) e) with b | b
  ·replace a:=cT b a
   obtain ⟨p,m,a⟩:=bindS a
   refine zD (K135bw hA m) ?_ { tk:=[14] }
   refine zF ?_ { tk:=[14] }
   cases soI a
   exact zO
  ·replace a:=cF b a
   refine zF ?_ { tk:=[14] }
   cases soI a
   exact zO
 ·rintro _ rfl
  refine nT (zr ?_)
  cases soI h
  exact zq

theorem K134aw {A:Ar} (hA:SA A) {c:List D} {k l:Int} {m o:List D} {p j:Int} (h:K134a A c k l m o p=some j):ACall Try.prog 134 [zl 1 c,(.func 164 [] [.iptr [.int .i64 k,.int .i64 l,.list 1 m,.list 1 o],.iptr [.int .i64 p]])] [] (zi j) []:=by
 unfold K134a at h
 refine zI Try.func134 ?_
 refine zs ?_
 refine zA ?_
 refine nT (zs (zs ?_))
 refine zA ?_
 refine nT (zb ?_)
 obtain ⟨E,v,r,q,b⟩:=bindK h
 refine AWp.cutX 0 [] [] 0 (lb rfl) (fun τ=>r (.inl ())=some j/\τ={ env:=[],heap:=[],n:=19 }) ?_ ?_
 ·skip
  refine AWp.iter v [0,1,7,8] [] 0 (lb rfl) (fun i=>{ env:=[(0,zl 1 c),(1,(.func 164 [] [.iptr [.int .i64 k,.int .i64 l,.list 1 m,.list 1 o],.iptr [.int .i64 p]])),(7,(.d (.int .i64 (A.len c)))),(8,zi i)],heap:=[],n:=19 }) ⟨rfl,zc⟩ ?_
  rintro i z a
  dsimp only [K134aL0] at a
  refine zs ?_
  refine zA ?_
  refine nT (zs ?_)
  rcases tf (A.zlt i (A.len c)) with e | e
  ·replace a:=cT e a
   refine zT ?_
   refine zk (nT (zs (zb (zs ?_))))
   refine zB ?_ { tk:=[8,10] }
   refine nT (zs (zn ?_))
   obtain ⟨y,s,a⟩:=bindS a
   obtain ⟨B,C⟩:=gtI s
   obtain ⟨w,u,a⟩:=bindS a
   refine zD (K164w hA u) ?_
   refine zF ?_
   refine nT ?_
   rcases tf w with g | g
   ·replace a:=cT g a
    refine zT ?_
    refine zs ?_
    refine zB ?_ { tk:=[5,17] }
    refine nT (zr (rB (rT (rT ?_))))
    refine exL a fun hx => ?_
    subst hx
    refine oxR ?_
    replace b:=(eR (q _ b))
    refine rB (rT ?_)
    cases soI b
    exact zq
   ·replace a:=cF g a
    refine zU ?_
    refine zk (nB (nT ?_))
    refine zB ?_ { tk:=[18] }
    exact nT ⟨_,(soI a).symm,rfl,zv⟩
  ·replace a:=cF e a
   refine zU ?_
   refine AWp.exit (xT (xT ?_))
   refine exL a fun hx => ?_
   subst hx
   exact oxI ⟨rfl,b,zv⟩
 ·rintro _ ⟨b,rfl⟩
  have h:=(eL (q _ b))
  refine xB (nT (zs ?_))
  refine zA ?_
  refine nT (zr ?_)
  cases soI h
  exact zq

theorem K101aw {A:Ar} (hA:SA A) {b:List D} {c e:Int} {g i:List D} {j:Int} {a:Bool} (h:K101a A b c e g i j=some a):ACall Try.prog 101 [zl 1 b,(.func 164 [] [.iptr [.int .i64 c,.int .i64 e,.list 1 g,.list 1 i],.iptr [.int .i64 j]])] [] (.d (.bool a)) []:=by
 unfold K101a at h
 refine zI Try.func101 ?_
 refine zs ?_
 refine zA ?_
 refine nT (zs (zn ?_))
 obtain ⟨l,k,h⟩:=bindS h
 refine zC (K134aw hA k) ?_ { tk:=[8] }
 refine zE ?_ { tk:=[8] }
 refine nT (zr ?_)
 cases soI h
 exact zq

theorem K141w {A:Ar} (hA:SA A) {b e:Int} {g i j:List D} {k:Int} {l:Bool} (h:K141 A b e g i j k=some l):ACall Try.prog 141 [.d (.agg [.int .i64 b,.int .i64 e,.list 1 g,.list 1 i]),zl 1 j,zi k] [] (.d (.bool l)) []:=by
 unfold K141 at h
 refine zI Try.func141 ?_
 refine zs ?_
 refine zA ?_
 refine nT ?_
 refine AWp.freezeBox 3 [.int .i64 b,.int .i64 e,.list 1 g,.list 1 i] rfl rfl ?_
 refine AWp.freezeBox 5 [.int .i64 k] rfl rfl ?_
 refine zs ?_
 obtain ⟨o,a,h⟩:=bindS h
 refine AWp.cutN [6] [] 0 (lb rfl) (fun τ=>τ={ env:=[(6,.d (.bool o))],heap:=[],n:=18 }) ?_ ?_
 ·skip
  refine zn ?_
  rcases tf (A.zeq (A.len j) b) with c | c
  ·replace a:=cT c a
   obtain ⟨p,m,a⟩:=bindS a
   refine zD (K101aw hA m) ?_ { tk:=[17] }
   refine zF ?_ { tk:=[17] }
   cases soI a
   exact zO
  ·replace a:=cF c a
   refine zF ?_ { tk:=[17] }
   cases soI a
   exact zO
 ·rintro _ rfl
  refine nT (zr ?_)
  cases soI h
  exact zq

theorem K115w {A:Ar} (hA:SA A) {i j:Int} {k l:List D} {g:Bool} (h:K115 A i j k l=some g):ACall Try.prog 115 [.d (.agg [.int .i64 i,.int .i64 j,.list 1 k,.list 1 l])] [] (.d (.bool g)) []:=by
 unfold K115 at h
 refine zI Try.func115 ?_
 refine zs ?_
 refine zA ?_
 refine nT (zs ?_)
 obtain ⟨v,a,h⟩:=bindS h
 refine AWp.cutN [2] [] 0 (lb rfl) (fun τ=>τ={ env:=[(2,.d (.bool v))],heap:=[],n:=26 }) ?_ ?_
 ·skip
  refine zn ?_
  obtain ⟨s,p,a⟩:=bindS a
  refine zC (K140w hA p) ?_ { tk:=[25] }
  rcases tf s with e | e
  ·replace a:=cT e a
   obtain ⟨u,q,a⟩:=bindS a
   refine zD (K140w hA q) ?_ { tk:=[25] }
   rcases tf u with b | b
   ·replace a:=cT b a
    obtain ⟨r,m,a⟩:=bindS a
    refine zD (K141w hA m) ?_ { tk:=[25] }
    rcases tf r with c | c
    ·replace a:=cT c a
     obtain ⟨w,o,a⟩:=bindS a
     refine zD (K141w hA o) ?_ { tk:=[25] }
     refine zF ?_ { tk:=[25] }
     cases soI a
     exact zO
    ·replace a:=cF c a
     refine zF ?_ { tk:=[25] }
     cases soI a
     exact zO
   ·replace a:=cF b a
    refine zF ?_ { tk:=[25] }
    cases soI a
    exact zO
  ·replace a:=cF e a
   refine zF ?_ { tk:=[25] }
   cases soI a
   exact zO
 ·rintro _ rfl
  refine nT (zr ?_)
  cases soI h
  exact zq

theorem K68w {A:Ar} (hA:SA A) {l m:Int} {o p g i:List D} {k:Int} (h:K68 A l m o p g i=some k):ACall Try.prog 68 [.d (.agg [.int .i64 l,.int .i64 m,.list 1 o,.list 1 p]),zl 1 g,zl 1 i] [] (zi k) []:=by
 unfold K68 at h
 refine zI Try.func68 ?_
 refine zs ?_
 refine zA ?_
 refine nT (zs (zb (zs (zn ?_))))
 obtain ⟨v,s,h⟩:=bindS h
 refine zC (K15w hA s) ?_
 refine zE ?_
 refine nT ?_
 rcases tf v with e | e
 ·replace h:=cT e h
  refine zU ?_
  refine zs ?_
  obtain ⟨j,a,h⟩:=bindS h
  refine AWp.cutN [1,2,11] [] 0 (lb rfl) (fun τ=>τ={ env:=[(1,zl 1 g),(2,zl 1 i),(11,.d (.bool j))],heap:=[],n:=25 }) ?_ ?_
  ·skip
   refine zn ?_
   obtain ⟨u,q,a⟩:=bindS a
   refine zD (K115w hA q) ?_
   rcases tf u with b | b
   ·replace a:=cT b a
    refine zF ?_
    cases soI a
    exact zO
   ·replace a:=cF b a
    refine zF ?_
    cases soI a
    exact zO
  ·rintro _ rfl
   refine nT ?_
   rcases tf j with c | c
   ·replace h:=cT c h
    refine zT ?_
    refine zs ?_
    refine zB ?_
    refine nT (zr (rB (rT ?_)))
    cases soI h
    exact zq
   ·replace h:=cF c h
    refine zU ?_
    refine zk (nB (nT (zs (zn ?_))))
    obtain ⟨w,r,h⟩:=bindS h
    refine zD (K89w hA r) ?_ { tk:=[24] }
    refine zF ?_ { tk:=[24] }
    refine nT (zr ?_)
    cases soI h
    exact zq
 ·replace h:=cF e h
  refine zT ?_
  refine zs ?_
  refine zB ?_
  refine nT (zr (rB (rT ?_)))
  cases soI h
  exact zq

theorem K61w {A:Ar} (hA:SA A) {c e i:Int} {g:Bool} (h:K61 A c e i=some g):ACall Try.prog 61 [zi c,zi e,zi i] [] (.d (.bool g)) []:=by
 unfold K61 at h
 refine zI Try.func61 ?_
 refine zs ?_
 refine zA ?_
 refine nT (zs ?_)
 obtain ⟨j,a,h⟩:=bindS h
 refine AWp.cutN [6] [] 0 (lb rfl) (fun τ=>τ={ env:=[(6,.d (.bool j))],heap:=[],n:=15 }) ?_ ?_
 ·skip
  rcases tf (A.zle c e) with b | b
  ·replace a:=cT b a
   refine zB ?_ { tk:=[14] }
   cases soI a
   exact zO
  ·replace a:=cF b a
   refine zB ?_ { tk:=[14] }
   cases soI a
   exact zO
 ·rintro _ rfl
  refine nT (zr ?_)
  cases soI h
  exact zq

theorem K179w {A:Ar} (hA:SA A) {b c:Int} {e g:List D} {a:Bool} (h:K179 A b c e g=some a):ACall Try.prog 179 [.d (.agg [.int .i64 b,.int .i64 c,.list 1 e,.list 1 g])] [] (.d (.bool a)) []:=by
 unfold K179 at h
 refine zI Try.func179 ?_
 refine zs ?_
 refine zA ?_
 refine nT (zs (zn ?_))
 obtain ⟨j,i,h⟩:=bindS h
 refine zC (K115w hA i) ?_ { tk:=[5] }
 refine zE ?_ { tk:=[5] }
 refine nT (zr ?_)
 cases soI h
 exact zq

theorem K182w {A:Ar} (hA:SA A) {c:List D} {j:Int} (h:K182 A c=some j):ACall Try.prog 182 [zl 4 c,(.func 179 [] [])] [] (zi j) []:=by
 unfold K182 at h
 refine zI Try.func182 ?_
 refine zs ?_
 refine zA ?_
 refine nT (zs (zs ?_))
 refine zA ?_
 refine nT (zb ?_)
 obtain ⟨B,p,l,k,b⟩:=bindK h
 refine AWp.cutX 0 [] [] 0 (lb rfl) (fun τ=>l (.inl ())=some j/\τ={ env:=[],heap:=[],n:=19 }) ?_ ?_
 ·skip
  refine AWp.iter p [0,1,7,8] [] 0 (lb rfl) (fun i=>{ env:=[(0,zl 4 c),(1,(.func 179 [] [])),(7,(.d (.int .i64 (A.len c)))),(8,zi i)],heap:=[],n:=19 }) ⟨rfl,zc⟩ ?_
  rintro i w a
  dsimp only [K182L0] at a
  refine zs ?_
  refine zA ?_
  refine nT (zs ?_)
  rcases tf (A.zlt i (A.len c)) with e | e
  ·replace a:=cT e a
   refine zT ?_
   refine zk (nT (zs (zb (zs ?_))))
   refine zB ?_ { tk:=[8,10] }
   refine nT (zs (zn ?_))
   obtain ⟨⟨r,s,u,v⟩,m,a⟩:=bindS a
   obtain ⟨y,z⟩:=gtI m
   obtain ⟨q,o,a⟩:=bindS a
   refine zD (K179w hA o) ?_
   refine zF ?_
   refine nT ?_
   rcases tf q with g | g
   ·replace a:=cT g a
    refine zT ?_
    refine zs ?_
    refine zB ?_ { tk:=[5,17] }
    refine nT (zr (rB (rT (rT ?_))))
    refine exL a fun hx => ?_
    subst hx
    refine oxR ?_
    replace b:=(eR (k _ b))
    refine rB (rT ?_)
    cases soI b
    exact zq
   ·replace a:=cF g a
    refine zU ?_
    refine zk (nB (nT ?_))
    refine zB ?_ { tk:=[18] }
    exact nT ⟨_,(soI a).symm,rfl,zv⟩
  ·replace a:=cF e a
   refine zU ?_
   refine AWp.exit (xT (xT ?_))
   refine exL a fun hx => ?_
   subst hx
   exact oxI ⟨rfl,b,zv⟩
 ·rintro _ ⟨b,rfl⟩
  have h:=(eL (k _ b))
  refine xB (nT (zs ?_))
  refine zA ?_
  refine nT (zr ?_)
  cases soI h
  exact zq

theorem K178w {A:Ar} (hA:SA A) {b:List D} {a:Bool} (h:K178 A b=some a):ACall Try.prog 178 [zl 4 b,(.func 179 [] [])] [] (.d (.bool a)) []:=by
 unfold K178 at h
 refine zI Try.func178 ?_
 refine zs ?_
 refine zA ?_
 refine nT (zs (zn ?_))
 obtain ⟨e,c,h⟩:=bindS h
 refine zC (K182w hA c) ?_ { tk:=[8] }
 refine zE ?_ { tk:=[8] }
 refine nT (zr ?_)
 cases soI h
 exact zq

theorem K168w {A:Ar} (hA:SA A) {e:List D} {c:Bool} (h:K168 A e=some c):ACall Try.prog 168 [zl 4 e] [] (.d (.bool c)) []:=by
 unfold K168 at h
 refine zI Try.func168 ?_
 refine zs ?_
 refine zA ?_
 refine nT (zs ?_)
 obtain ⟨k,a,h⟩:=bindS h
 refine AWp.cutN [2] [] 0 (lb rfl) (fun τ=>τ={ env:=[(2,.d (.bool k))],heap:=[],n:=11 }) ?_ ?_
 ·skip
  refine zn ?_
  obtain ⟨j,g,a⟩:=bindS a
  refine zC (K61w hA g) ?_ { tk:=[10] }
  rcases tf j with b | b
  ·replace a:=cT b a
   obtain ⟨l,i,a⟩:=bindS a
   refine zD (K178w hA i) ?_ { tk:=[10] }
   refine zF ?_ { tk:=[10] }
   cases soI a
   exact zO
  ·replace a:=cF b a
   refine zF ?_ { tk:=[10] }
   cases soI a
   exact zO
 ·rintro _ rfl
  refine nT (zr ?_)
  cases soI h
  exact zq

theorem K139w {A:Ar} (hA:SA A) {r s u v w e:Int} {y:Bool} (h:K139 A r s u v w e=some y):ACall Try.prog 139 [.d (.agg [.int .i64 r,.int .i64 s,.int .i64 u,.int .i64 v,.int .i64 w,.int .i64 e])] [] (.d (.bool y)) []:=by
 unfold K139 at h
 refine zI Try.func139 ?_
 refine zs ?_
 refine zA ?_
 refine nT (zs ?_)
 obtain ⟨q,a,h⟩:=bindS h
 refine AWp.cutN [1,3] [] 0 (lb rfl) (fun τ=>τ={ env:=[(1,(.lbox [zi r,zi s,zi u,zi v,zi w,zi e])),(3,.d (.bool q))],heap:=[],n:=49 }) ?_ ?_
 ·skip
  refine zn ?_
  obtain ⟨N,G,a⟩:=bindS a
  refine zC (K61w hA G) ?_
  rcases tf N with p | p
  ·replace a:=cT p a
   obtain ⟨J,z,a⟩:=bindS a
   refine zD (K61w hA z) ?_
   rcases tf J with g | g
   ·replace a:=cT g a
    obtain ⟨K,B,a⟩:=bindS a
    refine zD (K61w hA B) ?_
    rcases tf K with i | i
    ·replace a:=cT i a
     obtain ⟨L,C,a⟩:=bindS a
     refine zD (K61w hA C) ?_
     rcases tf L with j | j
     ·replace a:=cT j a
      obtain ⟨Q,E,a⟩:=bindS a
      refine zD (K61w hA E) ?_
      refine zF ?_
      cases soI a
      exact zO
     ·replace a:=cF j a
      refine zF ?_
      cases soI a
      exact zO
    ·replace a:=cF i a
     refine zF ?_
     cases soI a
     exact zO
   ·replace a:=cF g a
    refine zF ?_
    cases soI a
    exact zO
  ·replace a:=cF p a
   refine zF ?_
   cases soI a
   exact zO
 ·rintro _ rfl
  refine nT (zs (zs ?_))
  refine zA ?_
  refine nT ?_
  rcases tf (A.zeq e 0) with k | k
  ·replace h:=cT k h
   refine zT ?_
   refine zs ?_
   obtain ⟨O,c,h⟩:=bindS h
   refine AWp.cutN [2] [] 0 (lb rfl) (fun τ=>τ={ env:=[(2,.d (.bool O))],heap:=[],n:=49 }) ?_ ?_
   ·skip
    rcases tf q with l | l
    ·replace c:=cT l c
     refine zB ?_ { tk:=[35] }
     cases soI c
     exact zO
    ·replace c:=cF l c
     refine zB ?_ { tk:=[35] }
     cases soI c
     exact zO
   ·rintro _ rfl
    refine nT (zr (rT ?_))
    cases soI h
    exact zq
  ·replace h:=cF k h
   refine zU ?_
   refine zk (nT (zs ?_))
   obtain ⟨P,b,h⟩:=bindS h
   refine AWp.cutN [2] [] 0 (lb rfl) (fun τ=>τ={ env:=[(2,.d (.bool P))],heap:=[],n:=49 }) ?_ ?_
   ·skip
    refine zn ?_
    rcases tf q with m | m
    ·replace b:=cT m b
     obtain ⟨M,F,b⟩:=bindS b
     refine zD (K61w hA F) ?_ { tk:=[48] }
     rcases tf M with o | o
     ·replace b:=cT o b
      refine zF ?_ { tk:=[48] }
      cases soI b
      exact zO
     ·replace b:=cF o b
      refine zF ?_ { tk:=[48] }
      cases soI b
      exact zO
    ·replace b:=cF m b
     refine zF ?_ { tk:=[48] }
     cases soI b
     exact zO
   ·rintro _ rfl
    refine nT (zr ?_)
    cases soI h
    exact zq

theorem K127w {A:Ar} (hA:SA A) {g l m o p c q r s i j k:Int} {e:Bool} (h:K127 A g l m o p c q r s i j k=some e):ACall Try.prog 127 [.d (.agg [.int .i64 g,.int .i64 l,.int .i64 m,.int .i64 o,.int .i64 p,.int .i64 c]),.d (.agg [.int .i64 q,.int .i64 r,.int .i64 s,.int .i64 i,.int .i64 j,.int .i64 k])] [] (.d (.bool e)) []:=by
 unfold K127 at h
 refine zI Try.func127 ?_
 refine zs ?_
 refine zA ?_
 refine nT (zs ?_)
 obtain ⟨u,a,h⟩:=bindS h
 refine AWp.cutN [4] [] 0 (lb rfl) (fun τ=>τ={ env:=[(4,.d (.bool u))],heap:=[],n:=15 }) ?_ ?_
 ·skip
  rcases tf (A.zlt 0 c) with b | b
  ·replace a:=cT b a
   refine zB ?_ { tk:=[14] }
   cases soI a
   exact zO
  ·replace a:=cF b a
   refine zB ?_ { tk:=[14] }
   cases soI a
   exact zO
 ·rintro _ rfl
  refine nT (zr ?_)
  cases soI h
  exact zq

theorem K114w {A:Ar} (hA:SA A) {b:List D} {N:Bool} (h:K114 A b=some N):ACall Try.prog 114 [zl 6 b] [] (.d (.bool N)) []:=by
 unfold K114 at h
 refine zI Try.func114 ?_
 refine zs ?_
 refine zA ?_
 refine nT (zs (zs ?_))
 refine zA ?_
 refine nT ?_
 rcases tf (A.zlt 8 (A.len b)) with K | K
 ·replace h:=cT K h
  refine zT ?_
  refine zs ?_
  refine zB ?_
  refine nT (zr (rT ?_))
  cases soI h
  exact zq
 ·replace h:=cF K h
  refine zU ?_
  refine zk (nT (zs ?_))
  refine zB ?_ { arr:=[3] }
  refine nT (zs (zs ?_))
  refine zB ?_
  refine nT (zb ?_)
  obtain ⟨j2,u0,V,v,i⟩:=bindK h
  refine AWp.cutX 0 [] [] 1 (lb rfl) (fun τ => ∃ M,V (.inl M)=some N/\τ={ env:=[],heap:=[(.arr 1 M)],n:=67 }) ?_ ?_
  ·skip
   refine AWp.iter u0 [0,3,11,12,13] [] 1 (lb rfl) (fun (j,O)=>{ env:=[(0,zl 6 b),(3,.ptr 0 0),(11,zl 6 b),(12,(.d (.int .i64 (A.len b)))),(13,zi j)],heap:=[(.arr 1 O)],n:=67 }) ⟨rfl,zv⟩ ?_
   rintro ⟨j,O⟩ P a
   dsimp only [K114L1] at a
   refine zs ?_
   refine zA ?_
   refine nT (zs ?_)
   rcases tf (A.zlt j (A.len b)) with L | L
   ·replace a:=cT L a
    refine zT ?_
    refine zk (nT (zs (zb (zs ?_))))
    obtain ⟨⟨o,u,q,r,s,m⟩,Y,a⟩:=bindS a
    obtain ⟨l1,m1⟩:=gtI Y
    refine zB ?_ { tk:=[17] }
    refine nT (zs (zs ?_))
    obtain ⟨R,g,a⟩:=bindS a
    refine AWp.cutN [0,3,4,5,11,12,13,26] [] 1 (lb rfl) (fun τ=>τ={ env:=[(0,zl 6 b),(3,.ptr 0 0),(4,zi j),(5,(.lbox [zi o,zi u,zi q,zi r,zi s,zi m])),(11,zl 6 b),(12,(.d (.int .i64 (A.len b)))),(13,zi j),(26,.d (.bool R))],heap:=[(.arr 1 O)],n:=67 }) ?_ ?_
    ·skip
     refine zn ?_
     obtain ⟨v0,a0,g⟩:=bindS g
     refine zD (K139w hA a0) ?_
     rcases tf v0 with y | y
     ·replace g:=cT y g
      obtain ⟨_,b0,g⟩:=bindS g
      have n1:=ckI b0
      obtain ⟨_,c0,g⟩:=bindS g
      have o1:=ckI c0
      obtain ⟨y0,d0,g⟩:=bindS g
      have p1:=gcI d0
      refine zF ?_
      cases soI g
      exact zO
     ·replace g:=cF y g
      refine zF ?_
      cases soI g
      exact zO
    ·rintro _ rfl
     refine nT ?_
     rcases tf R with z | z
     ·replace a:=cT z a
      refine zT ?_
      refine zs ?_
      refine zB ?_
      refine nT (zr (rT (rB (rT (rT ?_)))))
      refine exL a fun hx => ?_
      subst hx
      refine oxR ?_
      replace i:=(eR (v _ i))
      refine rB (rT ?_)
      cases soI i
      exact zq
     ·replace a:=cF z a
      refine zU ?_
      refine zk (nT (zs ?_))
      obtain ⟨_,e0,a⟩:=bindS a
      have q1:=ckI e0
      obtain ⟨_,g0,a⟩:=bindS a
      have r1:=ckI g0
      obtain ⟨e1,i1,a⟩:=bindS a
      refine zB ?_
      refine nT (zs (zs ?_))
      refine zB ?_
      refine nT ?_
      obtain ⟨K142,r0,a⟩:=jnI a
      refine AWp.cutN [0,3,4,5,11,12,13] [] 1 (lb rfl) (fun τ => ∃ l,K142 l=some P/\τ={ env:=[(0,zl 6 b),(3,.ptr 0 0),(4,zi j),(5,(.lbox [zi o,zi u,zi q,zi r,zi s,zi m])),(11,zl 6 b),(12,(.d (.int .i64 (A.len b)))),(13,zi j)],heap:=[(.arr 1 l)],n:=67 }) ?_ ?_
      ·skip
       rcases tf (A.zlt 0 m) with B | B
       ·replace a:=cT B a
        refine zT ?_
        refine zs (zs ?_)
        obtain ⟨_,i0,a⟩:=bindS a
        have s1:=ckI i0
        obtain ⟨_,j0,a⟩:=bindS a
        have u1:=ckI j0
        obtain ⟨W,k0,a⟩:=bindS a
        have v1:=gcI k0
        refine zB ?_
        refine nT ?_
        rcases tf W with C | C
        ·replace a:=cT C a
         refine zT ?_
         refine zs ?_
         refine zB ?_
         refine nT (zr (rT ?_))
         refine oNr ?_
         refine rT (rB (rT (rT ?_)))
         refine exL a fun hx => ?_
         subst hx
         refine oxR ?_
         replace i:=(eR (v _ i))
         refine rB (rT ?_)
         cases soI i
         exact zq
        ·replace a:=cF C a
         refine zU ?_
         refine zk (nT ?_)
         obtain ⟨_,l0,a⟩:=bindS a
         have w1:=ckI l0
         obtain ⟨_,m0,a⟩:=bindS a
         have y1:=ckI m0
         obtain ⟨g1,j1,a⟩:=bindS a
         refine zB ?_
         exact oNi ⟨rfl,_,a,zv⟩
       ·replace a:=cF B a
        refine zU ?_
        refine zk ?_
        exact oNi ⟨rfl,_,a,zv⟩
      ·rintro _ ⟨l,a,rfl⟩
       replace a:=r0 _ a
       refine nT (zs ?_)
       obtain ⟨p,n0,a⟩:=bindS a
       obtain ⟨z1,a2,b2,c2⟩:=slI n0
       refine zB ?_
       refine nT (zb ?_)
       obtain ⟨i2,s0,U,Q,k⟩:=bindK a
       refine AWp.cutX 2 [0,3,11,12,13] [] 1 (lb rfl) (fun τ=>U (.inl ())=some P/\τ={ env:=[(0,zl 6 b),(3,.ptr 0 0),(11,zl 6 b),(12,(.d (.int .i64 (A.len b)))),(13,zi j)],heap:=[(.arr 1 l)],n:=67 }) ?_ ?_
       ·skip
        refine AWp.iter s0 [0,3,5,11,12,13,42,43,44] [] 1 (lb rfl) (fun w=>{ env:=[(0,zl 6 b),(3,.ptr 0 0),(5,(.lbox [zi o,zi u,zi q,zi r,zi s,zi m])),(11,zl 6 b),(12,(.d (.int .i64 (A.len b)))),(13,zi j),(42,zl 6 p),(43,(.d (.int .i64 (A.len p)))),(44,zi w)],heap:=[(.arr 1 l)],n:=67 }) ⟨rfl,zc⟩ ?_
        rintro w k1 c
        dsimp only [K114L0] at c
        refine zs ?_
        refine zA ?_
        refine nT (zs ?_)
        rcases tf (A.zlt w (A.len p)) with E | E
        ·replace c:=cT E c
         refine zT ?_
         refine zk (nT (zs (zb (zs ?_))))
         obtain ⟨⟨X,z0,a1,b1,c1,d1⟩,o0,c⟩:=bindS c
         obtain ⟨d2,e2⟩:=gtI o0
         refine zB ?_ { tk:=[47] }
         refine nT (zs ?_)
         obtain ⟨S,e,c⟩:=bindS c
         refine AWp.cutN [0,3,5,11,12,13,42,43,44,64] [] 1 (lb rfl) (fun τ=>τ={ env:=[(0,zl 6 b),(3,.ptr 0 0),(5,(.lbox [zi o,zi u,zi q,zi r,zi s,zi m])),(11,zl 6 b),(12,(.d (.int .i64 (A.len b)))),(13,zi j),(42,zl 6 p),(43,(.d (.int .i64 (A.len p)))),(44,zi w),(64,.d (.bool S))],heap:=[(.arr 1 l)],n:=67 }) ?_ ?_
         ·skip
          refine zn ?_
          rcases tf (A.zeq o X) with F | F
          ·replace e:=cT F e
           obtain ⟨w0,p0,e⟩:=bindS e
           refine zD (K127w hA p0) ?_
           rcases tf w0 with G | G
           ·replace e:=cT G e
            refine zF ?_
            cases soI e
            exact zO
           ·replace e:=cF G e
            obtain ⟨g2,q0,e⟩:=bindS e
            refine zD (K127w hA q0) ?_
            refine zF ?_
            cases soI e
            exact zO
          ·replace e:=cF F e
           refine zF ?_
           cases soI e
           exact zO
         ·rintro _ rfl
          refine nT ?_
          rcases tf S with J | J
          ·replace c:=cT J c
           refine zT ?_
           refine zs ?_
           refine zB ?_
           refine nT (zr (rB (rT (rT ?_))))
           refine exL c fun hx => ?_
           subst hx
           refine oxR ?_
           replace k:=(eR (Q _ k))
           refine rB (rB (rT (rT ?_)))
           refine exL k fun hx => ?_
           subst hx
           refine oxR ?_
           replace i:=(eR (v _ i))
           refine rB (rT ?_)
           cases soI i
           exact zq
          ·replace c:=cF J c
           refine zU ?_
           refine zk (nB (nT ?_))
           refine zB ?_
           exact nT ⟨_,(soI c).symm,rfl,zv⟩
        ·replace c:=cF E c
         refine zU ?_
         refine AWp.exit (xT (xT ?_))
         refine exL c fun hx => ?_
         subst hx
         exact oxI ⟨rfl,k,zv⟩
       ·rintro _ ⟨k,rfl⟩
        have a:=(eL (Q _ k))
        refine xB (nB (nT ?_))
        refine zA ?_
        exact nT ⟨_,(soI a).symm,rfl,zc⟩
   ·replace a:=cF L a
    refine zU ?_
    refine AWp.exit (xT (xT ?_))
    refine exL a fun hx => ?_
    subst hx
    exact oxI ⟨rfl,_,i,zv⟩
  ·rintro _ ⟨M,i,rfl⟩
   have h:=(eL (v _ i))
   refine xB (nT (zs ?_))
   refine zA ?_
   refine nT (zr ?_)
   cases soI h
   exact zq

theorem K180w {A:Ar} (hA:SA A) {i c j k l m:Int} {e:List D} {g:Bool} (h:K180 A i c j k l m e=some g):ACall Try.prog 180 [.d (.agg [.int .i64 i,.int .i64 c,.int .i64 j,.int .i64 k,.int .i64 l,.int .i64 m]),.iptr [.list 4 e]] [] (.d (.bool g)) []:=by
 unfold K180 at h
 refine zI Try.func180 ?_
 refine zs ?_
 refine zA ?_
 refine nT (zs ?_)
 obtain ⟨p,a,h⟩:=bindS h
 refine AWp.cutN [3] [] 0 (lb rfl) (fun τ=>τ={ env:=[(3,.d (.bool p))],heap:=[],n:=20 }) ?_ ?_
 ·skip
  rcases tf (A.zle (A.len e) c) with b | b
  ·replace a:=cT b a
   refine AWp.rd hT hA { tk:=[19] } rfl zu (by kernel_rfl) (lb rfl) ?_
   cases soI a
   exact zO
  ·replace a:=cF b a
   obtain ⟨⟨u,q,r,s⟩,o,a⟩:=bindS a
   obtain ⟨v,w⟩:=gtI o
   refine AWp.rd hT hA { tk:=[19] } rfl zu (by kernel_rfl) (lb rfl) ?_
   cases soI a
   exact zO
 ·rintro _ rfl
  refine nT (zr ?_)
  cases soI h
  exact zq

theorem K166aw {A:Ar} (hA:SA A) {c k:List D} {j:Int} (h:K166a A c k=some j):ACall Try.prog 166 [zl 6 c,(.func 180 [] [.iptr [.list 4 k]])] [] (zi j) []:=by
 unfold K166a at h
 refine zI Try.func166 ?_
 refine zs ?_
 refine zA ?_
 refine nT (zs (zs ?_))
 refine zA ?_
 refine nT (zb ?_)
 obtain ⟨F,q,m,l,b⟩:=bindK h
 refine AWp.cutX 0 [] [] 0 (lb rfl) (fun τ=>m (.inl ())=some j/\τ={ env:=[],heap:=[],n:=19 }) ?_ ?_
 ·skip
  refine AWp.iter q [0,1,7,8] [] 0 (lb rfl) (fun i=>{ env:=[(0,zl 6 c),(1,(.func 180 [] [.iptr [.list 4 k]])),(7,(.d (.int .i64 (A.len c)))),(8,zi i)],heap:=[],n:=19 }) ⟨rfl,zc⟩ ?_
  rintro i B a
  dsimp only [K166aL0] at a
  refine zs ?_
  refine zA ?_
  refine nT (zs ?_)
  rcases tf (A.zlt i (A.len c)) with e | e
  ·replace a:=cT e a
   refine zT ?_
   refine zk (nT (zs (zb (zs ?_))))
   refine zB ?_ { tk:=[8,10] }
   refine nT (zs (zn ?_))
   obtain ⟨⟨s,u,v,w,y,z⟩,o,a⟩:=bindS a
   obtain ⟨C,E⟩:=gtI o
   obtain ⟨r,p,a⟩:=bindS a
   refine zD (K180w hA p) ?_
   refine zF ?_
   refine nT ?_
   rcases tf r with g | g
   ·replace a:=cT g a
    refine zT ?_
    refine zs ?_
    refine zB ?_ { tk:=[5,17] }
    refine nT (zr (rB (rT (rT ?_))))
    refine exL a fun hx => ?_
    subst hx
    refine oxR ?_
    replace b:=(eR (l _ b))
    refine rB (rT ?_)
    cases soI b
    exact zq
   ·replace a:=cF g a
    refine zU ?_
    refine zk (nB (nT ?_))
    refine zB ?_ { tk:=[18] }
    exact nT ⟨_,(soI a).symm,rfl,zv⟩
  ·replace a:=cF e a
   refine zU ?_
   refine AWp.exit (xT (xT ?_))
   refine exL a fun hx => ?_
   subst hx
   exact oxI ⟨rfl,b,zv⟩
 ·rintro _ ⟨b,rfl⟩
  have h:=(eL (l _ b))
  refine xB (nT (zs ?_))
  refine zA ?_
  refine nT (zr ?_)
  cases soI h
  exact zq

theorem K142aw {A:Ar} (hA:SA A) {b c:List D} {a:Bool} (h:K142a A b c=some a):ACall Try.prog 142 [zl 6 b,(.func 180 [] [.iptr [.list 4 c]])] [] (.d (.bool a)) []:=by
 unfold K142a at h
 refine zI Try.func142 ?_
 refine zs ?_
 refine zA ?_
 refine nT (zs (zn ?_))
 obtain ⟨g,e,h⟩:=bindS h
 refine zC (K166aw hA e) ?_ { tk:=[8] }
 refine zE ?_ { tk:=[8] }
 refine nT (zr ?_)
 cases soI h
 exact zq

theorem K169w {A:Ar} (hA:SA A) {a c:List D} {b:Bool} (h:K169 A a c=some b):ACall Try.prog 169 [zl 4 a,zl 6 c] [] (.d (.bool b)) []:=by
 unfold K169 at h
 refine zI Try.func169 ?_
 refine zs ?_
 refine zA ?_
 refine nT ?_
 refine AWp.freezeBox 2 [.list 4 a] rfl rfl ?_
 refine zs (zn ?_)
 obtain ⟨g,e,h⟩:=bindS h
 refine zC (K142aw hA e) ?_ { tk:=[8] }
 refine zE ?_ { tk:=[8] }
 refine nT (zr ?_)
 cases soI h
 exact zq

theorem K147w {A:Ar} (hA:SA A) {i j:List D} {e:Bool} {g:Int} (h:K147 A i j=some (e,g)):ACall Try.prog 147 [zl 4 i,zl 6 j] [] (.tuple [.d (.bool e),zi g]) []:=by
 unfold K147 at h
 refine zI Try.func147 ?_
 refine zs ?_
 refine zA ?_
 refine nT (zs (zs (zn ?_)))
 obtain ⟨o,k,h⟩:=bindS h
 refine zC (K168w hA k) ?_
 refine zE ?_
 refine nT ?_
 rcases tf o with b | b
 ·replace h:=cT b h
  refine zU ?_
  refine zk (nT (zs ?_))
  obtain ⟨q,a,h⟩:=bindS h
  refine AWp.cutN [4,5] [] 0 (lb rfl) (fun τ=>τ={ env:=[(4,.d (.bool q)),(5,zi 0)],heap:=[],n:=16 }) ?_ ?_
  ·skip
   refine zn ?_
   obtain ⟨p,l,a⟩:=bindS a
   refine zD (K114w hA l) ?_
   rcases tf p with c | c
   ·replace a:=cT c a
    obtain ⟨r,m,a⟩:=bindS a
    refine zD (K169w hA m) ?_
    refine zF ?_
    cases soI a
    exact zO
   ·replace a:=cF c a
    refine zF ?_
    cases soI a
    exact zO
  ·rintro _ rfl
   refine nT (zr ?_)
   cases soI h
   exact zq
 ·replace h:=cF b h
  refine zT ?_
  refine zs ?_
  refine zB ?_
  refine nT (zr (rT ?_))
  cases soI h
  exact zq

theorem K125w {A:Ar} (hA:SA A) {k l:List D} {i:Int} (h:K125 A k l=some i):ACall Try.prog 125 [zl 4 k,zl 6 l] [] (zi i) []:=by
 unfold K125 at h
 refine zI Try.func125 ?_
 refine zs ?_
 refine zA ?_
 refine nT (zs (zn ?_))
 obtain ⟨⟨p,g⟩,m,h⟩:=bindS h
 refine zC (K147w hA m) ?_ { tk:=[12] }
 refine zE ?_ { tk:=[12] }
 refine nT (zs (zs ?_))
 obtain ⟨j,b,h⟩:=bindS h
 refine AWp.cutN [6,18] [] 0 (lb rfl) (fun τ=>τ={ env:=[(6,zi g),(18,.d (.bool j))],heap:=[],n:=20 }) ?_ ?_
 ·skip
  rcases tf (A.zeq g 0) with c | c
  ·replace b:=cT c b
   refine zB ?_
   cases soI b
   exact zO
  ·replace b:=cF c b
   refine zB ?_
   cases soI b
   exact zO
 ·rintro _ rfl
  refine nT ?_
  obtain ⟨o,a,h⟩:=bindS h
  refine AWp.cutN [6] [] 0 (lb rfl) (fun τ=>τ={ env:=[(6,zi o)],heap:=[],n:=20 }) ?_ ?_
  ·skip
   rcases tf j with e | e
   ·replace a:=cT e a
    refine zT ?_
    refine zB ?_
    cases soI a
    exact zO
   ·replace a:=cF e a
    refine zU ?_
    refine zk ?_
    cases soI a
    exact zO
  ·rintro _ rfl
   refine nT (zs ?_)
   refine zA ?_ { tk:=[6,19] }
   refine nT (zr ?_)
   cases soI h
   exact zq

theorem K126w {A:Ar} (hA:SA A) {c e a b:List D} (h:K126 A c e=some (a,b)):ACall Try.prog 126 [zl 4 c,zl 6 e,(.func 127 [] [])] [] (.ptr 1 0) [(.map true [.int .u8,.int .i64,.int .i64] []),(.cells [zl 4 a,zl 6 b,(.func 127 [] []),(.map 0)])]:=by
 unfold K126 at h
 refine zI Try.func126 ?_
 refine zs ?_
 refine zA ?_
 refine nT (zs ?_)
 refine zA ?_ { tk:=[12],esc:=[12] }
 refine nT (zr ?_)
 cases soI h
 exact zq

theorem K170aw {A:Ar} (hA:SA A) {b c:Int} {a:Bool} (h:K170a A b c=some a):ACall Try.prog 170 [.d (.int .u8 b),zi c] [] (.d (.bool a)) []:=by
 unfold K170a at h
 refine zI Try.func170 ?_
 refine zs ?_
 refine zA ?_
 refine nT (zs ?_)
 obtain ⟨_,e,h⟩:=bindS h
 have g:=nkI e
 refine zB ?_ { tk:=[9] }
 refine nT (zr ?_)
 cases soI h
 exact zq

theorem K148aw {A:Ar} (hA:SA A) {k l m:Int} {g:List (D×D)} {i b:List D} {r:Bool} (h:K148a A k l m g i b=some r):ACall Try.prog 148 [.ptr 1 0,.d (.agg [.int .u8 k,.int .i64 l,.int .i64 m])] [(.map true [.int .u8,.int .i64,.int .i64] g),(.cells [zl 4 i,zl 6 b,(.func 127 [] []),(.map 0)])] (.d (.bool r)) [(.map true [.int .u8,.int .i64,.int .i64] g),(.cells [zl 4 i,zl 6 b,(.func 127 [] []),(.map 0)])]:=by
 unfold K148a at h
 refine zI Try.func148 ?_
 refine zs ?_
 refine zA ?_
 refine nT (zs (zs ?_))
 refine zA ?_
 refine nT (zb ?_)
 obtain ⟨N,z,K40,s,e⟩:=bindK h
 refine AWp.cutX 0 [] [] 2 (lb rfl) (fun τ=>K40 (.inl ())=some r/\τ={ env:=[],heap:=[(.map true [.int .u8,.int .i64,.int .i64] g),(.cells [zl 4 i,zl 6 b,(.func 127 [] []),(.map 0)])],n:=28 }) ?_ ?_
 ·skip
  refine AWp.iter z [3,10,11,12] [] 2 (lb rfl) (fun j=>{ env:=[(3,(.lbox [.d (.int .u8 k),zi l,zi m])),(10,zl 6 b),(11,(.d (.int .i64 (A.len b)))),(12,zi j)],heap:=[(.map true [.int .u8,.int .i64,.int .i64] g),(.cells [zl 4 i,zl 6 b,(.func 127 [] []),(.map 0)])],n:=28 }) ⟨rfl,zc⟩ ?_
  rintro j J a
  dsimp only [K148aL0] at a
  refine zs ?_
  refine zA ?_
  refine nT (zs ?_)
  rcases tf (A.zlt j (A.len b)) with o | o
  ·replace a:=cT o a
   refine zT ?_
   refine zk (nT (zs (zb (zs ?_))))
   obtain ⟨⟨B,C,E,F,G,v⟩,w,a⟩:=bindS a
   obtain ⟨K,L⟩:=gtI w
   refine zB ?_ { tk:=[16] }
   refine nT (zs ?_)
   obtain ⟨u,c,a⟩:=bindS a
   refine AWp.cutN [3,10,11,12,26] [] 2 (lb rfl) (fun τ=>τ={ env:=[(3,(.lbox [.d (.int .u8 k),zi l,zi m])),(10,zl 6 b),(11,(.d (.int .i64 (A.len b)))),(12,zi j),(26,.d (.bool u))],heap:=[(.map true [.int .u8,.int .i64,.int .i64] g),(.cells [zl 4 i,zl 6 b,(.func 127 [] []),(.map 0)])],n:=28 }) ?_ ?_
   ·skip
    refine zn ?_
    rcases tf (A.zlt 0 v) with p | p
    ·replace c:=cT p c
     obtain ⟨M,y,c⟩:=bindS c
     refine zD (K170aw hA y) ?_
     refine zF ?_
     cases soI c
     exact zO
    ·replace c:=cF p c
     refine zF ?_
     cases soI c
     exact zO
   ·rintro _ rfl
    refine nT ?_
    rcases tf u with q | q
    ·replace a:=cT q a
     refine zT ?_
     refine zs ?_
     refine zB ?_
     refine nT (zr (rB (rT (rT ?_))))
     refine exL a fun hx => ?_
     subst hx
     refine oxR ?_
     replace e:=(eR (s _ e))
     refine rB (rT ?_)
     cases soI e
     exact zq
    ·replace a:=cF q a
     refine zU ?_
     refine zk (nB (nT ?_))
     refine zB ?_
     exact nT ⟨_,(soI a).symm,rfl,zv⟩
  ·replace a:=cF o a
   refine zU ?_
   refine AWp.exit (xT (xT ?_))
   refine exL a fun hx => ?_
   subst hx
   exact oxI ⟨rfl,e,zv⟩
 ·rintro _ ⟨e,rfl⟩
  have h:=(eL (s _ e))
  refine xB (nT (zs ?_))
  refine zA ?_
  refine nT (zr ?_)
  cases soI h
  exact zq

theorem K149cw {A:Ar} (hA:SA A) {a b c:Int} {e:List (D×D)} {g i:List D} {j l m k:Int} (h:K149c A a b c e g i j=some (l,m,k)):ACall Try.prog 149 [.ptr 1 0,.d (.agg [.int .u8 a,.int .i64 b,.int .i64 c])] [(.map true [.int .u8,.int .i64,.int .i64] e),(.cells [zl 4 g,zl 6 i,(.func 127 [] []),(.map 0)]),.cells [.ptr 1 0],.cells [zi j]] (.func 171 [] [.ptr 4 0,.iptr [.int .u8 l,.int .i64 m,.int .i64 k]]) [(.map true [.int .u8,.int .i64,.int .i64] e),(.cells [zl 4 g,zl 6 i,(.func 127 [] []),(.map 0)]),.cells [.ptr 1 0],.cells [zi j],.cells [.ptr 1 0]]:=by
 unfold K149c at h
 refine zI Try.func149 ?_
 refine zs ?_
 refine zA ?_ { esc:=[2] }
 refine nT ?_
 refine AWp.freezeBox 3 [.int .u8 a,.int .i64 b,.int .i64 c] rfl rfl ?_
 refine zs ?_
 refine zA ?_ { tk:=[5] }
 refine nT (zr ?_)
 cases soI h
 exact zq

theorem K172aw {A:Ar} (hA:SA A) {v w:Int} {U:List D} {q e r s u j Q R:Int} {S:Bool} (h:K172a A v w U q e r s u j=some (Q,R,S)):ACall Try.prog 172 [.d (.agg [.int .i64 v,.int .i64 w]),zl 4 U,.d (.agg [.int .i64 q,.int .i64 e,.int .i64 r,.int .i64 s,.int .i64 u,.int .i64 j])] [] (.tuple [.d (.agg [.int .i64 Q,.int .i64 R]),.d (.bool S)]) []:=by
 unfold K172a at h
 refine zI Try.func172 ?_
 refine zs ?_
 refine zA ?_
 refine nT (zs ?_)
 obtain ⟨⟨J,K,L,M,N⟩,b,h⟩:=bindS h
 refine AWp.cutN [3,5,6,8,9] [] 0 (lb rfl) (fun τ=>τ={ env:=[(3,(.lbox [zi v,zi w])),(5,(.lbox [zi q,zi e,zi r,zi s,zi u,zi j])),(6,(.lbox [zi 0,zi 0])),(8,(.lbox [zi J,zi K,zl 1 L,zl 1 M])),(9,zi N)],heap:=[],n:=49 }) ?_ ?_
 ·skip
  obtain ⟨⟨s0,u0,v0,w0⟩,V,b⟩:=bindS b
  obtain ⟨y,p⟩:=gtI V
  rcases tf (A.zeq e 0) with k | k
  ·replace b:=cT k b
   obtain ⟨b0,c0,z⟩:=ixF hA (n:=2) k (by decide)
   have f16f18:=p
   rw [z] at f16f18
   refine AWp.rd hT hA { tk:=[14] } rfl (by (repeat (cbv;simp only [y,p,b0,c0,z,f16f18]));try cbv) (by kernel_rfl) (lb rfl) ?_
   cases soI b
   exact zO
  ·replace b:=cF k b
   rcases tf (A.zeq e 1) with l | l
   ·replace b:=cT l b
    obtain ⟨d0,e0,B⟩:=ixF hA (n:=2) l (by decide)
    have f16f20:=p
    rw [B] at f16f20
    refine AWp.rd hT hA { tk:=[14] } rfl (by (repeat (cbv;simp only [y,p,d0,e0,B,f16f20]));try cbv) (by kernel_rfl) (lb rfl) ?_
    cases soI b
    exact zO
   ·replace b:=cF l b
    cases b
 ·rintro _ rfl
  refine nT (zs ?_)
  obtain ⟨⟨O,P⟩,a,h⟩:=bindS h
  refine AWp.cutN [3,5,6,8,9] [] 0 (lb rfl) (fun τ=>τ={ env:=[(3,(.lbox [zi O,zi P])),(5,(.lbox [zi q,zi e,zi r,zi s,zi u,zi j])),(6,(.lbox [zi 0,zi 0])),(8,(.lbox [zi J,zi K,zl 1 L,zl 1 M])),(9,zi N)],heap:=[],n:=49 }) ?_ ?_
  ·skip
   obtain ⟨y0,W,a⟩:=bindS a
   obtain ⟨C,E⟩:=gtI W
   obtain ⟨z0,X,a⟩:=bindS a
   obtain ⟨F,G⟩:=gtI X
   rcases tf (A.zeq e 0) with m | m
   ·replace a:=cT m a
    obtain ⟨g0,i0,j0⟩:=ixF hA (n:=2) m (by decide)
    refine AWp.rd hT hA { tk:=[29] } rfl (by (repeat (cbv;simp only [C,E,F,G,g0,i0,j0]));try cbv) (by kernel_rfl) (lb rfl) ?_
    cases soI a
    exact zO
   ·replace a:=cF m a
    rcases tf (A.zeq e 1) with o | o
    ·replace a:=cT o a
     obtain ⟨k0,l0,m0⟩:=ixF hA (n:=2) o (by decide)
     refine AWp.rd hT hA { tk:=[29] } rfl (by (repeat (cbv;simp only [C,E,F,G,k0,l0,m0]));try cbv) (by kernel_rfl) (lb rfl) ?_
     cases soI a
     exact zO
    ·replace a:=cF o a
     cases a
  ·rintro _ rfl
   refine nT (zs ?_)
   obtain ⟨r0,c,h⟩:=bindS h
   refine AWp.cutN [6,7] [] 0 (lb rfl) (fun τ=>τ={ env:=[(6,(.lbox [zi O,zi P])),(7,.d (.bool r0))],heap:=[],n:=49 }) ?_ ?_
   ·skip
    rcases tf (A.zeq j 0) with i | i
    ·replace c:=cT i c
     refine AWp.rd hT hA { tk:=[31] } rfl (by (repeat (cbv;simp only [i]));try cbv) (by kernel_rfl) (lb rfl) ?_
     cases soI c
     exact (zO (g:=(by first | (cbv;done) | ((repeat (cbv;simp only [i]));try cbv))))
    ·replace c:=cF i c
     obtain ⟨a1,Y,c⟩:=bindS c
     obtain ⟨n0,o0⟩:=gtI Y
     obtain ⟨b1,a0,c⟩:=bindS c
     obtain ⟨p0,q0⟩:=gtI a0
     refine AWp.rd hT hA { tk:=[31] } rfl (by (repeat (cbv;simp only [i,n0,o0,p0,q0]));try cbv) (by kernel_rfl) (lb rfl) ?_
     cases soI c
     exact (zO (g:=(by first | (cbv;done) | ((repeat (cbv;simp only [i]));try cbv))))
   ·rintro _ rfl
    refine nT (zr ?_)
    cases soI h
    exact zq

theorem K171aw {A:Ar} (hA:SA A) {self123:Int->Int->Int->(List (D×D))->List D->List D->(Option (Int×List (D×D)))} (q0 : ∀ {i k l:Int} {r:List (D×D)} {c a:List D} {Y:Int} {y2:List (D×D)},self123 i k l r c a=some (Y,y2)->ACall Try.prog 128 [.ptr 1 0,.d (.agg [.int .u8 i,.int .i64 k,.int .i64 l])] [(.map true [.int .u8,.int .i64,.int .i64] r),(.cells [zl 4 c,zl 6 a,(.func 127 [] []),(.map 0)])] (zi Y) [(.map true [.int .u8,.int .i64,.int .i64] y2),(.cells [zl 4 c,zl 6 a,(.func 127 [] []),(.map 0)])]) {i k l:Int} {r:List (D×D)} {c a:List D} {X:Int} {S:List (D×D)} {U:Int} (h:K171a A self123 i k l r c a X=some (S,U)):ACall Try.prog 171 [(.yield 5),.ptr 4 0,.iptr [.int .u8 i,.int .i64 k,.int .i64 l]] [(.map true [.int .u8,.int .i64,.int .i64] r),(.cells [zl 4 c,zl 6 a,(.func 127 [] []),(.map 0)]),.cells [.ptr 1 0],.cells [zi X],.cells [.ptr 1 0],(.loop { st := .ready,pending:=none,env:=[(2,.ptr 2 0),(7,.ptr 3 0)],n:=41,params := #[27,28],assign:=KA128r0,body:=KB128r0 })] (.tuple []) [(.map true [.int .u8,.int .i64,.int .i64] S),(.cells [zl 4 c,zl 6 a,(.func 127 [] []),(.map 0)]),.cells [.ptr 1 0],.cells [zi U],.cells [.ptr 1 0],(.loop { st := .ready,pending:=none,env:=[(2,.ptr 2 0),(7,.ptr 3 0)],n:=41,params := #[27,28],assign:=KA128r0,body:=KB128r0 })]:=by
 unfold K171a at h
 refine zI Try.func171 ?_
 refine zs ?_
 refine zA ?_
 refine nT (zb ?_)
 obtain ⟨a2,p0,a0,n0,N⟩:=bindK h
 refine AWp.cutX 0 [] [] 6 (lb rfl) (fun τ => ∃ Q R,a0 (Q,R)=some (S,U)/\τ={ env:=[],heap:=[(.map true [.int .u8,.int .i64,.int .i64] Q),(.cells [zl 4 c,zl 6 a,(.func 127 [] []),(.map 0)]),.cells [.ptr 1 0],.cells [zi R],.cells [.ptr 1 0],(.loop { st := .ready,pending:=none,env:=[(2,.ptr 2 0),(7,.ptr 3 0)],n:=41,params := #[27,28],assign:=KA128r0,body:=KB128r0 })],n:=82 }) ?_ ?_
 ·skip
  refine AWp.iter p0 [0,1,2,14,15,16] [] 6 (lb rfl) (fun (g,p,q)=>{ env:=[(0,(.yield 5)),(1,.ptr 4 0),(2,.iptr [.int .u8 i,.int .i64 k,.int .i64 l]),(14,zl 6 a),(15,(.d (.int .i64 (A.len a)))),(16,zi g)],heap:=[(.map true [.int .u8,.int .i64,.int .i64] p),(.cells [zl 4 c,zl 6 a,(.func 127 [] []),(.map 0)]),.cells [.ptr 1 0],.cells [zi q],.cells [.ptr 1 0],(.loop { st := .ready,pending:=none,env:=[(2,.ptr 2 0),(7,.ptr 3 0)],n:=41,params := #[27,28],assign:=KA128r0,body:=KB128r0 })],n:=82 }) ⟨rfl,zc⟩ ?_
  rintro ⟨g,p,q⟩ n1 o
  dsimp only [K171aL1] at o
  refine zs ?_
  refine zA ?_
  refine nT (zs ?_)
  rcases tf (A.zlt g (A.len a)) with L | L
  ·replace o:=cT L o
   refine zT ?_
   refine zk (nT (zs ?_))
   obtain ⟨⟨V,W⟩,b,o⟩:=bindS o
   refine AWp.cutN [0,1,2,14,15,16] [] 6 (lb rfl) (fun τ=>τ={ env:=[(0,(.yield 5)),(1,.ptr 4 0),(2,.iptr [.int .u8 i,.int .i64 k,.int .i64 l]),(14,zl 6 a),(15,(.d (.int .i64 (A.len a)))),(16,zi g)],heap:=[(.map true [.int .u8,.int .i64,.int .i64] V),(.cells [zl 4 c,zl 6 a,(.func 127 [] []),(.map 0)]),.cells [.ptr 1 0],.cells [zi W],.cells [.ptr 1 0],(.loop { st := .ready,pending:=none,env:=[(2,.ptr 2 0),(7,.ptr 3 0)],n:=41,params := #[27,28],assign:=KA128r0,body:=KB128r0 })],n:=82 }) ?_ ?_
   ·skip
    refine zb (zs ?_)
    obtain ⟨⟨v,w,y,z,B,C⟩,k0,b⟩:=bindS b
    obtain ⟨r1,s1⟩:=gtI k0
    refine zB ?_ { tk:=[20] }
    refine nT (zs (zn ?_))
    obtain ⟨y1,l0,b⟩:=bindS b
    refine zD (K170aw hA l0) ?_
    refine zF ?_
    refine nT (zs (zs ?_))
    refine zB ?_
    refine nT (zb ?_)
    obtain ⟨z1,o0,K128,m0,M⟩:=bindK b
    refine AWp.cutX 2 [0,1,2,4,5,6,14,15,16] [] 6 (lb rfl) (fun τ => ∃ u,K128 u=some (V,W)/\τ={ env:=[(0,(.yield 5)),(1,.ptr 4 0),(2,.iptr [.int .u8 i,.int .i64 k,.int .i64 l]),(4,zi g),(5,(.lbox [zi v,zi w,zi y,zi z,zi B,zi C])),(6,.d (.bool u)),(14,zl 6 a),(15,(.d (.int .i64 (A.len a)))),(16,zi g)],heap:=[(.map true [.int .u8,.int .i64,.int .i64] p),(.cells [zl 4 c,zl 6 a,(.func 127 [] []),(.map 0)]),.cells [.ptr 1 0],.cells [zi q],.cells [.ptr 1 0],(.loop { st := .ready,pending:=none,env:=[(2,.ptr 2 0),(7,.ptr 3 0)],n:=41,params := #[27,28],assign:=KA128r0,body:=KB128r0 })],n:=82 }) ?_ ?_
    ·skip
     refine AWp.iter o0 [0,1,2,4,5,6,14,15,16,29,30,31] [] 6 (lb rfl) (fun (P,s)=>{ env:=[(0,(.yield 5)),(1,.ptr 4 0),(2,.iptr [.int .u8 i,.int .i64 k,.int .i64 l]),(4,zi g),(5,(.lbox [zi v,zi w,zi y,zi z,zi B,zi C])),(6,.d (.bool P)),(14,zl 6 a),(15,(.d (.int .i64 (A.len a)))),(16,zi g),(29,zl 6 a),(30,(.d (.int .i64 (A.len a)))),(31,zi s)],heap:=[(.map true [.int .u8,.int .i64,.int .i64] p),(.cells [zl 4 c,zl 6 a,(.func 127 [] []),(.map 0)]),.cells [.ptr 1 0],.cells [zi q],.cells [.ptr 1 0],(.loop { st := .ready,pending:=none,env:=[(2,.ptr 2 0),(7,.ptr 3 0)],n:=41,params := #[27,28],assign:=KA128r0,body:=KB128r0 })],n:=82 }) ⟨rfl,zv⟩ ?_
     rintro ⟨P,s⟩ m1 j
     dsimp only [K171aL0] at j
     refine zs ?_
     refine zA ?_
     refine nT (zs ?_)
     rcases tf (A.zlt s (A.len a)) with E | E
     ·replace j:=cT E j
      refine zT ?_
      refine zk (nT (zs (zb (zs ?_))))
      obtain ⟨⟨e1,g1,i1,j1,k1,l1⟩,b0,j⟩:=bindS j
      obtain ⟨o1,p1⟩:=gtI b0
      refine zB ?_ { tk:=[35] }
      refine nT ?_
      obtain ⟨y0,e,j⟩:=bindS j
      refine AWp.cutN [0,1,2,4,5,6,14,15,16,29,30,31] [] 6 (lb rfl) (fun τ=>τ={ env:=[(0,(.yield 5)),(1,.ptr 4 0),(2,.iptr [.int .u8 i,.int .i64 k,.int .i64 l]),(4,zi g),(5,(.lbox [zi v,zi w,zi y,zi z,zi B,zi C])),(6,.d (.bool y0)),(14,zl 6 a),(15,(.d (.int .i64 (A.len a)))),(16,zi g),(29,zl 6 a),(30,(.d (.int .i64 (A.len a)))),(31,zi s)],heap:=[(.map true [.int .u8,.int .i64,.int .i64] p),(.cells [zl 4 c,zl 6 a,(.func 127 [] []),(.map 0)]),.cells [.ptr 1 0],.cells [zi q],.cells [.ptr 1 0],(.loop { st := .ready,pending:=none,env:=[(2,.ptr 2 0),(7,.ptr 3 0)],n:=41,params := #[27,28],assign:=KA128r0,body:=KB128r0 })],n:=82 }) ?_ ?_
      ·skip
       refine AWp.regionDraw rfl (lb rfl) ?_
       rcases tf P with F | F
       ·replace e:=cT F e
        obtain ⟨s0,d0,e⟩:=bindS e
        refine DOps.c0 hT hA {} rfl zu (K170aw hA d0) rfl rfl (lb rfl) rfl rfl ?_
        rcases tf s0 with G | G
        ·replace e:=cT G e
         refine DOps.cd hT hA {} rfl zu (by kernel_rfl) ?_
         cases soI e
         exact zO
        ·replace e:=cF G e
         obtain ⟨u1,e0,e⟩:=bindS e
         refine DOps.c0 hT hA {} rfl zu (K127w hA e0) rfl rfl (lb rfl) rfl rfl ?_
         refine DOps.cd hT hA {} rfl zu (by kernel_rfl) ?_
         cases soI e
         exact zO
       ·replace e:=cF F e
        refine DOps.cd hT hA {} rfl zu (by kernel_rfl) ?_
        cases soI e
        exact zO
      ·rintro _ rfl
       refine nB (nT ?_)
       refine zA ?_
       exact nT ⟨_,(soI j).symm,rfl,zc⟩
     ·replace j:=cF E j
      refine zU ?_
      refine AWp.exit (xT (xT ?_))
      refine exL j fun hx => ?_
      subst hx
      exact oxI ⟨rfl,_,M,zv⟩
    ·rintro _ ⟨u,M,rfl⟩
     have b:=(m0 _ M)
     refine xB (nT (zs (zs ?_)))
     refine zA ?_
     refine nT ?_
     rcases tf u with J | J
     ·replace b:=cT J b
      refine zU ?_
      refine zk (nT (zs ?_))
      refine AWp.regionDraw rfl (lb rfl) ?_
      obtain ⟨⟨u0,v0,w0⟩,g0,b⟩:=bindS b
      refine DOps.c0 hT hA { tk:=[65] } rfl zu (K172aw hA g0) rfl rfl (lb rfl) rfl rfl ?_
      refine DOps.cd hT hA { tk:=[65] } rfl zu (by kernel_rfl) ?_
      refine nT (zs ?_)
      obtain ⟨⟨b1,c1⟩,m,b⟩:=bindS b
      refine AWp.cutN [0,1,2,14,15,16,80] [] 6 (lb rfl) (fun τ=>τ={ env:=[(0,(.yield 5)),(1,.ptr 4 0),(2,.iptr [.int .u8 i,.int .i64 k,.int .i64 l]),(14,zl 6 a),(15,(.d (.int .i64 (A.len a)))),(16,zi g),(80,.d (.bool false))],heap:=[(.map true [.int .u8,.int .i64,.int .i64] b1),(.cells [zl 4 c,zl 6 a,(.func 127 [] []),(.map 0)]),.cells [.ptr 1 0],.cells [zi c1],.cells [.ptr 1 0],(.loop { st := .ready,pending:=none,env:=[(2,.ptr 2 0),(7,.ptr 3 0)],n:=41,params := #[27,28],assign:=KA128r0,body:=KB128r0 })],n:=82 }) ?_ ?_
      ·skip
       refine AWp.regionDraw rfl (lb rfl) ?_
       rcases tf w0 with K | K
       ·replace m:=cT K m
        obtain ⟨_,i0,m⟩:=bindS m
        have q1:=nkI i0
        obtain ⟨r0,O,m⟩:=bindS m
        obtain ⟨z0,a1⟩:=r0
        have d1:YCall Try.prog 5 [zi g,(.d (.agg [(.int .u8 (A.bits .or .u8 i (A.shl .u8 1 g))),.int .i64 u0,.int .i64 v0]))] [(.map true [.int .u8,.int .i64,.int .i64] p),(.cells [zl 4 c,zl 6 a,(.func 127 [] []),(.map 0)]),.cells [.ptr 1 0],.cells [zi q],.cells [.ptr 1 0],(.loop { st := .ready,pending:=none,env:=[(2,.ptr 2 0),(7,.ptr 3 0)],n:=41,params := #[27,28],assign:=KA128r0,body:=KB128r0 })] (.d (.bool true)) [(.map true [.int .u8,.int .i64,.int .i64] z0),(.cells [zl 4 c,zl 6 a,(.func 127 [] []),(.map 0)]),.cells [.ptr 1 0],.cells [zi a1],.cells [.ptr 1 0],(.loop { st := .ready,pending:=none,env:=[(2,.ptr 2 0),(7,.ptr 3 0)],n:=41,params := #[27,28],assign:=KA128r0,body:=KB128r0 })]:=by
         refine YCall.mk rfl rfl rfl rfl rfl rfl (lb rfl) ?_
         dsimp only [KA128r0,KB128r0,cAt,Try.f128,Option.getD]
         refine zA ?_ { tk:=[28] }
         refine ⟨rfl,rfl,?_⟩
         refine zb ?_
         refine AWp.regionDraw rfl (lb rfl) ?_
         obtain ⟨⟨v1,w1⟩,j0,O⟩:=bindS O
         refine DOps.cl hT hA { tk:=[33] } rfl zc (q0 j0) rfl rfl rfl rfl rfl (lb rfl) rfl rfl ?_
         refine DOps.cd hT hA { tk:=[33] } rfl zc (by kernel_rfl) ?_
         refine nB ?_
         cases soI O
         exact ⟨rfl,rfl,_,rfl⟩
        refine DOps.cy hT hA {} rfl zu d1 rfl (.inl rfl) rfl rfl rfl (lb rfl) rfl rfl ?_
        refine DOps.cd hT hA {} rfl zu (by kernel_rfl) ?_
        cases soI m
        exact zO
       ·replace m:=cF K m
        refine DOps.cd hT hA {} rfl zu (by kernel_rfl) ?_
        cases soI m
        exact zO
      ·rintro _ rfl
       refine nT ?_
       refine zU ?_
       refine zk (nB ?_)
       cases soI b
       exact zO
     ·replace b:=cF J b
      refine zT ?_
      refine AWp.exit (xT (xB ?_))
      cases soI b
      exact zO
   ·rintro _ rfl
    refine nT ?_
    refine zA ?_
    exact nT ⟨_,(soI o).symm,rfl,zc⟩
  ·replace o:=cF L o
   refine zU ?_
   refine AWp.exit (xT (xT ?_))
   refine exL o fun hx => ?_
   subst hx
   exact oxI ⟨rfl,_,_,N,zv⟩
 ·rintro _ ⟨Q,R,N,rfl⟩
  have h:=(n0 _ N)
  refine xB ?_
  cases soI h
  exact zq
end Go.Am
