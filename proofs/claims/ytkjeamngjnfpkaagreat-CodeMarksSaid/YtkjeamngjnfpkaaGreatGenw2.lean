/- Own text: Genw2. -/
import Derived.Test.YtkjeamngjnfpkaaGreatGenw1
set_option maxRecDepth 100000
set_option maxHeartbeats 2000000
set_option linter.unusedVariables false
set_option linter.unusedSimpArgs false
namespace Go.Am
open Go Go.Proofs
theorem Z52w {A:Ar} (hA:SA A) {b p:List D} {v w y z B C E c e g i j k l m n o q:Int} {r s u a:List D} (h:Z52 A b p v w y z B C E c e g i j k l m n o q r s u=some a):ACall Tryz.prog 52 [.d (.agg [.list 1 b,.list 1 p,.int .i64 v,.int .i64 w,.int .i64 y,.int .i64 z,.int .i64 B,.int .i64 C,.int .i64 E,.int .i64 c,.int .i64 e,.int .i64 g,.int .i64 i,.int .i64 j,.int .i64 k,.int .i64 l,.int .i64 m,.int .i64 n,.int .i64 o,.int .i64 q,.list 6 r,.list 1 s]),.ptr 0 0] [(.cells [(.own 6 u)])] (.own 1 []) [.cells [zl 6 a]]:=by
 unfold Z52 at h
 refine zI Tryz.func52 ?_
 refine zs ?_
 refine zA ?_
 refine nT (zs ?_)
 refine zA ?_ { tk:=[5] }
 refine nT (zs ?_)
 refine zA ?_
 refine nT (zr ?_)
 cases soI h
 exact zq

theorem Z51wa {A:Ar} (hA:SA A) {e g i j c:List D} (h:Z51 A e g i j=some (.inl c)):ACall Tryz.prog 51 [zl 1 e,zl 1 g,zl 1 i,(.func 52 [] [.ptr 0 0])] [(.cells [(.own 6 j)])] (.tuple [.d (.list 1 []),zi 0]) [.cells [zl 6 c]]:=by
 unfold Z51 at h
 refine zI Tryz.func51 ?_
 refine zs ?_
 refine zA ?_
 refine nT (zs (zs (zn ?_)))
 obtain ⟨o,l,h⟩:=bindS h
 refine zC (Z40w hA l) ?_
 refine zE ?_
 refine nT (zs ?_)
 refine zA ?_
 refine nT ?_
 rcases tf (A.zeq o 0) with b | b
 ·replace h:=cT b h
  refine zU ?_
  refine zk (nT (zs (zn ?_)))
  obtain ⟨⟨R,p,q,r,s,u,v,w,y,z,B,C,E,F,G,J,K,L,M,N,O,P,n⟩,m,h⟩:=bindS h
  refine zD (Z69w hA m) ?_ { tk:=[24] }
  refine zF ?_ { tk:=[24] }
  refine nT (zs (zs ?_))
  refine zB ?_
  refine nT ?_
  rcases tf n with a | a
  ·replace h:=cT a h
   refine zU ?_
   refine zk (nT (zs (zn ?_)))
   obtain ⟨Q,k,h⟩:=bindS h
   refine zD (Z52w hA k) ?_
   refine zF ?_
   refine nT (zr ?_)
   cases soI h
   exact zq
  ·replace h:=cF a h
   refine zT ?_
   refine zs ?_
   refine zB ?_
   refine nT (zr (rT ?_))
   cases soI h
 ·replace h:=cF b h
  refine zT ?_
  refine zs ?_
  refine zB ?_
  refine nT (zr (rT ?_))
  cases soI h

theorem Z51wb {A:Ar} (hA:SA A) {g i j c:List D} {e:Int} (h:Z51 A g i j c=some (.inr e)):ACall Tryz.prog 51 [zl 1 g,zl 1 i,zl 1 j,(.func 52 [] [.ptr 0 0])] [(.cells [(.own 6 c)])] (.tuple [.d (.list 1 []),zi e]) [(.cells [(.own 6 c)])]:=by
 unfold Z51 at h
 refine zI Tryz.func51 ?_
 refine zs ?_
 refine zA ?_
 refine nT (zs (zs (zn ?_)))
 obtain ⟨o,l,h⟩:=bindS h
 refine zC (Z40w hA l) ?_
 refine zE ?_
 refine nT (zs ?_)
 refine zA ?_
 refine nT ?_
 rcases tf (A.zeq o 0) with b | b
 ·replace h:=cT b h
  refine zU ?_
  refine zk (nT (zs (zn ?_)))
  obtain ⟨⟨R,p,q,r,s,u,v,w,y,z,B,C,E,F,G,J,K,L,M,N,O,P,n⟩,m,h⟩:=bindS h
  refine zD (Z69w hA m) ?_ { tk:=[24] }
  refine zF ?_ { tk:=[24] }
  refine nT (zs (zs ?_))
  refine zB ?_
  refine nT ?_
  rcases tf n with a | a
  ·replace h:=cT a h
   refine zU ?_
   refine zk (nT (zs (zn ?_)))
   obtain ⟨Q,k,h⟩:=bindS h
   refine zD (Z52w hA k) ?_
   refine zF ?_
   refine nT (zr ?_)
   cases soI h
  ·replace h:=cF a h
   refine zT ?_
   refine zs ?_
   refine zB ?_
   refine nT (zr (rT ?_))
   cases soI h
   exact zq
 ·replace h:=cF b h
  refine zT ?_
  refine zs ?_
  refine zB ?_
  refine nT (zr (rT ?_))
  cases soI h
  exact zq

theorem Z15w {A:Ar} (hA:SA A) {g i j c:List D} {e:Int} (h:Z15 A g i j=some (c,e)):ACall Tryz.prog 15 [zl 1 g,zl 1 i,zl 1 j] [] (.tuple [zl 6 c,zi e]) []:=by
 unfold Z15 at h
 refine zI Tryz.func15 ?_
 refine zs ?_
 refine zA ?_
 refine nT (zs ?_)
 refine zA ?_ { esc:=[8] }
 refine nT (zs ?_)
 obtain ⟨⟨l,m⟩,a,h⟩:=bindS h
 refine AWp.cutW (fun τ=>τ={ env:=[(8,.ptr 0 0),(10,zi l)],heap:=[.cells [zl 6 m]],n:=21 }) ?_ ?_
 ·skip
  refine zn ?_
  obtain ⟨k,b,a⟩:=bindS a
  rcases k with o | p
  ·replace a:=(eL a)
   refine zC (Z51wa hA b) ?_
   refine zE ?_
   cases soI a
   exact oWi ⟨_,zR [some 0] [8,10],rfl⟩
  ·replace a:=(eR a)
   refine zC (Z51wb hA b) ?_
   refine zE ?_
   cases soI a
   exact oWi ⟨_,(Wk.trans (Wk.softC 0 0 rfl rfl rfl) (zR [some 0] [8,10])),rfl⟩
 ·rintro _ rfl
  refine nT (zs ?_)
  refine zA ?_
  refine nT (zr ?_)
  cases soI h
  exact zq

theorem Z9w {A:Ar} (hA:SA A) {g:Bool} (h:Z9 A=some g):ACall Tryz.prog 9 [] [] (.d (.bool g)) []:=by
 unfold Z9 at h
 refine zI Tryz.func9 ?_
 refine zs ?_
 refine zA ?_
 refine nT (zs ?_)
 refine zA ?_
 refine nT (zs (zn ?_))
 obtain ⟨⟨s,u⟩,p,h⟩:=bindS h
 refine zC (Z15w hA p) ?_
 refine zE ?_
 refine nT (zs ?_)
 obtain ⟨v,a,h⟩:=bindS h
 refine AWp.cutN [0] [] 0 (lb rfl) (fun τ=>τ={ env:=[(0,.d (.bool v))],heap:=[],n:=40 }) ?_ ?_
 ·skip
  rcases tf (A.zeq u 0) with c | c
  ·replace a:=cT c a
   rcases tf (A.zeq (A.len s) 2) with e | e
   ·replace a:=cT e a
    obtain ⟨⟨k,l,m,o,i,j⟩,q,a⟩:=bindS a
    have F:=gcI q
    rcases tf (A.deq [.int .i64 k,.int .i64 l,.int .i64 m,.int .i64 o,.int .i64 i,.int .i64 j] [.int .i64 0,.int .i64 0,.int .i64 0,.int .i64 0,.int .i64 1,.int .i64 12]) with b | b
    ·replace a:=cT b a
     obtain ⟨⟨w,y,z,B,C,E⟩,r,a⟩:=bindS a
     have G:=gcI r
     refine zB ?_ { tk:=[39] }
     cases soI a
     exact zO
    ·replace a:=cF b a
     refine zB ?_ { tk:=[39] }
     cases soI a
     exact zO
   ·replace a:=cF e a
    refine zB ?_ { tk:=[39] }
    cases soI a
    exact zO
  ·replace a:=cF c a
   refine zB ?_ { tk:=[39] }
   cases soI a
   exact zO
 ·rintro _ rfl
  refine nT (zr ?_)
  cases soI h
  exact zq

theorem Z115w {A:Ar} (hA:SA A) {c e i:Int} {g:Bool} (h:Z115 A c e i=some g):ACall Tryz.prog 115 [zi c,zi e,zi i] [] (.d (.bool g)) []:=by
 unfold Z115 at h
 refine zI Tryz.func115 ?_
 refine zs ?_
 refine zA ?_
 refine nT (zs ?_)
 obtain ⟨j,a,h⟩:=bindS h
 refine AWp.cutN [6] [] 0 (lb rfl) (fun τ=>τ={ env:=[(6,.d (.bool j))],heap:=[],n:=15 }) ?_ ?_
 ·skip
  rcases tf (A.zle c e) with b | b
  ·replace a:=cT b a
   refine zB ?_ { tk:=[14] }
   cases soI a
   exact zO
  ·replace a:=cF b a
   refine zB ?_ { tk:=[14] }
   cases soI a
   exact zO
 ·rintro _ rfl
  refine nT (zr ?_)
  cases soI h
  exact zq

theorem Z159w {A:Ar} (hA:SA A) {b c:Int} {a:Bool} (h:Z159 A b c=some a):ACall Tryz.prog 159 [zi b,.iptr [.int .i64 c]] [] (.d (.bool a)) []:=by
 unfold Z159 at h
 refine zI Tryz.func159 ?_
 refine zs ?_
 refine zA ?_
 refine nT (zs (zn ?_))
 obtain ⟨g,e,h⟩:=bindS h
 refine zC (Z115w hA e) ?_ { tk:=[7] }
 refine zE ?_ { tk:=[7] }
 refine nT (zr ?_)
 cases soI h
 exact zq

theorem Z189bw {A:Ar} (hA:SA A) {c:List D} {k j:Int} (h:Z189b A c k=some j):ACall Tryz.prog 189 [zl 1 c,(.func 159 [] [.iptr [.int .i64 k]])] [] (zi j) []:=by
 unfold Z189b at h
 refine zI Tryz.func189 ?_
 refine zs ?_
 refine zA ?_
 refine nT (zs (zs ?_))
 refine zA ?_
 refine nT (zb ?_)
 obtain ⟨y,q,m,l,b⟩:=bindK h
 refine AWp.cutX 0 [] [] 0 (lb rfl) (fun τ=>m (.inl ())=some j∧τ={ env:=[],heap:=[],n:=19 }) ?_ ?_
 ·skip
  refine AWp.iter q [0,1,7,8] [] 0 (lb rfl) (fun i=>{ env:=[(0,zl 1 c),(1,(.func 159 [] [.iptr [.int .i64 k]])),(7,(.d (.int .i64 (A.len c)))),(8,zi i)],heap:=[],n:=19 }) ⟨rfl,zc⟩ ?_
  rintro i u a
  dsimp only [Z189bL0] at a
  refine zs ?_
  refine zA ?_
  refine nT (zs ?_)
  rcases tf (A.zlt i (A.len c)) with e | e
  ·replace a:=cT e a
   refine zT ?_
   refine zk (nT (zs (zb (zs ?_))))
   refine zB ?_ { tk:=[8,10] }
   refine nT (zs (zn ?_))
   obtain ⟨s,o,a⟩:=bindS a
   obtain ⟨v,w⟩:=gtI o
   obtain ⟨r,p,a⟩:=bindS a
   refine zD (Z159w hA p) ?_
   refine zF ?_
   refine nT ?_
   rcases tf r with g | g
   ·replace a:=cT g a
    refine zT ?_
    refine zs ?_
    refine zB ?_ { tk:=[5,17] }
    refine nT (zr (rB (rT (rT ?_))))
    refine exL a fun hx => ?_
    subst hx
    refine oxR ?_
    replace b:=(eR (l _ b))
    refine rB (rT ?_)
    cases soI b
    exact zq
   ·replace a:=cF g a
    refine zU ?_
    refine zk (nB (nT ?_))
    refine zB ?_ { tk:=[18] }
    exact nT ⟨_,(soI a).symm,rfl,zv⟩
  ·replace a:=cF e a
   refine zU ?_
   refine AWp.exit (xT (xT ?_))
   refine exL a fun hx => ?_
   subst hx
   exact oxI ⟨rfl,b,zv⟩
 ·rintro _ ⟨b,rfl⟩
  have h:=(eL (l _ b))
  refine xB (nT (zs ?_))
  refine zA ?_
  refine nT (zr ?_)
  cases soI h
  exact zq

theorem Z158bw {A:Ar} (hA:SA A) {b:List D} {c:Int} {a:Bool} (h:Z158b A b c=some a):ACall Tryz.prog 158 [zl 1 b,(.func 159 [] [.iptr [.int .i64 c]])] [] (.d (.bool a)) []:=by
 unfold Z158b at h
 refine zI Tryz.func158 ?_
 refine zs ?_
 refine zA ?_
 refine nT (zs (zn ?_))
 obtain ⟨g,e,h⟩:=bindS h
 refine zC (Z189bw hA e) ?_ { tk:=[8] }
 refine zE ?_ { tk:=[8] }
 refine nT (zr ?_)
 cases soI h
 exact zq

theorem Z157w {A:Ar} (hA:SA A) {c:List D} {i e:Int} {j k:List D} {l:Int} {g:Bool} (h:Z157 A c i e j k l=some g):ACall Tryz.prog 157 [zl 1 c,.iptr [.int .i64 i,.int .i64 e,.list 1 j,.list 1 k],.iptr [.int .i64 l]] [] (.d (.bool g)) []:=by
 unfold Z157 at h
 refine zI Tryz.func157 ?_
 refine zs ?_
 refine zA ?_
 refine nT (zs ?_)
 obtain ⟨o,a,h⟩:=bindS h
 refine AWp.cutN [4] [] 0 (lb rfl) (fun τ=>τ={ env:=[(4,.d (.bool o))],heap:=[],n:=15 }) ?_ ?_
 ·skip
  refine zn ?_
  rcases tf (A.zeq (A.len c) e) with b | b
  ·replace a:=cT b a
   obtain ⟨p,m,a⟩:=bindS a
   refine zD (Z158bw hA m) ?_ { tk:=[14] }
   refine zF ?_ { tk:=[14] }
   cases soI a
   exact zO
  ·replace a:=cF b a
   refine zF ?_ { tk:=[14] }
   cases soI a
   exact zO
 ·rintro _ rfl
  refine nT (zr ?_)
  cases soI h
  exact zq

theorem Z164aw {A:Ar} (hA:SA A) {c:List D} {k l:Int} {m o:List D} {p j:Int} (h:Z164a A c k l m o p=some j):ACall Tryz.prog 164 [zl 1 c,(.func 157 [] [.iptr [.int .i64 k,.int .i64 l,.list 1 m,.list 1 o],.iptr [.int .i64 p]])] [] (zi j) []:=by
 unfold Z164a at h
 refine zI Tryz.func164 ?_
 refine zs ?_
 refine zA ?_
 refine nT (zs (zs ?_))
 refine zA ?_
 refine nT (zb ?_)
 obtain ⟨E,v,r,q,b⟩:=bindK h
 refine AWp.cutX 0 [] [] 0 (lb rfl) (fun τ=>r (.inl ())=some j∧τ={ env:=[],heap:=[],n:=19 }) ?_ ?_
 ·skip
  refine AWp.iter v [0,1,7,8] [] 0 (lb rfl) (fun i=>{ env:=[(0,zl 1 c),(1,(.func 157 [] [.iptr [.int .i64 k,.int .i64 l,.list 1 m,.list 1 o],.iptr [.int .i64 p]])),(7,(.d (.int .i64 (A.len c)))),(8,zi i)],heap:=[],n:=19 }) ⟨rfl,zc⟩ ?_
  rintro i z a
  dsimp only [Z164aL0] at a
  refine zs ?_
  refine zA ?_
  refine nT (zs ?_)
  rcases tf (A.zlt i (A.len c)) with e | e
  ·replace a:=cT e a
   refine zT ?_
   refine zk (nT (zs (zb (zs ?_))))
   refine zB ?_ { tk:=[8,10] }
   refine nT (zs (zn ?_))
   obtain ⟨y,s,a⟩:=bindS a
   obtain ⟨B,C⟩:=gtI s
   obtain ⟨w,u,a⟩:=bindS a
   refine zD (Z157w hA u) ?_
   refine zF ?_
   refine nT ?_
   rcases tf w with g | g
   ·replace a:=cT g a
    refine zT ?_
    refine zs ?_
    refine zB ?_ { tk:=[5,17] }
    refine nT (zr (rB (rT (rT ?_))))
    refine exL a fun hx => ?_
    subst hx
    refine oxR ?_
    replace b:=(eR (q _ b))
    refine rB (rT ?_)
    cases soI b
    exact zq
   ·replace a:=cF g a
    refine zU ?_
    refine zk (nB (nT ?_))
    refine zB ?_ { tk:=[18] }
    exact nT ⟨_,(soI a).symm,rfl,zv⟩
  ·replace a:=cF e a
   refine zU ?_
   refine AWp.exit (xT (xT ?_))
   refine exL a fun hx => ?_
   subst hx
   exact oxI ⟨rfl,b,zv⟩
 ·rintro _ ⟨b,rfl⟩
  have h:=(eL (q _ b))
  refine xB (nT (zs ?_))
  refine zA ?_
  refine nT (zr ?_)
  cases soI h
  exact zq

theorem Z122aw {A:Ar} (hA:SA A) {b:List D} {c e:Int} {g i:List D} {j:Int} {a:Bool} (h:Z122a A b c e g i j=some a):ACall Tryz.prog 122 [zl 1 b,(.func 157 [] [.iptr [.int .i64 c,.int .i64 e,.list 1 g,.list 1 i],.iptr [.int .i64 j]])] [] (.d (.bool a)) []:=by
 unfold Z122a at h
 refine zI Tryz.func122 ?_
 refine zs ?_
 refine zA ?_
 refine nT (zs (zn ?_))
 obtain ⟨l,k,h⟩:=bindS h
 refine zC (Z164aw hA k) ?_ { tk:=[8] }
 refine zE ?_ { tk:=[8] }
 refine nT (zr ?_)
 cases soI h
 exact zq

theorem Z116w {A:Ar} (hA:SA A) {b e:Int} {g i j:List D} {k:Int} {l:Bool} (h:Z116 A b e g i j k=some l):ACall Tryz.prog 116 [.d (.agg [.int .i64 b,.int .i64 e,.list 1 g,.list 1 i]),zl 1 j,zi k] [] (.d (.bool l)) []:=by
 unfold Z116 at h
 refine zI Tryz.func116 ?_
 refine zs ?_
 refine zA ?_
 refine nT ?_
 refine AWp.freezeBox 3 [.int .i64 b,.int .i64 e,.list 1 g,.list 1 i] rfl rfl ?_
 refine AWp.freezeBox 5 [.int .i64 k] rfl rfl ?_
 refine zs ?_
 obtain ⟨o,a,h⟩:=bindS h
 refine AWp.cutN [6] [] 0 (lb rfl) (fun τ=>τ={ env:=[(6,.d (.bool o))],heap:=[],n:=18 }) ?_ ?_
 ·skip
  refine zn ?_
  rcases tf (A.zeq (A.len j) b) with c | c
  ·replace a:=cT c a
   obtain ⟨p,m,a⟩:=bindS a
   refine zD (Z122aw hA m) ?_ { tk:=[17] }
   refine zF ?_ { tk:=[17] }
   cases soI a
   exact zO
  ·replace a:=cF c a
   refine zF ?_ { tk:=[17] }
   cases soI a
   exact zO
 ·rintro _ rfl
  refine nT (zr ?_)
  cases soI h
  exact zq

theorem Z81w {A:Ar} (hA:SA A) {i j:Int} {k l:List D} {g:Bool} (h:Z81 A i j k l=some g):ACall Tryz.prog 81 [.d (.agg [.int .i64 i,.int .i64 j,.list 1 k,.list 1 l])] [] (.d (.bool g)) []:=by
 unfold Z81 at h
 refine zI Tryz.func81 ?_
 refine zs ?_
 refine zA ?_
 refine nT (zs ?_)
 obtain ⟨v,a,h⟩:=bindS h
 refine AWp.cutN [2] [] 0 (lb rfl) (fun τ=>τ={ env:=[(2,.d (.bool v))],heap:=[],n:=26 }) ?_ ?_
 ·skip
  refine zn ?_
  obtain ⟨s,p,a⟩:=bindS a
  refine zC (Z115w hA p) ?_ { tk:=[25] }
  rcases tf s with e | e
  ·replace a:=cT e a
   obtain ⟨u,q,a⟩:=bindS a
   refine zD (Z115w hA q) ?_ { tk:=[25] }
   rcases tf u with b | b
   ·replace a:=cT b a
    obtain ⟨r,m,a⟩:=bindS a
    refine zD (Z116w hA m) ?_ { tk:=[25] }
    rcases tf r with c | c
    ·replace a:=cT c a
     obtain ⟨w,o,a⟩:=bindS a
     refine zD (Z116w hA o) ?_ { tk:=[25] }
     refine zF ?_ { tk:=[25] }
     cases soI a
     exact zO
    ·replace a:=cF c a
     refine zF ?_ { tk:=[25] }
     cases soI a
     exact zO
   ·replace a:=cF b a
    refine zF ?_ { tk:=[25] }
    cases soI a
    exact zO
  ·replace a:=cF e a
   refine zF ?_ { tk:=[25] }
   cases soI a
   exact zO
 ·rintro _ rfl
  refine nT (zr ?_)
  cases soI h
  exact zq

theorem Z33w {A:Ar} (hA:SA A) {l m:Int} {o p g i:List D} {k:Int} (h:Z33 A l m o p g i=some k):ACall Tryz.prog 33 [.d (.agg [.int .i64 l,.int .i64 m,.list 1 o,.list 1 p]),zl 1 g,zl 1 i] [] (zi k) []:=by
 unfold Z33 at h
 refine zI Tryz.func33 ?_
 refine zs ?_
 refine zA ?_
 refine nT (zs (zb (zs (zn ?_))))
 obtain ⟨v,s,h⟩:=bindS h
 refine zC (Z80w hA s) ?_
 refine zE ?_
 refine nT ?_
 rcases tf v with e | e
 ·replace h:=cT e h
  refine zU ?_
  refine zs ?_
  obtain ⟨j,a,h⟩:=bindS h
  refine AWp.cutN [1,2,11] [] 0 (lb rfl) (fun τ=>τ={ env:=[(1,zl 1 g),(2,zl 1 i),(11,.d (.bool j))],heap:=[],n:=25 }) ?_ ?_
  ·skip
   refine zn ?_
   obtain ⟨u,q,a⟩:=bindS a
   refine zD (Z81w hA q) ?_
   rcases tf u with b | b
   ·replace a:=cT b a
    refine zF ?_
    cases soI a
    exact zO
   ·replace a:=cF b a
    refine zF ?_
    cases soI a
    exact zO
  ·rintro _ rfl
   refine nT ?_
   rcases tf j with c | c
   ·replace h:=cT c h
    refine zT ?_
    refine zs ?_
    refine zB ?_
    refine nT (zr (rB (rT ?_)))
    cases soI h
    exact zq
   ·replace h:=cF c h
    refine zU ?_
    refine zk (nB (nT (zs (zn ?_))))
    obtain ⟨w,r,h⟩:=bindS h
    refine zD (Z40w hA r) ?_ { tk:=[24] }
    refine zF ?_ { tk:=[24] }
    refine nT (zr ?_)
    cases soI h
    exact zq
 ·replace h:=cF e h
  refine zT ?_
  refine zs ?_
  refine zB ?_
  refine nT (zr (rB (rT ?_)))
  cases soI h
  exact zq

theorem Z77w {A:Ar} (hA:SA A) {c e i:Int} {g:Bool} (h:Z77 A c e i=some g):ACall Tryz.prog 77 [zi c,zi e,zi i] [] (.d (.bool g)) []:=by
 unfold Z77 at h
 refine zI Tryz.func77 ?_
 refine zs ?_
 refine zA ?_
 refine nT (zs ?_)
 obtain ⟨j,a,h⟩:=bindS h
 refine AWp.cutN [6] [] 0 (lb rfl) (fun τ=>τ={ env:=[(6,.d (.bool j))],heap:=[],n:=15 }) ?_ ?_
 ·skip
  rcases tf (A.zle c e) with b | b
  ·replace a:=cT b a
   refine zB ?_ { tk:=[14] }
   cases soI a
   exact zO
  ·replace a:=cF b a
   refine zB ?_ { tk:=[14] }
   cases soI a
   exact zO
 ·rintro _ rfl
  refine nT (zr ?_)
  cases soI h
  exact zq

theorem Z109w {A:Ar} (hA:SA A) {b:Int} {a:Bool} (h:Z109 A b=some a):ACall Tryz.prog 109 [zi b] [] (.d (.bool a)) []:=by
 unfold Z109 at h
 refine zI Tryz.func109 ?_
 refine zs ?_
 refine zA ?_
 refine nT (zs (zn ?_))
 obtain ⟨e,c,h⟩:=bindS h
 refine zC (Z77w hA c) ?_ { tk:=[4] }
 refine zE ?_ { tk:=[4] }
 refine nT (zr ?_)
 cases soI h
 exact zq

theorem Z110w {A:Ar} (hA:SA A) {b:Int} {a:Bool} (h:Z110 A b=some a):ACall Tryz.prog 110 [zi b] [] (.d (.bool a)) []:=by
 unfold Z110 at h
 refine zI Tryz.func110 ?_
 refine zs ?_
 refine zA ?_
 refine nT (zs (zn ?_))
 obtain ⟨e,c,h⟩:=bindS h
 refine zC (Z77w hA c) ?_ { tk:=[4] }
 refine zE ?_ { tk:=[4] }
 refine nT (zr ?_)
 cases soI h
 exact zq

theorem Z111w {A:Ar} (hA:SA A) {b:Int} {a:Bool} (h:Z111 A b=some a):ACall Tryz.prog 111 [zi b] [] (.d (.bool a)) []:=by
 unfold Z111 at h
 refine zI Tryz.func111 ?_
 refine zs ?_
 refine zA ?_
 refine nT (zs (zn ?_))
 obtain ⟨e,c,h⟩:=bindS h
 refine zC (Z77w hA c) ?_ { tk:=[4] }
 refine zE ?_ { tk:=[4] }
 refine nT (zr ?_)
 cases soI h
 exact zq

theorem Z78w {A:Ar} (hA:SA A) {k P N Q R:Int} {O:Bool} (h:Z78 A k P N Q R=some O):ACall Tryz.prog 78 [.d (.agg [.int .i64 k,.int .i64 P,.int .i64 N,.int .i64 Q]),zi R] [] (.d (.bool O)) []:=by
 unfold Z78 at h
 refine zI Tryz.func78 ?_
 refine zs ?_
 refine zA ?_
 refine nT (zs (zs ?_))
 refine zA ?_
 refine nT (zb (zs ?_))
 refine zA ?_
 refine nT ?_
 rcases tf (A.zeq k 1) with F | F
 ·replace h:=cT F h
  refine zT ?_
  refine zs ?_
  obtain ⟨y0,c,h⟩:=bindS h
  refine AWp.cutN [4] [] 0 (lb rfl) (fun τ=>τ={ env:=[(4,.d (.bool y0))],heap:=[],n:=114 }) ?_ ?_
  ·skip
   refine zn ?_
   obtain ⟨r8,e7,c⟩:=bindS c
   refine zD (Z109w hA e7) ?_ { tk:=[21] }
   rcases tf r8 with M | M
   ·replace c:=cT M c
    obtain ⟨k0,S,c⟩:=bindS c
    refine zD (Z110w hA S) ?_ { tk:=[21] }
    rcases tf k0 with l | l
    ·replace c:=cT l c
     refine zF ?_ { tk:=[21] }
     cases soI c
     exact zO
    ·replace c:=cF l c
     refine zF ?_ { tk:=[21] }
     cases soI c
     exact zO
   ·replace c:=cF M c
    refine zF ?_ { tk:=[21] }
    cases soI c
    exact zO
  ·rintro _ rfl
   refine nT (zr (rB (rT ?_)))
   cases soI h
   exact zq
 ·replace h:=cF F h
  refine zU ?_
  refine zs ?_
  refine zB ?_
  refine nT ?_
  rcases tf (A.zeq k 2) with m | m
  ·replace h:=cT m h
   refine zT ?_
   refine zs ?_
   obtain ⟨z0,e,h⟩:=bindS h
   refine AWp.cutN [4] [] 0 (lb rfl) (fun τ=>τ={ env:=[(4,.d (.bool z0))],heap:=[],n:=114 }) ?_ ?_
   ·skip
    refine zn ?_
    obtain ⟨l0,U,e⟩:=bindS e
    refine zD (Z110w hA U) ?_ { tk:=[36] }
    rcases tf l0 with o | o
    ·replace e:=cT o e
     obtain ⟨m0,V,e⟩:=bindS e
     refine zD (Z109w hA V) ?_ { tk:=[36] }
     rcases tf m0 with p | p
     ·replace e:=cT p e
      refine zF ?_ { tk:=[36] }
      cases soI e
      exact zO
     ·replace e:=cF p e
      refine zF ?_ { tk:=[36] }
      cases soI e
      exact zO
    ·replace e:=cF o e
     refine zF ?_ { tk:=[36] }
     cases soI e
     exact zO
   ·rintro _ rfl
    refine nT (zr (rB (rT ?_)))
    cases soI h
    exact zq
  ·replace h:=cF m h
   refine zU ?_
   refine zs ?_
   refine zB ?_
   refine nT ?_
   rcases tf (A.zeq k 3) with q | q
   ·replace h:=cT q h
    refine zT ?_
    refine zs ?_
    obtain ⟨a1,a,h⟩:=bindS h
    refine AWp.cutN [4] [] 0 (lb rfl) (fun τ=>τ={ env:=[(4,.d (.bool a1))],heap:=[],n:=114 }) ?_ ?_
    ·skip
     refine zn ?_
     obtain ⟨n0,W,a⟩:=bindS a
     refine zD (Z110w hA W) ?_ { tk:=[51] }
     rcases tf n0 with r | r
     ·replace a:=cT r a
      obtain ⟨o0,X,a⟩:=bindS a
      refine zD (Z109w hA X) ?_ { tk:=[51] }
      rcases tf o0 with s | s
      ·replace a:=cT s a
       obtain ⟨g1,Y,a⟩:=bindS a
       refine zD (Z109w hA Y) ?_ { tk:=[51] }
       refine zF ?_ { tk:=[51] }
       cases soI a
       exact zO
      ·replace a:=cF s a
       refine zF ?_ { tk:=[51] }
       cases soI a
       exact zO
     ·replace a:=cF r a
      refine zF ?_ { tk:=[51] }
      cases soI a
      exact zO
    ·rintro _ rfl
     refine nT (zr (rB (rT ?_)))
     cases soI h
     exact zq
   ·replace h:=cF q h
    refine zU ?_
    refine zs ?_
    refine zB ?_
    refine nT ?_
    rcases tf (A.zeq k 4) with u | u
    ·replace h:=cT u h
     refine zT ?_
     refine zs ?_
     obtain ⟨b1,g,h⟩:=bindS h
     refine AWp.cutN [4] [] 0 (lb rfl) (fun τ=>τ={ env:=[(4,.d (.bool b1))],heap:=[],n:=114 }) ?_ ?_
     ·skip
      refine zn ?_
      obtain ⟨p0,a0,g⟩:=bindS g
      refine zD (Z109w hA a0) ?_ { tk:=[66] }
      rcases tf p0 with v | v
      ·replace g:=cT v g
       obtain ⟨q0,b0,g⟩:=bindS g
       refine zD (Z111w hA b0) ?_ { tk:=[66] }
       rcases tf q0 with w | w
       ·replace g:=cT w g
        refine zF ?_ { tk:=[66] }
        cases soI g
        exact zO
       ·replace g:=cF w g
        refine zF ?_ { tk:=[66] }
        cases soI g
        exact zO
      ·replace g:=cF v g
       refine zF ?_ { tk:=[66] }
       cases soI g
       exact zO
     ·rintro _ rfl
      refine nT (zr (rB (rT ?_)))
      cases soI h
      exact zq
    ·replace h:=cF u h
     refine zU ?_
     refine zs ?_
     refine zB ?_
     refine nT ?_
     rcases tf (A.zeq k 5) with y | y
     ·replace h:=cT y h
      refine zT ?_
      refine zs ?_
      obtain ⟨c1,b,h⟩:=bindS h
      refine AWp.cutN [4] [] 0 (lb rfl) (fun τ=>τ={ env:=[(4,.d (.bool c1))],heap:=[],n:=114 }) ?_ ?_
      ·skip
       refine zn ?_
       obtain ⟨r0,c0,b⟩:=bindS b
       refine zD (Z109w hA c0) ?_ { tk:=[81] }
       rcases tf r0 with z | z
       ·replace b:=cT z b
        obtain ⟨s0,d0,b⟩:=bindS b
        refine zD (Z109w hA d0) ?_ { tk:=[81] }
        rcases tf s0 with B | B
        ·replace b:=cT B b
         obtain ⟨i1,e0,b⟩:=bindS b
         refine zD (Z109w hA e0) ?_ { tk:=[81] }
         refine zF ?_ { tk:=[81] }
         cases soI b
         exact zO
        ·replace b:=cF B b
         refine zF ?_ { tk:=[81] }
         cases soI b
         exact zO
       ·replace b:=cF z b
        refine zF ?_ { tk:=[81] }
        cases soI b
        exact zO
      ·rintro _ rfl
       refine nT (zr (rB (rT ?_)))
       cases soI h
       exact zq
     ·replace h:=cF y h
      refine zU ?_
      refine zs ?_
      refine zB ?_
      refine nT ?_
      rcases tf (A.zeq k 6) with C | C
      ·replace h:=cT C h
       refine zT ?_
       refine zs ?_
       obtain ⟨d1,i,h⟩:=bindS h
       refine AWp.cutN [4] [] 0 (lb rfl) (fun τ=>τ={ env:=[(4,.d (.bool d1))],heap:=[],n:=114 }) ?_ ?_
       ·skip
        refine zn ?_
        obtain ⟨u0,g0,i⟩:=bindS i
        refine zD (Z109w hA g0) ?_ { tk:=[98] }
        rcases tf u0 with E | E
        ·replace i:=cT E i
         obtain ⟨v0,i0,i⟩:=bindS i
         refine zD (Z77w hA i0) ?_ { tk:=[98] }
         rcases tf v0 with G | G
         ·replace i:=cT G i
          refine zF ?_ { tk:=[98] }
          cases soI i
          exact zO
         ·replace i:=cF G i
          refine zF ?_ { tk:=[98] }
          cases soI i
          exact zO
        ·replace i:=cF E i
         refine zF ?_ { tk:=[98] }
         cases soI i
         exact zO
       ·rintro _ rfl
        refine nT (zr (rB (rT ?_)))
        cases soI h
        exact zq
      ·replace h:=cF C h
       refine zU ?_
       refine zs ?_
       refine zB ?_
       refine nT ?_
       rcases tf (A.zeq k 7) with J | J
       ·replace h:=cT J h
        refine zT ?_
        refine zs ?_
        obtain ⟨e1,j,h⟩:=bindS h
        refine AWp.cutN [4] [] 0 (lb rfl) (fun τ=>τ={ env:=[(4,.d (.bool e1))],heap:=[],n:=114 }) ?_ ?_
        ·skip
         refine zn ?_
         obtain ⟨w0,j0,j⟩:=bindS j
         refine zD (Z109w hA j0) ?_ { tk:=[113] }
         rcases tf w0 with K | K
         ·replace j:=cT K j
          rcases tf (A.zeq N 0) with L | L
          ·replace j:=cT L j
           refine zF ?_ { tk:=[113] }
           cases soI j
           exact zO
          ·replace j:=cF L j
           refine zF ?_ { tk:=[113] }
           cases soI j
           exact zO
         ·replace j:=cF K j
          refine zF ?_ { tk:=[113] }
          cases soI j
          exact zO
        ·rintro _ rfl
         refine nT (zr (rB (rT ?_)))
         cases soI h
         exact zq
       ·replace h:=cF J h
        refine zU ?_
        refine zk (nB (nT (zs ?_)))
        refine zB ?_
        refine nT (zr ?_)
        cases soI h
        exact zq

theorem Z30w {A:Ar} (hA:SA A) {g:List D} {s:Bool} (h:Z30 A g=some s):ACall Tryz.prog 30 [zl 1 g] [] (.d (.bool s)) []:=by
 unfold Z30 at h
 refine zI Tryz.func30 ?_
 refine zs ?_
 refine zA ?_
 refine nT (zs (zs (zn ?_)))
 obtain ⟨N,B,h⟩:=bindS h
 refine zC (Z77w hA B) ?_
 refine zE ?_
 refine nT ?_
 rcases tf N with k | k
 ·replace h:=cT k h
  refine zU ?_
  refine zk (nT (zs (zs ?_)))
  refine zB ?_
  refine nT (zb ?_)
  obtain ⟨k0,M,w,j,c⟩:=bindK h
  refine AWp.cutX 0 [] [] 0 (lb rfl) (fun τ=>w (.inl ())=some s∧τ={ env:=[],heap:=[],n:=59 }) ?_ ?_
  ·skip
   refine AWp.iter M [0,3] [] 0 (lb rfl) (fun i=>{ env:=[(0,zl 1 g),(3,zi i)],heap:=[],n:=59 }) ⟨rfl,zv⟩ ?_
   rintro i K a
   dsimp only [Z30L1] at a
   refine zs (zs ?_)
   refine zA ?_
   refine nT ?_
   rcases tf (A.zlt i (A.len g)) with l | l
   ·replace a:=cT l a
    refine zT ?_
    refine zk (nT (zs (zb (zs (zs (zn ?_))))))
    obtain ⟨y,C,a⟩:=bindS a
    obtain ⟨a0,b0⟩:=gtI C
    obtain ⟨O,E,a⟩:=bindS a
    refine zD (Z77w hA E) ?_
    refine zF ?_
    refine nT ?_
    rcases tf O with m | m
    ·replace a:=cT m a
     refine zU ?_
     refine zk (nT (zs (zs ?_)))
     refine zB ?_
     refine nT (zb ?_)
     obtain ⟨j0,L,v,u,e⟩:=bindK a
     refine AWp.cutX 2 [0,3] [] 0 (lb rfl) (fun τ=>v (.inl ())=some K∧τ={ env:=[(0,zl 1 g),(3,zi i)],heap:=[],n:=59 }) ?_ ?_
     ·skip
      refine AWp.iter L [0,3,4] [] 0 (lb rfl) (fun r=>{ env:=[(0,zl 1 g),(3,zi i),(4,zi r)],heap:=[],n:=59 }) ⟨rfl,zv⟩ ?_
      rintro r Y b
      dsimp only [Z30L0] at b
      refine zs (zs ?_)
      refine zB ?_
      refine nT ?_
      rcases tf (A.zlt r (A.len y)) with o | o
      ·replace b:=cT o b
       refine zT ?_
       refine zk (nT (zs (zb (zs ?_))))
       refine AWp.regionDraw rfl (lb rfl) ?_
       obtain ⟨⟨Q,R,S,U⟩,F,b⟩:=bindS b
       obtain ⟨d0,e0⟩:=gtI F
       obtain ⟨P,G,b⟩:=bindS b
       refine DOps.c0 hT hA {} rfl zu (Z78w hA G) rfl rfl (lb rfl) rfl rfl ?_
       refine DOps.cd hT hA {} rfl zu (by kernel_rfl) ?_
       refine nT ?_
       rcases tf P with p | p
       ·replace b:=cT p b
        refine zU ?_
        refine zk (nB (nT ?_))
        refine zB ?_
        exact nT ⟨_,(soI b).symm,rfl,zv⟩
       ·replace b:=cF p b
        refine zT ?_
        refine zs ?_
        refine zB ?_
        refine nT (zr (rB (rT (rT ?_))))
        refine exL b fun hx => ?_
        subst hx
        refine oxR ?_
        replace e:=(eR (u _ e))
        refine rB (rT (rB (rT (rT ?_))))
        refine exL e fun hx => ?_
        subst hx
        refine oxR ?_
        replace c:=(eR (j _ c))
        refine rB (rT ?_)
        cases soI c
        exact zq
      ·replace b:=cF o b
       refine zU ?_
       refine AWp.exit (xT (xT ?_))
       refine exL b fun hx => ?_
       subst hx
       exact oxI ⟨rfl,e,zv⟩
     ·rintro _ ⟨e,rfl⟩
      have a:=(eL (u _ e))
      refine xB (nT (zs ?_))
      obtain ⟨⟨z,V,W,X⟩,J,a⟩:=bindS a
      obtain ⟨g0,i0⟩:=gtI J
      refine AWp.rd hT hA {} rfl zu (by kernel_rfl) (lb rfl) ?_
      refine nT ?_
      rcases tf (A.zeq z 7) with q | q
      ·replace a:=cT q a
       refine zU ?_
       refine zk (nB (nT ?_))
       refine zB ?_
       exact nT ⟨_,(soI a).symm,rfl,zv⟩
      ·replace a:=cF q a
       refine zT ?_
       refine zs ?_
       refine zB ?_
       refine nT (zr (rB (rT (rT ?_))))
       refine exL a fun hx => ?_
       subst hx
       refine oxR ?_
       replace c:=(eR (j _ c))
       refine rB (rT ?_)
       cases soI c
       exact zq
    ·replace a:=cF m a
     refine zT ?_
     refine zs ?_
     refine zB ?_
     refine nT (zr (rT (rB (rT (rT ?_)))))
     refine exL a fun hx => ?_
     subst hx
     refine oxR ?_
     replace c:=(eR (j _ c))
     refine rB (rT ?_)
     cases soI c
     exact zq
   ·replace a:=cF l a
    refine zU ?_
    refine AWp.exit (xT (xT ?_))
    refine exL a fun hx => ?_
    subst hx
    exact oxI ⟨rfl,c,zv⟩
  ·rintro _ ⟨c,rfl⟩
   have h:=(eL (j _ c))
   refine xB (nT (zs ?_))
   refine zA ?_
   refine nT (zr ?_)
   cases soI h
   exact zq
 ·replace h:=cF k h
  refine zT ?_
  refine zs ?_
  refine zB ?_
  refine nT (zr (rT ?_))
  cases soI h
  exact zq

theorem Z79w {A:Ar} (hA:SA A) {g i:Int} {o p c:List D} {q:Int} {C:Bool} (h:Z79 A g i o p c q=some C):ACall Tryz.prog 79 [.d (.agg [.int .i64 g,.int .i64 i,.list 1 o,.list 1 p]),zl 1 c,zi q] [] (.d (.bool C)) []:=by
 unfold Z79 at h
 refine zI Tryz.func79 ?_
 refine zs ?_
 refine zA ?_
 refine nT (zs (zs ?_))
 refine zA ?_
 refine nT ?_
 rcases tf (A.zeq (A.len c) g) with z | z
 ·replace h:=cT z h
  refine zU ?_
  refine zk (nT (zs (zs ?_)))
  refine zB ?_
  refine nT (zb ?_)
  obtain ⟨X,P,J,B,e⟩:=bindK h
  refine AWp.cutX 0 [] [] 0 (lb rfl) (fun τ=>J (.inl ())=some C∧τ={ env:=[],heap:=[],n:=42 }) ?_ ?_
  ·skip
   refine AWp.iter P [2,3,16,17,18] [] 0 (lb rfl) (fun m=>{ env:=[(2,zi q),(3,(.lbox [zi g,zi i,zl 1 o,zl 1 p])),(16,zl 1 c),(17,(.d (.int .i64 (A.len c)))),(18,zi m)],heap:=[],n:=42 }) ⟨rfl,zv⟩ ?_
   rintro m N b
   dsimp only [Z79L1] at b
   refine zs ?_
   refine zA ?_
   refine nT (zs ?_)
   rcases tf (A.zlt m (A.len c)) with s | s
   ·replace b:=cT s b
    refine zT ?_
    refine zk (nT (zs (zb (zs ?_))))
    obtain ⟨j,L,b⟩:=bindS b
    obtain ⟨R,S⟩:=gtI L
    refine zB ?_
    refine nT (zs (zs ?_))
    refine zB ?_
    refine nT ?_
    rcases tf (A.zeq (A.len j) i) with u | u
    ·replace b:=cT u b
     refine zU ?_
     refine zk (nT (zs ?_))
     refine zB ?_
     refine nT (zb ?_)
     obtain ⟨W,O,G,E,k⟩:=bindK b
     refine AWp.cutX 2 [2,3,16,17,18] [] 0 (lb rfl) (fun τ=>G (.inl ())=some N∧τ={ env:=[(2,zi q),(3,(.lbox [zi g,zi i,zl 1 o,zl 1 p])),(16,zl 1 c),(17,(.d (.int .i64 (A.len c)))),(18,zi m)],heap:=[],n:=42 }) ?_ ?_
     ·skip
      refine AWp.iter O [2,3,16,17,18,27,28,29] [] 0 (lb rfl) (fun r=>{ env:=[(2,zi q),(3,(.lbox [zi g,zi i,zl 1 o,zl 1 p])),(16,zl 1 c),(17,(.d (.int .i64 (A.len c)))),(18,zi m),(27,zl 1 j),(28,(.d (.int .i64 (A.len j)))),(29,zi r)],heap:=[],n:=42 }) ⟨rfl,zv⟩ ?_
      rintro r Q a
      dsimp only [Z79L0] at a
      refine zs ?_
      refine zA ?_
      refine nT (zs ?_)
      rcases tf (A.zlt r (A.len j)) with v | v
      ·replace a:=cT v a
       refine zT ?_
       refine zk (nT (zs (zb (zs ?_))))
       obtain ⟨K,M,a⟩:=bindS a
       obtain ⟨U,V⟩:=gtI M
       refine zB ?_
       refine nT (zs ?_)
       obtain ⟨F,l,a⟩:=bindS a
       refine AWp.cutN [2,3,16,17,18,27,28,29,39] [] 0 (lb rfl) (fun τ=>τ={ env:=[(2,zi q),(3,(.lbox [zi g,zi i,zl 1 o,zl 1 p])),(16,zl 1 c),(17,(.d (.int .i64 (A.len c)))),(18,zi m),(27,zl 1 j),(28,(.d (.int .i64 (A.len j)))),(29,zi r),(39,.d (.bool F))],heap:=[],n:=42 }) ?_ ?_
       ·skip
        rcases tf (A.zlt K 0) with w | w
        ·replace l:=cT w l
         refine zB ?_
         cases soI l
         exact zO
        ·replace l:=cF w l
         refine zB ?_
         cases soI l
         exact zO
       ·rintro _ rfl
        refine nT ?_
        rcases tf F with y | y
        ·replace a:=cT y a
         refine zT ?_
         refine zs ?_
         refine zB ?_
         refine nT (zr (rB (rT (rT ?_))))
         refine exL a fun hx => ?_
         subst hx
         refine oxR ?_
         replace k:=(eR (E _ k))
         refine rB (rB (rT (rT ?_)))
         refine exL k fun hx => ?_
         subst hx
         refine oxR ?_
         replace e:=(eR (B _ e))
         refine rB (rT ?_)
         cases soI e
         exact zq
        ·replace a:=cF y a
         refine zU ?_
         refine zk (nB (nT ?_))
         refine zB ?_
         exact nT ⟨_,(soI a).symm,rfl,zv⟩
      ·replace a:=cF v a
       refine zU ?_
       refine AWp.exit (xT (xT ?_))
       refine exL a fun hx => ?_
       subst hx
       exact oxI ⟨rfl,k,zv⟩
     ·rintro _ ⟨k,rfl⟩
      have b:=(eL (E _ k))
      refine xB (nB (nT ?_))
      refine zA ?_
      exact nT ⟨_,(soI b).symm,rfl,zc⟩
    ·replace b:=cF u b
     refine zT ?_
     refine zs ?_
     refine zB ?_
     refine nT (zr (rT (rB (rT (rT ?_)))))
     refine exL b fun hx => ?_
     subst hx
     refine oxR ?_
     replace e:=(eR (B _ e))
     refine rB (rT ?_)
     cases soI e
     exact zq
   ·replace b:=cF s b
    refine zU ?_
    refine AWp.exit (xT (xT ?_))
    refine exL b fun hx => ?_
    subst hx
    exact oxI ⟨rfl,e,zv⟩
  ·rintro _ ⟨e,rfl⟩
   have h:=(eL (B _ e))
   refine xB (nT (zs ?_))
   refine zA ?_
   refine nT (zr ?_)
   cases soI h
   exact zq
 ·replace h:=cF z h
  refine zT ?_
  refine zs ?_
  refine zB ?_
  refine nT (zr (rT ?_))
  cases soI h
  exact zq

theorem Z31w {A:Ar} (hA:SA A) {b c:Int} {m o:List D} {l:Bool} (h:Z31 A b c m o=some l):ACall Tryz.prog 31 [.d (.agg [.int .i64 b,.int .i64 c,.list 1 m,.list 1 o])] [] (.d (.bool l)) []:=by
 unfold Z31 at h
 refine zI Tryz.func31 ?_
 refine zs ?_
 refine zA ?_
 refine nT (zs ?_)
 obtain ⟨s,a,h⟩:=bindS h
 refine AWp.cutN [2] [] 0 (lb rfl) (fun τ=>τ={ env:=[(2,.d (.bool s))],heap:=[],n:=35 }) ?_ ?_
 ·skip
  refine zn ?_
  rcases tf (A.zle 1 b) with g | g
  ·replace a:=cT g a
   rcases tf (A.zle b 8) with i | i
   ·replace a:=cT i a
    rcases tf (A.zle 1 c) with j | j
    ·replace a:=cT j a
     rcases tf (A.zle c 4) with k | k
     ·replace a:=cT k a
      obtain ⟨r,q,a⟩:=bindS a
      refine zD (Z79w hA q) ?_ { tk:=[34] }
      rcases tf r with e | e
      ·replace a:=cT e a
       obtain ⟨u,p,a⟩:=bindS a
       refine zD (Z79w hA p) ?_ { tk:=[34] }
       refine zF ?_ { tk:=[34] }
       cases soI a
       exact zO
      ·replace a:=cF e a
       refine zF ?_ { tk:=[34] }
       cases soI a
       exact zO
     ·replace a:=cF k a
      refine zF ?_ { tk:=[34] }
      cases soI a
      exact zO
    ·replace a:=cF j a
     refine zF ?_ { tk:=[34] }
     cases soI a
     exact zO
   ·replace a:=cF i a
    refine zF ?_ { tk:=[34] }
    cases soI a
    exact zO
  ·replace a:=cF g a
   refine zF ?_ { tk:=[34] }
   cases soI a
   exact zO
 ·rintro _ rfl
  refine nT (zr ?_)
  cases soI h
  exact zq

theorem Z100w {A:Ar} (hA:SA A) {e g:Int} {i j k:List D} {c:Bool} (h:Z100 A e g i j k=some c):ACall Tryz.prog 100 [.d (.agg [.int .i64 e,.int .i64 g,.list 1 i,.list 1 j]),zl 1 k] [] (.d (.bool c)) []:=by
 unfold Z100 at h
 refine zI Tryz.func100 ?_
 refine zs ?_
 refine zA ?_
 refine nT (zs ?_)
 obtain ⟨o,a,h⟩:=bindS h
 refine AWp.cutN [4] [] 0 (lb rfl) (fun τ=>τ={ env:=[(4,.d (.bool o))],heap:=[],n:=14 }) ?_ ?_
 ·skip
  refine zn ?_
  obtain ⟨m,l,a⟩:=bindS a
  refine zC (Z31w hA l) ?_ { tk:=[13] }
  rcases tf m with b | b
  ·replace a:=cT b a
   refine zF ?_ { tk:=[13] }
   cases soI a
   exact zO
  ·replace a:=cF b a
   refine zF ?_ { tk:=[13] }
   cases soI a
   exact zO
 ·rintro _ rfl
  refine nT (zr ?_)
  cases soI h
  exact zq

theorem Z32w {A:Ar} (hA:SA A) {j g:List D} {s:Bool} (h:Z32 A j g=some s):ACall Tryz.prog 32 [zl 1 j,zl 1 g] [] (.d (.bool s)) []:=by
 unfold Z32 at h
 refine zI Tryz.func32 ?_
 refine zs ?_
 refine zA ?_
 refine nT (zs (zs (zn ?_)))
 obtain ⟨K,z,h⟩:=bindS h
 refine zC (Z77w hA z) ?_
 refine zE ?_
 refine nT ?_
 rcases tf K with o | o
 ·replace h:=cT o h
  refine zU ?_
  refine zk (nT (zs (zs ?_)))
  refine zB ?_
  refine nT (zb ?_)
  obtain ⟨U,J,y,q,c⟩:=bindK h
  refine AWp.cutX 0 [] [] 0 (lb rfl) (fun τ=>y (.inl ())=some s∧τ={ env:=[],heap:=[],n:=44 }) ?_ ?_
  ·skip
   refine AWp.iter J [0,1,5] [] 0 (lb rfl) (fun i=>{ env:=[(0,zl 1 j),(1,zl 1 g),(5,zi i)],heap:=[],n:=44 }) ⟨rfl,zv⟩ ?_
   rintro i F b
   dsimp only [Z32L1] at b
   refine zs (zs ?_)
   refine zA ?_
   refine nT ?_
   rcases tf (A.zlt i (A.len g)) with k | k
   ·replace b:=cT k b
    refine zT ?_
    refine zk (nT (zs (zb (zs (zs ?_)))))
    obtain ⟨u,B,b⟩:=bindS b
    obtain ⟨O,P⟩:=gtI B
    refine zB ?_
    refine nT ?_
    rcases tf (A.zlt 3 (A.len u)) with l | l
    ·replace b:=cT l b
     refine zT ?_
     refine zs ?_
     refine zB ?_
     refine nT (zr (rT (rB (rT (rT ?_)))))
     refine exL b fun hx => ?_
     subst hx
     refine oxR ?_
     replace c:=(eR (q _ c))
     refine rB (rT ?_)
     cases soI c
     exact zq
    ·replace b:=cF l b
     refine zU ?_
     refine zk (nT (zs ?_))
     refine zB ?_
     refine nT (zb ?_)
     obtain ⟨S,G,w,v,e⟩:=bindK b
     refine AWp.cutX 2 [0,1,5] [] 0 (lb rfl) (fun τ=>w (.inl ())=some F∧τ={ env:=[(0,zl 1 j),(1,zl 1 g),(5,zi i)],heap:=[],n:=44 }) ?_ ?_
     ·skip
      refine AWp.iter G [0,1,5,6] [] 0 (lb rfl) (fun r=>{ env:=[(0,zl 1 j),(1,zl 1 g),(5,zi i),(6,zi r)],heap:=[],n:=44 }) ⟨rfl,zv⟩ ?_
      rintro r N a
      dsimp only [Z32L0] at a
      refine zs (zs ?_)
      refine zB ?_
      refine nT ?_
      rcases tf (A.zlt r (A.len u)) with m | m
      ·replace a:=cT m a
       refine zT ?_
       refine zk (nT (zs (zb (zs (zn ?_)))))
       obtain ⟨M,C,a⟩:=bindS a
       obtain ⟨Q,R⟩:=gtI C
       obtain ⟨L,E,a⟩:=bindS a
       refine zD (Z77w hA E) ?_
       refine zF ?_
       refine nT ?_
       rcases tf L with p | p
       ·replace a:=cT p a
        refine zU ?_
        refine zk (nB (nT ?_))
        refine zB ?_
        exact nT ⟨_,(soI a).symm,rfl,zv⟩
       ·replace a:=cF p a
        refine zT ?_
        refine zs ?_
        refine zB ?_
        refine nT (zr (rB (rT (rT ?_))))
        refine exL a fun hx => ?_
        subst hx
        refine oxR ?_
        replace e:=(eR (v _ e))
        refine rB (rB (rT (rT ?_)))
        refine exL e fun hx => ?_
        subst hx
        refine oxR ?_
        replace c:=(eR (q _ c))
        refine rB (rT ?_)
        cases soI c
        exact zq
      ·replace a:=cF m a
       refine zU ?_
       refine AWp.exit (xT (xT ?_))
       refine exL a fun hx => ?_
       subst hx
       exact oxI ⟨rfl,e,zv⟩
     ·rintro _ ⟨e,rfl⟩
      have b:=(eL (v _ e))
      refine xB (nB (nT ?_))
      refine zA ?_
      exact nT ⟨_,(soI b).symm,rfl,zc⟩
   ·replace b:=cF k b
    refine zU ?_
    refine AWp.exit (xT (xT ?_))
    refine exL b fun hx => ?_
    subst hx
    exact oxI ⟨rfl,c,zv⟩
  ·rintro _ ⟨c,rfl⟩
   have h:=(eL (q _ c))
   refine xB (nT (zs ?_))
   refine zA ?_
   refine nT (zr ?_)
   cases soI h
   exact zq
 ·replace h:=cF o h
  refine zT ?_
  refine zs ?_
  refine zB ?_
  refine nT (zr (rT ?_))
  cases soI h
  exact zq
end Go.Am
