/- Own text: Genw2. -/
import Derived.Test.YtkjeamngjnfpkaaGreatGenw1
set_option maxRecDepth 100000
set_option maxHeartbeats 2000000
set_option linter.unusedVariables false
set_option linter.unusedSimpArgs false
namespace Go.Am
open Go Go.Proofs
theorem Z52w {A:Ar} (hA:SA A) {b p:List D} {v w y z B C E c e g i j k l m n o q:Int} {r s u a:List D} (h:Z52 A b p v w y z B C E c e g i j k l m n o q r s u=some a):ACall Tryz.prog 52 [.d (.agg [.list 1 b,.list 1 p,.int .i64 v,.int .i64 w,.int .i64 y,.int .i64 z,.int .i64 B,.int .i64 C,.int .i64 E,.int .i64 c,.int .i64 e,.int .i64 g,.int .i64 i,.int .i64 j,.int .i64 k,.int .i64 l,.int .i64 m,.int .i64 n,.int .i64 o,.int .i64 q,.list 6 r,.list 1 s]),.ptr 0 0] [(.cells [(.own 6 u)])] (.own 1 []) [.cells [zl 6 a]]:=by
 unfold Z52 at h
 refine zI Tryz.func52 ?_
 refine zs ?_
 refine zA ?_
 refine nT (zs ?_)
 refine zA ?_ { tk:=[5] }
 refine nT (zs ?_)
 refine zA ?_
 refine nT (zr ?_)
 cases soI h
 exact zq

theorem Z51wa {A:Ar} (hA:SA A) {e g i j c:List D} (h:Z51 A e g i j=some (.inl c)):ACall Tryz.prog 51 [zl 1 e,zl 1 g,zl 1 i,(.func 52 [] [.ptr 0 0])] [(.cells [(.own 6 j)])] (.tuple [.d (.list 1 []),zi 0]) [.cells [zl 6 c]]:=by
 unfold Z51 at h
 refine zI Tryz.func51 ?_
 refine zs ?_
 refine zA ?_
 refine nT (zs (zs (zn ?_)))
 obtain ⟨o,l,h⟩:=bindS h
 refine zC (Z40w hA l) ?_
 refine zE ?_
 refine nT (zs ?_)
 refine zA ?_
 refine nT ?_
 rcases tf (A.zeq o 0) with b | b
 ·replace h:=cT b h
  refine zU ?_
  refine zk (nT (zs (zn ?_)))
  obtain ⟨⟨R,p,q,r,s,u,v,w,y,z,B,C,E,F,G,J,K,L,M,N,O,P,n⟩,m,h⟩:=bindS h
  refine zD (Z69w hA m) ?_ { tk:=[24] }
  refine zF ?_ { tk:=[24] }
  refine nT (zs (zs ?_))
  refine zB ?_
  refine nT ?_
  rcases tf n with a | a
  ·replace h:=cT a h
   refine zU ?_
   refine zk (nT (zs (zn ?_)))
   obtain ⟨Q,k,h⟩:=bindS h
   refine zD (Z52w hA k) ?_
   refine zF ?_
   refine nT (zr ?_)
   cases soI h
   exact zq
  ·replace h:=cF a h
   refine zT ?_
   refine zs ?_
   refine zB ?_
   refine nT (zr (rT ?_))
   cases soI h
 ·replace h:=cF b h
  refine zT ?_
  refine zs ?_
  refine zB ?_
  refine nT (zr (rT ?_))
  cases soI h

theorem Z51wb {A:Ar} (hA:SA A) {g i j c:List D} {e:Int} (h:Z51 A g i j c=some (.inr e)):ACall Tryz.prog 51 [zl 1 g,zl 1 i,zl 1 j,(.func 52 [] [.ptr 0 0])] [(.cells [(.own 6 c)])] (.tuple [.d (.list 1 []),zi e]) [(.cells [(.own 6 c)])]:=by
 unfold Z51 at h
 refine zI Tryz.func51 ?_
 refine zs ?_
 refine zA ?_
 refine nT (zs (zs (zn ?_)))
 obtain ⟨o,l,h⟩:=bindS h
 refine zC (Z40w hA l) ?_
 refine zE ?_
 refine nT (zs ?_)
 refine zA ?_
 refine nT ?_
 rcases tf (A.zeq o 0) with b | b
 ·replace h:=cT b h
  refine zU ?_
  refine zk (nT (zs (zn ?_)))
  obtain ⟨⟨R,p,q,r,s,u,v,w,y,z,B,C,E,F,G,J,K,L,M,N,O,P,n⟩,m,h⟩:=bindS h
  refine zD (Z69w hA m) ?_ { tk:=[24] }
  refine zF ?_ { tk:=[24] }
  refine nT (zs (zs ?_))
  refine zB ?_
  refine nT ?_
  rcases tf n with a | a
  ·replace h:=cT a h
   refine zU ?_
   refine zk (nT (zs (zn ?_)))
   obtain ⟨Q,k,h⟩:=bindS h
   refine zD (Z52w hA k) ?_
   refine zF ?_
   refine nT (zr ?_)
   cases soI h
  ·replace h:=cF a h
   refine zT ?_
   refine zs ?_
   refine zB ?_
   refine nT (zr (rT ?_))
   cases soI h
   exact zq
 ·replace h:=cF b h
  refine zT ?_
  refine zs ?_
  refine zB ?_
  refine nT (zr (rT ?_))
  cases soI h
  exact zq

theorem Z15w {A:Ar} (hA:SA A) {g i j c:List D} {e:Int} (h:Z15 A g i j=some (c,e)):ACall Tryz.prog 15 [zl 1 g,zl 1 i,zl 1 j] [] (.tuple [zl 6 c,zi e]) []:=by
 unfold Z15 at h
 refine zI Tryz.func15 ?_
 refine zs ?_
 refine zA ?_
 refine nT (zs ?_)
 refine zA ?_ { esc:=[8] }
 refine nT (zs ?_)
 obtain ⟨⟨l,m⟩,a,h⟩:=bindS h
 refine AWp.cutW (fun τ=>τ={ env:=[(8,.ptr 0 0),(10,zi l)],heap:=[.cells [zl 6 m]],n:=21 }) ?_ ?_
 ·skip
  refine zn ?_
  obtain ⟨k,b,a⟩:=bindS a
  rcases k with o | p
  ·replace a:=(eL a)
   refine zC (Z51wa hA b) ?_
   refine zE ?_
   cases soI a
   exact oWi ⟨_,zR [some 0] [8,10],rfl⟩
  ·replace a:=(eR a)
   refine zC (Z51wb hA b) ?_
   refine zE ?_
   cases soI a
   exact oWi ⟨_,(Wk.trans (Wk.softC 0 0 rfl rfl rfl) (zR [some 0] [8,10])),rfl⟩
 ·rintro _ rfl
  refine nT (zs ?_)
  refine zA ?_
  refine nT (zr ?_)
  cases soI h
  exact zq

theorem Z9w {A:Ar} (hA:SA A) {g:Bool} (h:Z9 A=some g):ACall Tryz.prog 9 [] [] (.d (.bool g)) []:=by
 unfold Z9 at h
 refine zI Tryz.func9 ?_
 refine zs ?_
 refine zA ?_
 refine nT (zs ?_)
 refine zA ?_
 refine nT (zs (zn ?_))
 obtain ⟨⟨s,u⟩,p,h⟩:=bindS h
 refine zC (Z15w hA p) ?_
 refine zE ?_
 refine nT (zs ?_)
 obtain ⟨v,a,h⟩:=bindS h
 refine AWp.cutN [0] [] 0 (lb rfl) (fun τ=>τ={ env:=[(0,.d (.bool v))],heap:=[],n:=40 }) ?_ ?_
 ·skip
  rcases tf (A.zeq u 0) with c | c
  ·replace a:=cT c a
   rcases tf (A.zeq (A.len s) 2) with e | e
   ·replace a:=cT e a
    obtain ⟨⟨k,l,m,o,i,j⟩,q,a⟩:=bindS a
    have F:=gcI q
    rcases tf (A.deq [.int .i64 k,.int .i64 l,.int .i64 m,.int .i64 o,.int .i64 i,.int .i64 j] [.int .i64 0,.int .i64 0,.int .i64 0,.int .i64 0,.int .i64 1,.int .i64 12]) with b | b
    ·replace a:=cT b a
     obtain ⟨⟨w,y,z,B,C,E⟩,r,a⟩:=bindS a
     have G:=gcI r
     refine zB ?_ { tk:=[39] }
     cases soI a
     exact zO
    ·replace a:=cF b a
     refine zB ?_ { tk:=[39] }
     cases soI a
     exact zO
   ·replace a:=cF e a
    refine zB ?_ { tk:=[39] }
    cases soI a
    exact zO
  ·replace a:=cF c a
   refine zB ?_ { tk:=[39] }
   cases soI a
   exact zO
 ·rintro _ rfl
  refine nT (zr ?_)
  cases soI h
  exact zq

theorem Z115w {A:Ar} (hA:SA A) {c e i:Int} {g:Bool} (h:Z115 A c e i=some g):ACall Tryz.prog 115 [zi c,zi e,zi i] [] (.d (.bool g)) []:=by
 unfold Z115 at h
 refine zI Tryz.func115 ?_
 refine zs ?_
 refine zA ?_
 refine nT (zs ?_)
 obtain ⟨j,a,h⟩:=bindS h
 refine AWp.cutN [6] [] 0 (lb rfl) (fun τ=>τ={ env:=[(6,.d (.bool j))],heap:=[],n:=15 }) ?_ ?_
 ·skip
  rcases tf (A.zle c e) with b | b
  ·replace a:=cT b a
   refine zB ?_ { tk:=[14] }
   cases soI a
   exact zO
  ·replace a:=cF b a
   refine zB ?_ { tk:=[14] }
   cases soI a
   exact zO
 ·rintro _ rfl
  refine nT (zr ?_)
  cases soI h
  exact zq

theorem Z159w {A:Ar} (hA:SA A) {b c:Int} {a:Bool} (h:Z159 A b c=some a):ACall Tryz.prog 159 [zi b,.iptr [.int .i64 c]] [] (.d (.bool a)) []:=by
 unfold Z159 at h
 refine zI Tryz.func159 ?_
 refine zs ?_
 refine zA ?_
 refine nT (zs (zn ?_))
 obtain ⟨g,e,h⟩:=bindS h
 refine zC (Z115w hA e) ?_ { tk:=[7] }
 refine zE ?_ { tk:=[7] }
 refine nT (zr ?_)
 cases soI h
 exact zq

theorem Z189bw {A:Ar} (hA:SA A) {c:List D} {k j:Int} (h:Z189b A c k=some j):ACall Tryz.prog 189 [zl 1 c,(.func 159 [] [.iptr [.int .i64 k]])] [] (zi j) []:=by
 unfold Z189b at h
 refine zI Tryz.func189 ?_
 refine zs ?_
 refine zA ?_
 refine nT (zs (zs ?_))
 refine zA ?_
 refine nT (zb ?_)
 obtain ⟨y,q,m,l,b⟩:=bindK h
 refine AWp.cutX 0 [] [] 0 (lb rfl) (fun τ=>m (.inl ())=some j/\τ={ env:=[],heap:=[],n:=19 }) ?_ ?_
 ·skip
  refine AWp.iter q [0,1,7,8] [] 0 (lb rfl) (fun i=>{ env:=[(0,zl 1 c),(1,(.func 159 [] [.iptr [.int .i64 k]])),(7,(.d (.int .i64 (A.len c)))),(8,zi i)],heap:=[],n:=19 }) ⟨rfl,zc⟩ ?_
  rintro i u a
  dsimp only [Z189bL0] at a
  refine zs ?_
  refine zA ?_
  refine nT (zs ?_)
  rcases tf (A.zlt i (A.len c)) with e | e
  ·replace a:=cT e a
   refine zT ?_
   refine zk (nT (zs (zb (zs ?_))))
   refine zB ?_ { tk:=[8,10] }
   refine nT (zs (zn ?_))
   obtain ⟨s,o,a⟩:=bindS a
   obtain ⟨v,w⟩:=gtI o
   obtain ⟨r,p,a⟩:=bindS a
   refine zD (Z159w hA p) ?_
   refine zF ?_
   refine nT ?_
   rcases tf r with g | g
   ·replace a:=cT g a
    refine zT ?_
    refine zs ?_
    refine zB ?_ { tk:=[5,17] }
    refine nT (zr (rB (rT (rT ?_))))
    refine exL a fun hx => ?_
    subst hx
    refine oxR ?_
    replace b:=(eR (l _ b))
    refine rB (rT ?_)
    cases soI b
    exact zq
   ·replace a:=cF g a
    refine zU ?_
    refine zk (nB (nT ?_))
    refine zB ?_ { tk:=[18] }
    exact nT ⟨_,(soI a).symm,rfl,zv⟩
  ·replace a:=cF e a
   refine zU ?_
   refine AWp.exit (xT (xT ?_))
   refine exL a fun hx => ?_
   subst hx
   exact oxI ⟨rfl,b,zv⟩
 ·rintro _ ⟨b,rfl⟩
  have h:=(eL (l _ b))
  refine xB (nT (zs ?_))
  refine zA ?_
  refine nT (zr ?_)
  cases soI h
  exact zq

theorem Z158bw {A:Ar} (hA:SA A) {b:List D} {c:Int} {a:Bool} (h:Z158b A b c=some a):ACall Tryz.prog 158 [zl 1 b,(.func 159 [] [.iptr [.int .i64 c]])] [] (.d (.bool a)) []:=by
 unfold Z158b at h
 refine zI Tryz.func158 ?_
 refine zs ?_
 refine zA ?_
 refine nT (zs (zn ?_))
 obtain ⟨g,e,h⟩:=bindS h
 refine zC (Z189bw hA e) ?_ { tk:=[8] }
 refine zE ?_ { tk:=[8] }
 refine nT (zr ?_)
 cases soI h
 exact zq

theorem Z157w {A:Ar} (hA:SA A) {c:List D} {i e:Int} {j k:List D} {l:Int} {g:Bool} (h:Z157 A c i e j k l=some g):ACall Tryz.prog 157 [zl 1 c,.iptr [.int .i64 i,.int .i64 e,.list 1 j,.list 1 k],.iptr [.int .i64 l]] [] (.d (.bool g)) []:=by
 unfold Z157 at h
 refine zI Tryz.func157 ?_
 refine zs ?_
 refine zA ?_
 refine nT (zs ?_)
 obtain ⟨o,a,h⟩:=bindS h
 refine AWp.cutN [4] [] 0 (lb rfl) (fun τ=>τ={ env:=[(4,.d (.bool o))],heap:=[],n:=15 }) ?_ ?_
 ·skip
  refine zn ?_
  rcases tf (A.zeq (A.len c) e) with b | b
  ·replace a:=cT b a
   obtain ⟨p,m,a⟩:=bindS a
   refine zD (Z158bw hA m) ?_ { tk:=[14] }
   refine zF ?_ { tk:=[14] }
   cases soI a
   exact zO
  ·replace a:=cF b a
   refine zF ?_ { tk:=[14] }
   cases soI a
   exact zO
 ·rintro _ rfl
  refine nT (zr ?_)
  cases soI h
  exact zq

theorem Z164aw {A:Ar} (hA:SA A) {c:List D} {k l:Int} {m o:List D} {p j:Int} (h:Z164a A c k l m o p=some j):ACall Tryz.prog 164 [zl 1 c,(.func 157 [] [.iptr [.int .i64 k,.int .i64 l,.list 1 m,.list 1 o],.iptr [.int .i64 p]])] [] (zi j) []:=by
 unfold Z164a at h
 refine zI Tryz.func164 ?_
 refine zs ?_
 refine zA ?_
 refine nT (zs (zs ?_))
 refine zA ?_
 refine nT (zb ?_)
 obtain ⟨E,v,r,q,b⟩:=bindK h
 refine AWp.cutX 0 [] [] 0 (lb rfl) (fun τ=>r (.inl ())=some j/\τ={ env:=[],heap:=[],n:=19 }) ?_ ?_
 ·skip
  refine AWp.iter v [0,1,7,8] [] 0 (lb rfl) (fun i=>{ env:=[(0,zl 1 c),(1,(.func 157 [] [.iptr [.int .i64 k,.int .i64 l,.list 1 m,.list 1 o],.iptr [.int .i64 p]])),(7,(.d (.int .i64 (A.len c)))),(8,zi i)],heap:=[],n:=19 }) ⟨rfl,zc⟩ ?_
  rintro i z a
  dsimp only [Z164aL0] at a
  refine zs ?_
  refine zA ?_
  refine nT (zs ?_)
  rcases tf (A.zlt i (A.len c)) with e | e
  ·replace a:=cT e a
   refine zT ?_
   refine zk (nT (zs (zb (zs ?_))))
   refine zB ?_ { tk:=[8,10] }
   refine nT (zs (zn ?_))
   obtain ⟨y,s,a⟩:=bindS a
   obtain ⟨B,C⟩:=gtI s
   obtain ⟨w,u,a⟩:=bindS a
   refine zD (Z157w hA u) ?_
   refine zF ?_
   refine nT ?_
   rcases tf w with g | g
   ·replace a:=cT g a
    refine zT ?_
    refine zs ?_
    refine zB ?_ { tk:=[5,17] }
    refine nT (zr (rB (rT (rT ?_))))
    refine exL a fun hx => ?_
    subst hx
    refine oxR ?_
    replace b:=(eR (q _ b))
    refine rB (rT ?_)
    cases soI b
    exact zq
   ·replace a:=cF g a
    refine zU ?_
    refine zk (nB (nT ?_))
    refine zB ?_ { tk:=[18] }
    exact nT ⟨_,(soI a).symm,rfl,zv⟩
  ·replace a:=cF e a
   refine zU ?_
   refine AWp.exit (xT (xT ?_))
   refine exL a fun hx => ?_
   subst hx
   exact oxI ⟨rfl,b,zv⟩
 ·rintro _ ⟨b,rfl⟩
  have h:=(eL (q _ b))
  refine xB (nT (zs ?_))
  refine zA ?_
  refine nT (zr ?_)
  cases soI h
  exact zq

theorem Z122aw {A:Ar} (hA:SA A) {b:List D} {c e:Int} {g i:List D} {j:Int} {a:Bool} (h:Z122a A b c e g i j=some a):ACall Tryz.prog 122 [zl 1 b,(.func 157 [] [.iptr [.int .i64 c,.int .i64 e,.list 1 g,.list 1 i],.iptr [.int .i64 j]])] [] (.d (.bool a)) []:=by
 unfold Z122a at h
 refine zI Tryz.func122 ?_
 refine zs ?_
 refine zA ?_
 refine nT (zs (zn ?_))
 obtain ⟨l,k,h⟩:=bindS h
 refine zC (Z164aw hA k) ?_ { tk:=[8] }
 refine zE ?_ { tk:=[8] }
 refine nT (zr ?_)
 cases soI h
 exact zq

theorem Z116w {A:Ar} (hA:SA A) {b e:Int} {g i j:List D} {k:Int} {l:Bool} (h:Z116 A b e g i j k=some l):ACall Tryz.prog 116 [.d (.agg [.int .i64 b,.int .i64 e,.list 1 g,.list 1 i]),zl 1 j,zi k] [] (.d (.bool l)) []:=by
 unfold Z116 at h
 refine zI Tryz.func116 ?_
 refine zs ?_
 refine zA ?_
 refine nT ?_
 refine AWp.freezeBox 3 [.int .i64 b,.int .i64 e,.list 1 g,.list 1 i] rfl rfl ?_
 refine AWp.freezeBox 5 [.int .i64 k] rfl rfl ?_
 refine zs ?_
 obtain ⟨o,a,h⟩:=bindS h
 refine AWp.cutN [6] [] 0 (lb rfl) (fun τ=>τ={ env:=[(6,.d (.bool o))],heap:=[],n:=18 }) ?_ ?_
 ·skip
  refine zn ?_
  rcases tf (A.zeq (A.len j) b) with c | c
  ·replace a:=cT c a
   obtain ⟨p,m,a⟩:=bindS a
   refine zD (Z122aw hA m) ?_ { tk:=[17] }
   refine zF ?_ { tk:=[17] }
   cases soI a
   exact zO
  ·replace a:=cF c a
   refine zF ?_ { tk:=[17] }
   cases soI a
   exact zO
 ·rintro _ rfl
  refine nT (zr ?_)
  cases soI h
  exact zq

theorem Z81w {A:Ar} (hA:SA A) {i j:Int} {k l:List D} {g:Bool} (h:Z81 A i j k l=some g):ACall Tryz.prog 81 [.d (.agg [.int .i64 i,.int .i64 j,.list 1 k,.list 1 l])] [] (.d (.bool g)) []:=by
 unfold Z81 at h
 refine zI Tryz.func81 ?_
 refine zs ?_
 refine zA ?_
 refine nT (zs ?_)
 obtain ⟨v,a,h⟩:=bindS h
 refine AWp.cutN [2] [] 0 (lb rfl) (fun τ=>τ={ env:=[(2,.d (.bool v))],heap:=[],n:=26 }) ?_ ?_
 ·skip
  refine zn ?_
  obtain ⟨s,p,a⟩:=bindS a
  refine zC (Z115w hA p) ?_ { tk:=[25] }
  rcases tf s with e | e
  ·replace a:=cT e a
   obtain ⟨u,q,a⟩:=bindS a
   refine zD (Z115w hA q) ?_ { tk:=[25] }
   rcases tf u with b | b
   ·replace a:=cT b a
    obtain ⟨r,m,a⟩:=bindS a
    refine zD (Z116w hA m) ?_ { tk:=[25] }
    rcases tf r with c | c
    ·replace a:=cT c a
     obtain ⟨w,o,a⟩:=bindS a
     refine zD (Z116w hA o) ?_ { tk:=[25] }
     refine zF ?_ { tk:=[25] }
     cases soI a
     exact zO
    ·replace a:=cF c a
     refine zF ?_ { tk:=[25] }
     cases soI a
     exact zO
   ·replace a:=cF b a
    refine zF ?_ { tk:=[25] }
    cases soI a
    exact zO
  ·replace a:=cF e a
   refine zF ?_ { tk:=[25] }
   cases soI a
   exact zO
 ·rintro _ rfl
  refine nT (zr ?_)
  cases soI h
  exact zq

theorem Z33w {A:Ar} (hA:SA A) {l m:Int} {o p g i:List D} {k:Int} (h:Z33 A l m o p g i=some k):ACall Tryz.prog 33 [.d (.agg [.int .i64 l,.int .i64 m,.list 1 o,.list 1 p]),zl 1 g,zl 1 i] [] (zi k) []:=by
 unfold Z33 at h
 refine zI Tryz.func33 ?_
 refine zs ?_
 refine zA ?_
 refine nT (zs (zb (zs (zn ?_))))
 obtain ⟨v,s,h⟩:=bindS h
 refine zC (Z80w hA s) ?_
 refine zE ?_
 refine nT ?_
 rcases tf v with e | e
 ·replace h:=cT e h
  refine zU ?_
  refine zs ?_
  obtain ⟨j,a,h⟩:=bindS h
  refine AWp.cutN [1,2,11] [] 0 (lb rfl) (fun τ=>τ={ env:=[(1,zl 1 g),(2,zl 1 i),(11,.d (.bool j))],heap:=[],n:=25 }) ?_ ?_
  ·skip
   refine zn ?_
   obtain ⟨u,q,a⟩:=bindS a
   refine zD (Z81w hA q) ?_
   rcases tf u with b | b
   ·replace a:=cT b a
    refine zF ?_
    cases soI a
    exact zO
   ·replace a:=cF b a
    refine zF ?_
    cases soI a
    exact zO
  ·rintro _ rfl
   refine nT ?_
   rcases tf j with c | c
   ·replace h:=cT c h
    refine zT ?_
    refine zs ?_
    refine zB ?_
    refine nT (zr (rB (rT ?_)))
    cases soI h
    exact zq
   ·replace h:=cF c h
    refine zU ?_
    refine zk (nB (nT (zs (zn ?_))))
    obtain ⟨w,r,h⟩:=bindS h
    refine zD (Z40w hA r) ?_ { tk:=[24] }
    refine zF ?_ { tk:=[24] }
    refine nT (zr ?_)
    cases soI h
    exact zq
 ·replace h:=cF e h
  refine zT ?_
  refine zs ?_
  refine zB ?_
  refine nT (zr (rB (rT ?_)))
  cases soI h
  exact zq

theorem Z152w {A:Ar} (hA:SA A) {c e i:Int} {g:Bool} (h:Z152 A c e i=some g):ACall Tryz.prog 152 [zi c,zi e,zi i] [] (.d (.bool g)) []:=by
 unfold Z152 at h
 refine zI Tryz.func152 ?_
 refine zs ?_
 refine zA ?_
 refine nT (zs ?_)
 obtain ⟨j,a,h⟩:=bindS h
 refine AWp.cutN [6] [] 0 (lb rfl) (fun τ=>τ={ env:=[(6,.d (.bool j))],heap:=[],n:=15 }) ?_ ?_
 ·skip
  rcases tf (A.zle c e) with b | b
  ·replace a:=cT b a
   refine zB ?_ { tk:=[14] }
   cases soI a
   exact zO
  ·replace a:=cF b a
   refine zB ?_ { tk:=[14] }
   cases soI a
   exact zO
 ·rintro _ rfl
  refine nT (zr ?_)
  cases soI h
  exact zq

theorem Z183w {A:Ar} (hA:SA A) {b c:Int} {e g:List D} {a:Bool} (h:Z183 A b c e g=some a):ACall Tryz.prog 183 [.d (.agg [.int .i64 b,.int .i64 c,.list 1 e,.list 1 g])] [] (.d (.bool a)) []:=by
 unfold Z183 at h
 refine zI Tryz.func183 ?_
 refine zs ?_
 refine zA ?_
 refine nT (zs (zn ?_))
 obtain ⟨j,i,h⟩:=bindS h
 refine zC (Z81w hA i) ?_ { tk:=[5] }
 refine zE ?_ { tk:=[5] }
 refine nT (zr ?_)
 cases soI h
 exact zq

theorem Z198w {A:Ar} (hA:SA A) {c:List D} {j:Int} (h:Z198 A c=some j):ACall Tryz.prog 198 [zl 4 c,(.func 183 [] [])] [] (zi j) []:=by
 unfold Z198 at h
 refine zI Tryz.func198 ?_
 refine zs ?_
 refine zA ?_
 refine nT (zs (zs ?_))
 refine zA ?_
 refine nT (zb ?_)
 obtain ⟨B,p,l,k,b⟩:=bindK h
 refine AWp.cutX 0 [] [] 0 (lb rfl) (fun τ=>l (.inl ())=some j/\τ={ env:=[],heap:=[],n:=19 }) ?_ ?_
 ·skip
  refine AWp.iter p [0,1,7,8] [] 0 (lb rfl) (fun i=>{ env:=[(0,zl 4 c),(1,(.func 183 [] [])),(7,(.d (.int .i64 (A.len c)))),(8,zi i)],heap:=[],n:=19 }) ⟨rfl,zc⟩ ?_
  rintro i w a
  dsimp only [Z198L0] at a
  refine zs ?_
  refine zA ?_
  refine nT (zs ?_)
  rcases tf (A.zlt i (A.len c)) with e | e
  ·replace a:=cT e a
   refine zT ?_
   refine zk (nT (zs (zb (zs ?_))))
   refine zB ?_ { tk:=[8,10] }
   refine nT (zs (zn ?_))
   obtain ⟨⟨r,s,u,v⟩,m,a⟩:=bindS a
   obtain ⟨y,z⟩:=gtI m
   obtain ⟨q,o,a⟩:=bindS a
   refine zD (Z183w hA o) ?_
   refine zF ?_
   refine nT ?_
   rcases tf q with g | g
   ·replace a:=cT g a
    refine zT ?_
    refine zs ?_
    refine zB ?_ { tk:=[5,17] }
    refine nT (zr (rB (rT (rT ?_))))
    refine exL a fun hx => ?_
    subst hx
    refine oxR ?_
    replace b:=(eR (k _ b))
    refine rB (rT ?_)
    cases soI b
    exact zq
   ·replace a:=cF g a
    refine zU ?_
    refine zk (nB (nT ?_))
    refine zB ?_ { tk:=[18] }
    exact nT ⟨_,(soI a).symm,rfl,zv⟩
  ·replace a:=cF e a
   refine zU ?_
   refine AWp.exit (xT (xT ?_))
   refine exL a fun hx => ?_
   subst hx
   exact oxI ⟨rfl,b,zv⟩
 ·rintro _ ⟨b,rfl⟩
  have h:=(eL (k _ b))
  refine xB (nT (zs ?_))
  refine zA ?_
  refine nT (zr ?_)
  cases soI h
  exact zq

theorem Z182w {A:Ar} (hA:SA A) {b:List D} {a:Bool} (h:Z182 A b=some a):ACall Tryz.prog 182 [zl 4 b,(.func 183 [] [])] [] (.d (.bool a)) []:=by
 unfold Z182 at h
 refine zI Tryz.func182 ?_
 refine zs ?_
 refine zA ?_
 refine nT (zs (zn ?_))
 obtain ⟨e,c,h⟩:=bindS h
 refine zC (Z198w hA c) ?_ { tk:=[8] }
 refine zE ?_ { tk:=[8] }
 refine nT (zr ?_)
 cases soI h
 exact zq

theorem Z149w {A:Ar} (hA:SA A) {e:List D} {c:Bool} (h:Z149 A e=some c):ACall Tryz.prog 149 [zl 4 e] [] (.d (.bool c)) []:=by
 unfold Z149 at h
 refine zI Tryz.func149 ?_
 refine zs ?_
 refine zA ?_
 refine nT (zs ?_)
 obtain ⟨k,a,h⟩:=bindS h
 refine AWp.cutN [2] [] 0 (lb rfl) (fun τ=>τ={ env:=[(2,.d (.bool k))],heap:=[],n:=11 }) ?_ ?_
 ·skip
  refine zn ?_
  obtain ⟨j,g,a⟩:=bindS a
  refine zC (Z152w hA g) ?_ { tk:=[10] }
  rcases tf j with b | b
  ·replace a:=cT b a
   obtain ⟨l,i,a⟩:=bindS a
   refine zD (Z182w hA i) ?_ { tk:=[10] }
   refine zF ?_ { tk:=[10] }
   cases soI a
   exact zO
  ·replace a:=cF b a
   refine zF ?_ { tk:=[10] }
   cases soI a
   exact zO
 ·rintro _ rfl
  refine nT (zr ?_)
  cases soI h
  exact zq

theorem Z184w {A:Ar} (hA:SA A) {r s u v w e:Int} {y:Bool} (h:Z184 A r s u v w e=some y):ACall Tryz.prog 184 [.d (.agg [.int .i64 r,.int .i64 s,.int .i64 u,.int .i64 v,.int .i64 w,.int .i64 e])] [] (.d (.bool y)) []:=by
 unfold Z184 at h
 refine zI Tryz.func184 ?_
 refine zs ?_
 refine zA ?_
 refine nT (zs ?_)
 obtain ⟨q,a,h⟩:=bindS h
 refine AWp.cutN [1,3] [] 0 (lb rfl) (fun τ=>τ={ env:=[(1,(.lbox [zi r,zi s,zi u,zi v,zi w,zi e])),(3,.d (.bool q))],heap:=[],n:=49 }) ?_ ?_
 ·skip
  refine zn ?_
  obtain ⟨N,G,a⟩:=bindS a
  refine zC (Z152w hA G) ?_
  rcases tf N with p | p
  ·replace a:=cT p a
   obtain ⟨J,z,a⟩:=bindS a
   refine zD (Z152w hA z) ?_
   rcases tf J with g | g
   ·replace a:=cT g a
    obtain ⟨K,B,a⟩:=bindS a
    refine zD (Z152w hA B) ?_
    rcases tf K with i | i
    ·replace a:=cT i a
     obtain ⟨L,C,a⟩:=bindS a
     refine zD (Z152w hA C) ?_
     rcases tf L with j | j
     ·replace a:=cT j a
      obtain ⟨Q,E,a⟩:=bindS a
      refine zD (Z152w hA E) ?_
      refine zF ?_
      cases soI a
      exact zO
     ·replace a:=cF j a
      refine zF ?_
      cases soI a
      exact zO
    ·replace a:=cF i a
     refine zF ?_
     cases soI a
     exact zO
   ·replace a:=cF g a
    refine zF ?_
    cases soI a
    exact zO
  ·replace a:=cF p a
   refine zF ?_
   cases soI a
   exact zO
 ·rintro _ rfl
  refine nT (zs (zs ?_))
  refine zA ?_
  refine nT ?_
  rcases tf (A.zeq e 0) with k | k
  ·replace h:=cT k h
   refine zT ?_
   refine zs ?_
   obtain ⟨O,c,h⟩:=bindS h
   refine AWp.cutN [2] [] 0 (lb rfl) (fun τ=>τ={ env:=[(2,.d (.bool O))],heap:=[],n:=49 }) ?_ ?_
   ·skip
    rcases tf q with l | l
    ·replace c:=cT l c
     refine zB ?_ { tk:=[35] }
     cases soI c
     exact zO
    ·replace c:=cF l c
     refine zB ?_ { tk:=[35] }
     cases soI c
     exact zO
   ·rintro _ rfl
    refine nT (zr (rT ?_))
    cases soI h
    exact zq
  ·replace h:=cF k h
   refine zU ?_
   refine zk (nT (zs ?_))
   obtain ⟨P,b,h⟩:=bindS h
   refine AWp.cutN [2] [] 0 (lb rfl) (fun τ=>τ={ env:=[(2,.d (.bool P))],heap:=[],n:=49 }) ?_ ?_
   ·skip
    refine zn ?_
    rcases tf q with m | m
    ·replace b:=cT m b
     obtain ⟨M,F,b⟩:=bindS b
     refine zD (Z152w hA F) ?_ { tk:=[48] }
     rcases tf M with o | o
     ·replace b:=cT o b
      refine zF ?_ { tk:=[48] }
      cases soI b
      exact zO
     ·replace b:=cF o b
      refine zF ?_ { tk:=[48] }
      cases soI b
      exact zO
    ·replace b:=cF m b
     refine zF ?_ { tk:=[48] }
     cases soI b
     exact zO
   ·rintro _ rfl
    refine nT (zr ?_)
    cases soI h
    exact zq

theorem Z75w {A:Ar} (hA:SA A) {g l m o p c q r s i j k:Int} {e:Bool} (h:Z75 A g l m o p c q r s i j k=some e):ACall Tryz.prog 75 [.d (.agg [.int .i64 g,.int .i64 l,.int .i64 m,.int .i64 o,.int .i64 p,.int .i64 c]),.d (.agg [.int .i64 q,.int .i64 r,.int .i64 s,.int .i64 i,.int .i64 j,.int .i64 k])] [] (.d (.bool e)) []:=by
 unfold Z75 at h
 refine zI Tryz.func75 ?_
 refine zs ?_
 refine zA ?_
 refine nT (zs ?_)
 obtain ⟨u,a,h⟩:=bindS h
 refine AWp.cutN [4] [] 0 (lb rfl) (fun τ=>τ={ env:=[(4,.d (.bool u))],heap:=[],n:=15 }) ?_ ?_
 ·skip
  rcases tf (A.zlt 0 c) with b | b
  ·replace a:=cT b a
   refine zB ?_ { tk:=[14] }
   cases soI a
   exact zO
  ·replace a:=cF b a
   refine zB ?_ { tk:=[14] }
   cases soI a
   exact zO
 ·rintro _ rfl
  refine nT (zr ?_)
  cases soI h
  exact zq

theorem Z150w {A:Ar} (hA:SA A) {b:List D} {N:Bool} (h:Z150 A b=some N):ACall Tryz.prog 150 [zl 6 b] [] (.d (.bool N)) []:=by
 unfold Z150 at h
 refine zI Tryz.func150 ?_
 refine zs ?_
 refine zA ?_
 refine nT (zs (zs ?_))
 refine zA ?_
 refine nT ?_
 rcases tf (A.zlt 8 (A.len b)) with K | K
 ·replace h:=cT K h
  refine zT ?_
  refine zs ?_
  refine zB ?_
  refine nT (zr (rT ?_))
  cases soI h
  exact zq
 ·replace h:=cF K h
  refine zU ?_
  refine zk (nT (zs ?_))
  refine zB ?_ { arr:=[3] }
  refine nT (zs (zs ?_))
  refine zB ?_
  refine nT (zb ?_)
  obtain ⟨k2,v0,W,v,i⟩:=bindK h
  refine AWp.cutX 0 [] [] 1 (lb rfl) (fun τ => ∃ M,W (.inl M)=some N/\τ={ env:=[],heap:=[(.arr 1 M)],n:=67 }) ?_ ?_
  ·skip
   refine AWp.iter v0 [0,3,11,12,13] [] 1 (lb rfl) (fun (j,O)=>{ env:=[(0,zl 6 b),(3,.ptr 0 0),(11,zl 6 b),(12,(.d (.int .i64 (A.len b)))),(13,zi j)],heap:=[(.arr 1 O)],n:=67 }) ⟨rfl,zv⟩ ?_
   rintro ⟨j,O⟩ P a
   dsimp only [Z150L1] at a
   refine zs ?_
   refine zA ?_
   refine nT (zs ?_)
   rcases tf (A.zlt j (A.len b)) with L | L
   ·replace a:=cT L a
    refine zT ?_
    refine zk (nT (zs (zb (zs ?_))))
    obtain ⟨⟨o,u,q,r,s,m⟩,a0,a⟩:=bindS a
    obtain ⟨m1,n1⟩:=gtI a0
    refine zB ?_ { tk:=[17] }
    refine nT (zs (zs ?_))
    obtain ⟨R,g,a⟩:=bindS a
    refine AWp.cutN [0,3,4,5,11,12,13,26] [] 1 (lb rfl) (fun τ=>τ={ env:=[(0,zl 6 b),(3,.ptr 0 0),(4,zi j),(5,(.lbox [zi o,zi u,zi q,zi r,zi s,zi m])),(11,zl 6 b),(12,(.d (.int .i64 (A.len b)))),(13,zi j),(26,.d (.bool R))],heap:=[(.arr 1 O)],n:=67 }) ?_ ?_
    ·skip
     refine zn ?_
     obtain ⟨w0,b0,g⟩:=bindS g
     refine zD (Z184w hA b0) ?_
     rcases tf w0 with y | y
     ·replace g:=cT y g
      obtain ⟨_,c0,g⟩:=bindS g
      have o1:=ckI c0
      obtain ⟨_,d0,g⟩:=bindS g
      have p1:=ckI d0
      obtain ⟨z0,e0,g⟩:=bindS g
      have q1:=gcI e0
      refine zF ?_
      cases soI g
      exact zO
     ·replace g:=cF y g
      refine zF ?_
      cases soI g
      exact zO
    ·rintro _ rfl
     refine nT ?_
     rcases tf R with z | z
     ·replace a:=cT z a
      refine zT ?_
      refine zs ?_
      refine zB ?_
      refine nT (zr (rT (rB (rT (rT ?_)))))
      refine exL a fun hx => ?_
      subst hx
      refine oxR ?_
      replace i:=(eR (v _ i))
      refine rB (rT ?_)
      cases soI i
      exact zq
     ·replace a:=cF z a
      refine zU ?_
      refine zk (nT (zs ?_))
      obtain ⟨_,g0,a⟩:=bindS a
      have r1:=ckI g0
      obtain ⟨_,i0,a⟩:=bindS a
      have s1:=ckI i0
      obtain ⟨g1,j1,a⟩:=bindS a
      refine zB ?_
      refine nT (zs (zs ?_))
      refine zB ?_
      refine nT ?_
      obtain ⟨U,s0,a⟩:=jnI a
      refine AWp.cutN [0,3,4,5,11,12,13] [] 1 (lb rfl) (fun τ => ∃ l,U l=some P/\τ={ env:=[(0,zl 6 b),(3,.ptr 0 0),(4,zi j),(5,(.lbox [zi o,zi u,zi q,zi r,zi s,zi m])),(11,zl 6 b),(12,(.d (.int .i64 (A.len b)))),(13,zi j)],heap:=[(.arr 1 l)],n:=67 }) ?_ ?_
      ·skip
       rcases tf (A.zlt 0 m) with B | B
       ·replace a:=cT B a
        refine zT ?_
        refine zs (zs ?_)
        obtain ⟨_,j0,a⟩:=bindS a
        have u1:=ckI j0
        obtain ⟨_,k0,a⟩:=bindS a
        have v1:=ckI k0
        obtain ⟨X,l0,a⟩:=bindS a
        have w1:=gcI l0
        refine zB ?_
        refine nT ?_
        rcases tf X with C | C
        ·replace a:=cT C a
         refine zT ?_
         refine zs ?_
         refine zB ?_
         refine nT (zr (rT ?_))
         refine oNr ?_
         refine rT (rB (rT (rT ?_)))
         refine exL a fun hx => ?_
         subst hx
         refine oxR ?_
         replace i:=(eR (v _ i))
         refine rB (rT ?_)
         cases soI i
         exact zq
        ·replace a:=cF C a
         refine zU ?_
         refine zk (nT ?_)
         obtain ⟨_,m0,a⟩:=bindS a
         have y1:=ckI m0
         obtain ⟨_,n0,a⟩:=bindS a
         have z1:=ckI n0
         obtain ⟨i1,k1,a⟩:=bindS a
         refine zB ?_
         exact oNi ⟨rfl,_,a,zv⟩
       ·replace a:=cF B a
        refine zU ?_
        refine zk ?_
        exact oNi ⟨rfl,_,a,zv⟩
      ·rintro _ ⟨l,a,rfl⟩
       replace a:=s0 _ a
       refine nT (zs ?_)
       obtain ⟨p,o0,a⟩:=bindS a
       obtain ⟨a2,b2,c2,d2⟩:=slI o0
       refine zB ?_
       refine nT (zb ?_)
       obtain ⟨j2,u0,V,Q,k⟩:=bindK a
       refine AWp.cutX 2 [0,3,11,12,13] [] 1 (lb rfl) (fun τ=>V (.inl ())=some P/\τ={ env:=[(0,zl 6 b),(3,.ptr 0 0),(11,zl 6 b),(12,(.d (.int .i64 (A.len b)))),(13,zi j)],heap:=[(.arr 1 l)],n:=67 }) ?_ ?_
       ·skip
        refine AWp.iter u0 [0,3,5,11,12,13,42,43,44] [] 1 (lb rfl) (fun w=>{ env:=[(0,zl 6 b),(3,.ptr 0 0),(5,(.lbox [zi o,zi u,zi q,zi r,zi s,zi m])),(11,zl 6 b),(12,(.d (.int .i64 (A.len b)))),(13,zi j),(42,zl 6 p),(43,(.d (.int .i64 (A.len p)))),(44,zi w)],heap:=[(.arr 1 l)],n:=67 }) ⟨rfl,zc⟩ ?_
        rintro w l1 c
        dsimp only [Z150L0] at c
        refine zs ?_
        refine zA ?_
        refine nT (zs ?_)
        rcases tf (A.zlt w (A.len p)) with E | E
        ·replace c:=cT E c
         refine zT ?_
         refine zk (nT (zs (zb (zs ?_))))
         obtain ⟨⟨Y,a1,b1,c1,d1,e1⟩,p0,c⟩:=bindS c
         obtain ⟨e2,g2⟩:=gtI p0
         refine zB ?_ { tk:=[47] }
         refine nT (zs ?_)
         obtain ⟨S,e,c⟩:=bindS c
         refine AWp.cutN [0,3,5,11,12,13,42,43,44,64] [] 1 (lb rfl) (fun τ=>τ={ env:=[(0,zl 6 b),(3,.ptr 0 0),(5,(.lbox [zi o,zi u,zi q,zi r,zi s,zi m])),(11,zl 6 b),(12,(.d (.int .i64 (A.len b)))),(13,zi j),(42,zl 6 p),(43,(.d (.int .i64 (A.len p)))),(44,zi w),(64,.d (.bool S))],heap:=[(.arr 1 l)],n:=67 }) ?_ ?_
         ·skip
          refine zn ?_
          rcases tf (A.zeq o Y) with F | F
          ·replace e:=cT F e
           obtain ⟨y0,q0,e⟩:=bindS e
           refine zD (Z75w hA q0) ?_
           rcases tf y0 with G | G
           ·replace e:=cT G e
            refine zF ?_
            cases soI e
            exact zO
           ·replace e:=cF G e
            obtain ⟨i2,r0,e⟩:=bindS e
            refine zD (Z75w hA r0) ?_
            refine zF ?_
            cases soI e
            exact zO
          ·replace e:=cF F e
           refine zF ?_
           cases soI e
           exact zO
         ·rintro _ rfl
          refine nT ?_
          rcases tf S with J | J
          ·replace c:=cT J c
           refine zT ?_
           refine zs ?_
           refine zB ?_
           refine nT (zr (rB (rT (rT ?_))))
           refine exL c fun hx => ?_
           subst hx
           refine oxR ?_
           replace k:=(eR (Q _ k))
           refine rB (rB (rT (rT ?_)))
           refine exL k fun hx => ?_
           subst hx
           refine oxR ?_
           replace i:=(eR (v _ i))
           refine rB (rT ?_)
           cases soI i
           exact zq
          ·replace c:=cF J c
           refine zU ?_
           refine zk (nB (nT ?_))
           refine zB ?_
           exact nT ⟨_,(soI c).symm,rfl,zv⟩
        ·replace c:=cF E c
         refine zU ?_
         refine AWp.exit (xT (xT ?_))
         refine exL c fun hx => ?_
         subst hx
         exact oxI ⟨rfl,k,zv⟩
       ·rintro _ ⟨k,rfl⟩
        have a:=(eL (Q _ k))
        refine xB (nB (nT ?_))
        refine zA ?_
        exact nT ⟨_,(soI a).symm,rfl,zc⟩
   ·replace a:=cF L a
    refine zU ?_
    refine AWp.exit (xT (xT ?_))
    refine exL a fun hx => ?_
    subst hx
    exact oxI ⟨rfl,_,i,zv⟩
  ·rintro _ ⟨M,i,rfl⟩
   have h:=(eL (v _ i))
   refine xB (nT (zs ?_))
   refine zA ?_
   refine nT (zr ?_)
   cases soI h
   exact zq

theorem Z185w {A:Ar} (hA:SA A) {i c j k l m:Int} {e:List D} {g:Bool} (h:Z185 A i c j k l m e=some g):ACall Tryz.prog 185 [.d (.agg [.int .i64 i,.int .i64 c,.int .i64 j,.int .i64 k,.int .i64 l,.int .i64 m]),.iptr [.list 4 e]] [] (.d (.bool g)) []:=by
 unfold Z185 at h
 refine zI Tryz.func185 ?_
 refine zs ?_
 refine zA ?_
 refine nT (zs ?_)
 obtain ⟨p,a,h⟩:=bindS h
 refine AWp.cutN [3] [] 0 (lb rfl) (fun τ=>τ={ env:=[(3,.d (.bool p))],heap:=[],n:=20 }) ?_ ?_
 ·skip
  rcases tf (A.zle (A.len e) c) with b | b
  ·replace a:=cT b a
   refine AWp.rd hT hA { tk:=[19] } rfl zu (by kernel_rfl) (lb rfl) ?_
   cases soI a
   exact zO
  ·replace a:=cF b a
   obtain ⟨⟨u,q,r,s⟩,o,a⟩:=bindS a
   obtain ⟨v,w⟩:=gtI o
   refine AWp.rd hT hA { tk:=[19] } rfl zu (by kernel_rfl) (lb rfl) ?_
   cases soI a
   exact zO
 ·rintro _ rfl
  refine nT (zr ?_)
  cases soI h
  exact zq

theorem Z190aw {A:Ar} (hA:SA A) {c k:List D} {j:Int} (h:Z190a A c k=some j):ACall Tryz.prog 190 [zl 6 c,(.func 185 [] [.iptr [.list 4 k]])] [] (zi j) []:=by
 unfold Z190a at h
 refine zI Tryz.func190 ?_
 refine zs ?_
 refine zA ?_
 refine nT (zs (zs ?_))
 refine zA ?_
 refine nT (zb ?_)
 obtain ⟨F,q,m,l,b⟩:=bindK h
 refine AWp.cutX 0 [] [] 0 (lb rfl) (fun τ=>m (.inl ())=some j/\τ={ env:=[],heap:=[],n:=19 }) ?_ ?_
 ·skip
  refine AWp.iter q [0,1,7,8] [] 0 (lb rfl) (fun i=>{ env:=[(0,zl 6 c),(1,(.func 185 [] [.iptr [.list 4 k]])),(7,(.d (.int .i64 (A.len c)))),(8,zi i)],heap:=[],n:=19 }) ⟨rfl,zc⟩ ?_
  rintro i B a
  dsimp only [Z190aL0] at a
  refine zs ?_
  refine zA ?_
  refine nT (zs ?_)
  rcases tf (A.zlt i (A.len c)) with e | e
  ·replace a:=cT e a
   refine zT ?_
   refine zk (nT (zs (zb (zs ?_))))
   refine zB ?_ { tk:=[8,10] }
   refine nT (zs (zn ?_))
   obtain ⟨⟨s,u,v,w,y,z⟩,o,a⟩:=bindS a
   obtain ⟨C,E⟩:=gtI o
   obtain ⟨r,p,a⟩:=bindS a
   refine zD (Z185w hA p) ?_
   refine zF ?_
   refine nT ?_
   rcases tf r with g | g
   ·replace a:=cT g a
    refine zT ?_
    refine zs ?_
    refine zB ?_ { tk:=[5,17] }
    refine nT (zr (rB (rT (rT ?_))))
    refine exL a fun hx => ?_
    subst hx
    refine oxR ?_
    replace b:=(eR (l _ b))
    refine rB (rT ?_)
    cases soI b
    exact zq
   ·replace a:=cF g a
    refine zU ?_
    refine zk (nB (nT ?_))
    refine zB ?_ { tk:=[18] }
    exact nT ⟨_,(soI a).symm,rfl,zv⟩
  ·replace a:=cF e a
   refine zU ?_
   refine AWp.exit (xT (xT ?_))
   refine exL a fun hx => ?_
   subst hx
   exact oxI ⟨rfl,b,zv⟩
 ·rintro _ ⟨b,rfl⟩
  have h:=(eL (l _ b))
  refine xB (nT (zs ?_))
  refine zA ?_
  refine nT (zr ?_)
  cases soI h
  exact zq

theorem Z160aw {A:Ar} (hA:SA A) {b c:List D} {a:Bool} (h:Z160a A b c=some a):ACall Tryz.prog 160 [zl 6 b,(.func 185 [] [.iptr [.list 4 c]])] [] (.d (.bool a)) []:=by
 unfold Z160a at h
 refine zI Tryz.func160 ?_
 refine zs ?_
 refine zA ?_
 refine nT (zs (zn ?_))
 obtain ⟨g,e,h⟩:=bindS h
 refine zC (Z190aw hA e) ?_ { tk:=[8] }
 refine zE ?_ { tk:=[8] }
 refine nT (zr ?_)
 cases soI h
 exact zq

theorem Z151w {A:Ar} (hA:SA A) {a c:List D} {b:Bool} (h:Z151 A a c=some b):ACall Tryz.prog 151 [zl 4 a,zl 6 c] [] (.d (.bool b)) []:=by
 unfold Z151 at h
 refine zI Tryz.func151 ?_
 refine zs ?_
 refine zA ?_
 refine nT ?_
 refine AWp.freezeBox 2 [.list 4 a] rfl rfl ?_
 refine zs (zn ?_)
 obtain ⟨g,e,h⟩:=bindS h
 refine zC (Z160aw hA e) ?_ { tk:=[8] }
 refine zE ?_ { tk:=[8] }
 refine nT (zr ?_)
 cases soI h
 exact zq

theorem Z106w {A:Ar} (hA:SA A) {i j:List D} {e:Bool} {g:Int} (h:Z106 A i j=some (e,g)):ACall Tryz.prog 106 [zl 4 i,zl 6 j] [] (.tuple [.d (.bool e),zi g]) []:=by
 unfold Z106 at h
 refine zI Tryz.func106 ?_
 refine zs ?_
 refine zA ?_
 refine nT (zs (zs (zn ?_)))
 obtain ⟨o,k,h⟩:=bindS h
 refine zC (Z149w hA k) ?_
 refine zE ?_
 refine nT ?_
 rcases tf o with b | b
 ·replace h:=cT b h
  refine zU ?_
  refine zk (nT (zs ?_))
  obtain ⟨q,a,h⟩:=bindS h
  refine AWp.cutN [4,5] [] 0 (lb rfl) (fun τ=>τ={ env:=[(4,.d (.bool q)),(5,zi 0)],heap:=[],n:=16 }) ?_ ?_
  ·skip
   refine zn ?_
   obtain ⟨p,l,a⟩:=bindS a
   refine zD (Z150w hA l) ?_
   rcases tf p with c | c
   ·replace a:=cT c a
    obtain ⟨r,m,a⟩:=bindS a
    refine zD (Z151w hA m) ?_
    refine zF ?_
    cases soI a
    exact zO
   ·replace a:=cF c a
    refine zF ?_
    cases soI a
    exact zO
  ·rintro _ rfl
   refine nT (zr ?_)
   cases soI h
   exact zq
 ·replace h:=cF b h
  refine zT ?_
  refine zs ?_
  refine zB ?_
  refine nT (zr (rT ?_))
  cases soI h
  exact zq

theorem Z72w {A:Ar} (hA:SA A) {k l:List D} {i:Int} (h:Z72 A k l=some i):ACall Tryz.prog 72 [zl 4 k,zl 6 l] [] (zi i) []:=by
 unfold Z72 at h
 refine zI Tryz.func72 ?_
 refine zs ?_
 refine zA ?_
 refine nT (zs (zn ?_))
 obtain ⟨⟨p,g⟩,m,h⟩:=bindS h
 refine zC (Z106w hA m) ?_ { tk:=[12] }
 refine zE ?_ { tk:=[12] }
 refine nT (zs (zs ?_))
 obtain ⟨j,b,h⟩:=bindS h
 refine AWp.cutN [6,18] [] 0 (lb rfl) (fun τ=>τ={ env:=[(6,zi g),(18,.d (.bool j))],heap:=[],n:=20 }) ?_ ?_
 ·skip
  rcases tf (A.zeq g 0) with c | c
  ·replace b:=cT c b
   refine zB ?_
   cases soI b
   exact zO
  ·replace b:=cF c b
   refine zB ?_
   cases soI b
   exact zO
 ·rintro _ rfl
  refine nT ?_
  obtain ⟨o,a,h⟩:=bindS h
  refine AWp.cutN [6] [] 0 (lb rfl) (fun τ=>τ={ env:=[(6,zi o)],heap:=[],n:=20 }) ?_ ?_
  ·skip
   rcases tf j with e | e
   ·replace a:=cT e a
    refine zT ?_
    refine zB ?_
    cases soI a
    exact zO
   ·replace a:=cF e a
    refine zU ?_
    refine zk ?_
    cases soI a
    exact zO
  ·rintro _ rfl
   refine nT (zs ?_)
   refine zA ?_ { tk:=[6,19] }
   refine nT (zr ?_)
   cases soI h
   exact zq

theorem Z162w {A:Ar} (hA:SA A) {c e a b:List D} (h:Z162 A c e=some (a,b)):ACall Tryz.prog 162 [zl 4 c,zl 6 e,(.func 75 [] [])] [] (.ptr 1 0) [(.map true [.int .u8,.int .i64,.int .i64] []),(.cells [zl 4 a,zl 6 b,(.func 75 [] []),(.map 0)])]:=by
 unfold Z162 at h
 refine zI Tryz.func162 ?_
 refine zs ?_
 refine zA ?_
 refine nT (zs ?_)
 refine zA ?_ { tk:=[12],esc:=[12] }
 refine nT (zr ?_)
 cases soI h
 exact zq

theorem Z200aw {A:Ar} (hA:SA A) {b c:Int} {a:Bool} (h:Z200a A b c=some a):ACall Tryz.prog 200 [.d (.int .u8 b),zi c] [] (.d (.bool a)) []:=by
 unfold Z200a at h
 refine zI Tryz.func200 ?_
 refine zs ?_
 refine zA ?_
 refine nT (zs ?_)
 obtain ⟨_,e,h⟩:=bindS h
 have g:=nkI e
 refine zB ?_ { tk:=[9] }
 refine nT (zr ?_)
 cases soI h
 exact zq

theorem Z191aw {A:Ar} (hA:SA A) {k l m:Int} {g:List (D×D)} {i b:List D} {r:Bool} (h:Z191a A k l m g i b=some r):ACall Tryz.prog 191 [.ptr 1 0,.d (.agg [.int .u8 k,.int .i64 l,.int .i64 m])] [(.map true [.int .u8,.int .i64,.int .i64] g),(.cells [zl 4 i,zl 6 b,(.func 75 [] []),(.map 0)])] (.d (.bool r)) [(.map true [.int .u8,.int .i64,.int .i64] g),(.cells [zl 4 i,zl 6 b,(.func 75 [] []),(.map 0)])]:=by
 unfold Z191a at h
 refine zI Tryz.func191 ?_
 refine zs ?_
 refine zA ?_
 refine nT (zs (zs ?_))
 refine zA ?_
 refine nT (zb ?_)
 obtain ⟨O,B,v,s,e⟩:=bindK h
 refine AWp.cutX 0 [] [] 2 (lb rfl) (fun τ=>v (.inl ())=some r/\τ={ env:=[],heap:=[(.map true [.int .u8,.int .i64,.int .i64] g),(.cells [zl 4 i,zl 6 b,(.func 75 [] []),(.map 0)])],n:=28 }) ?_ ?_
 ·skip
  refine AWp.iter B [3,10,11,12] [] 2 (lb rfl) (fun j=>{ env:=[(3,(.lbox [.d (.int .u8 k),zi l,zi m])),(10,zl 6 b),(11,(.d (.int .i64 (A.len b)))),(12,zi j)],heap:=[(.map true [.int .u8,.int .i64,.int .i64] g),(.cells [zl 4 i,zl 6 b,(.func 75 [] []),(.map 0)])],n:=28 }) ⟨rfl,zc⟩ ?_
  rintro j K a
  dsimp only [Z191aL0] at a
  refine zs ?_
  refine zA ?_
  refine nT (zs ?_)
  rcases tf (A.zlt j (A.len b)) with o | o
  ·replace a:=cT o a
   refine zT ?_
   refine zk (nT (zs (zb (zs ?_))))
   obtain ⟨⟨C,E,F,G,J,w⟩,y,a⟩:=bindS a
   obtain ⟨L,M⟩:=gtI y
   refine zB ?_ { tk:=[16] }
   refine nT (zs ?_)
   obtain ⟨u,c,a⟩:=bindS a
   refine AWp.cutN [3,10,11,12,26] [] 2 (lb rfl) (fun τ=>τ={ env:=[(3,(.lbox [.d (.int .u8 k),zi l,zi m])),(10,zl 6 b),(11,(.d (.int .i64 (A.len b)))),(12,zi j),(26,.d (.bool u))],heap:=[(.map true [.int .u8,.int .i64,.int .i64] g),(.cells [zl 4 i,zl 6 b,(.func 75 [] []),(.map 0)])],n:=28 }) ?_ ?_
   ·skip
    refine zn ?_
    rcases tf (A.zlt 0 w) with p | p
    ·replace c:=cT p c
     obtain ⟨N,z,c⟩:=bindS c
     refine zD (Z200aw hA z) ?_
     refine zF ?_
     cases soI c
     exact zO
    ·replace c:=cF p c
     refine zF ?_
     cases soI c
     exact zO
   ·rintro _ rfl
    refine nT ?_
    rcases tf u with q | q
    ·replace a:=cT q a
     refine zT ?_
     refine zs ?_
     refine zB ?_
     refine nT (zr (rB (rT (rT ?_))))
     refine exL a fun hx => ?_
     subst hx
     refine oxR ?_
     replace e:=(eR (s _ e))
     refine rB (rT ?_)
     cases soI e
     exact zq
    ·replace a:=cF q a
     refine zU ?_
     refine zk (nB (nT ?_))
     refine zB ?_
     exact nT ⟨_,(soI a).symm,rfl,zv⟩
  ·replace a:=cF o a
   refine zU ?_
   refine AWp.exit (xT (xT ?_))
   refine exL a fun hx => ?_
   subst hx
   exact oxI ⟨rfl,e,zv⟩
 ·rintro _ ⟨e,rfl⟩
  have h:=(eL (s _ e))
  refine xB (nT (zs ?_))
  refine zA ?_
  refine nT (zr ?_)
  cases soI h
  exact zq

theorem Z192cw {A:Ar} (hA:SA A) {a b c:Int} {e:List (D×D)} {g i:List D} {j l m k:Int} (h:Z192c A a b c e g i j=some (l,m,k)):ACall Tryz.prog 192 [.ptr 1 0,.d (.agg [.int .u8 a,.int .i64 b,.int .i64 c])] [(.map true [.int .u8,.int .i64,.int .i64] e),(.cells [zl 4 g,zl 6 i,(.func 75 [] []),(.map 0)]),.cells [.ptr 1 0],.cells [zi j]] (.func 201 [] [.ptr 4 0,.iptr [.int .u8 l,.int .i64 m,.int .i64 k]]) [(.map true [.int .u8,.int .i64,.int .i64] e),(.cells [zl 4 g,zl 6 i,(.func 75 [] []),(.map 0)]),.cells [.ptr 1 0],.cells [zi j],.cells [.ptr 1 0]]:=by
 unfold Z192c at h
 refine zI Tryz.func192 ?_
 refine zs ?_
 refine zA ?_ { esc:=[2] }
 refine nT ?_
 refine AWp.freezeBox 3 [.int .u8 a,.int .i64 b,.int .i64 c] rfl rfl ?_
 refine zs ?_
 refine zA ?_ { tk:=[5] }
 refine nT (zr ?_)
 cases soI h
 exact zq

theorem Z108aw {A:Ar} (hA:SA A) {v w:Int} {U:List D} {q e r s u j Q R:Int} {S:Bool} (h:Z108a A v w U q e r s u j=some (Q,R,S)):ACall Tryz.prog 108 [.d (.agg [.int .i64 v,.int .i64 w]),zl 4 U,.d (.agg [.int .i64 q,.int .i64 e,.int .i64 r,.int .i64 s,.int .i64 u,.int .i64 j])] [] (.tuple [.d (.agg [.int .i64 Q,.int .i64 R]),.d (.bool S)]) []:=by
 unfold Z108a at h
 refine zI Tryz.func108 ?_
 refine zs ?_
 refine zA ?_
 refine nT (zs ?_)
 obtain ⟨⟨J,K,L,M,N⟩,b,h⟩:=bindS h
 refine AWp.cutN [3,5,6,8,9] [] 0 (lb rfl) (fun τ=>τ={ env:=[(3,(.lbox [zi v,zi w])),(5,(.lbox [zi q,zi e,zi r,zi s,zi u,zi j])),(6,(.lbox [zi 0,zi 0])),(8,(.lbox [zi J,zi K,zl 1 L,zl 1 M])),(9,zi N)],heap:=[],n:=49 }) ?_ ?_
 ·skip
  obtain ⟨⟨s0,u0,v0,w0⟩,V,b⟩:=bindS b
  obtain ⟨y,p⟩:=gtI V
  rcases tf (A.zeq e 0) with k | k
  ·replace b:=cT k b
   obtain ⟨b0,c0,z⟩:=ixF hA (n:=2) k (by decide)
   have f16f18:=p
   rw [z] at f16f18
   refine AWp.rd hT hA { tk:=[14] } rfl (by (repeat (cbv;simp only [y,p,b0,c0,z,f16f18]));try cbv) (by kernel_rfl) (lb rfl) ?_
   cases soI b
   exact zO
  ·replace b:=cF k b
   rcases tf (A.zeq e 1) with l | l
   ·replace b:=cT l b
    obtain ⟨d0,e0,B⟩:=ixF hA (n:=2) l (by decide)
    have f16f20:=p
    rw [B] at f16f20
    refine AWp.rd hT hA { tk:=[14] } rfl (by (repeat (cbv;simp only [y,p,d0,e0,B,f16f20]));try cbv) (by kernel_rfl) (lb rfl) ?_
    cases soI b
    exact zO
   ·replace b:=cF l b
    cases b
 ·rintro _ rfl
  refine nT (zs ?_)
  obtain ⟨⟨O,P⟩,a,h⟩:=bindS h
  refine AWp.cutN [3,5,6,8,9] [] 0 (lb rfl) (fun τ=>τ={ env:=[(3,(.lbox [zi O,zi P])),(5,(.lbox [zi q,zi e,zi r,zi s,zi u,zi j])),(6,(.lbox [zi 0,zi 0])),(8,(.lbox [zi J,zi K,zl 1 L,zl 1 M])),(9,zi N)],heap:=[],n:=49 }) ?_ ?_
  ·skip
   obtain ⟨y0,W,a⟩:=bindS a
   obtain ⟨C,E⟩:=gtI W
   obtain ⟨z0,X,a⟩:=bindS a
   obtain ⟨F,G⟩:=gtI X
   rcases tf (A.zeq e 0) with m | m
   ·replace a:=cT m a
    obtain ⟨g0,i0,j0⟩:=ixF hA (n:=2) m (by decide)
    refine AWp.rd hT hA { tk:=[29] } rfl (by (repeat (cbv;simp only [C,E,F,G,g0,i0,j0]));try cbv) (by kernel_rfl) (lb rfl) ?_
    cases soI a
    exact zO
   ·replace a:=cF m a
    rcases tf (A.zeq e 1) with o | o
    ·replace a:=cT o a
     obtain ⟨k0,l0,m0⟩:=ixF hA (n:=2) o (by decide)
     refine AWp.rd hT hA { tk:=[29] } rfl (by (repeat (cbv;simp only [C,E,F,G,k0,l0,m0]));try cbv) (by kernel_rfl) (lb rfl) ?_
     cases soI a
     exact zO
    ·replace a:=cF o a
     cases a
  ·rintro _ rfl
   refine nT (zs ?_)
   obtain ⟨r0,c,h⟩:=bindS h
   refine AWp.cutN [6,7] [] 0 (lb rfl) (fun τ=>τ={ env:=[(6,(.lbox [zi O,zi P])),(7,.d (.bool r0))],heap:=[],n:=49 }) ?_ ?_
   ·skip
    rcases tf (A.zeq j 0) with i | i
    ·replace c:=cT i c
     refine AWp.rd hT hA { tk:=[31] } rfl (by (repeat (cbv;simp only [i]));try cbv) (by kernel_rfl) (lb rfl) ?_
     cases soI c
     exact (zO (g:=(by first | (cbv;done) | ((repeat (cbv;simp only [i]));try cbv))))
    ·replace c:=cF i c
     obtain ⟨a1,Y,c⟩:=bindS c
     obtain ⟨n0,o0⟩:=gtI Y
     obtain ⟨b1,a0,c⟩:=bindS c
     obtain ⟨p0,q0⟩:=gtI a0
     refine AWp.rd hT hA { tk:=[31] } rfl (by (repeat (cbv;simp only [i,n0,o0,p0,q0]));try cbv) (by kernel_rfl) (lb rfl) ?_
     cases soI c
     exact (zO (g:=(by first | (cbv;done) | ((repeat (cbv;simp only [i]));try cbv))))
   ·rintro _ rfl
    refine nT (zr ?_)
    cases soI h
    exact zq
end Go.Am
