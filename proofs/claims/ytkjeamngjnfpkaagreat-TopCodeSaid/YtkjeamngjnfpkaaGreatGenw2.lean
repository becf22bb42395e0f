import Derived.Test.YtkjeamngjnfpkaaGreatGenw1
set_option maxRecDepth 100000
set_option maxHeartbeats 2000000
set_option linter.unusedVariables false
set_option linter.unusedSimpArgs false
namespace Go.Am
open Go Go.Proofs
theorem c4X {A:Ar} (hA:SA A) {b p:List D} {v w y z B C E c e g i j k l m n o q:Int} {r s u a:List D} (h:Z52 A b p v w y z B C E c e g i j k l m n o q r s u=some a):a0c Tryz.prog 52 [.d (.agg [.list 1 b,.list 1 p,.int .i64 v,.int .i64 w,.int .i64 y,.int .i64 z,.int .i64 B,.int .i64 C,.int .i64 E,.int .i64 c,.int .i64 e,.int .i64 g,.int .i64 i,.int .i64 j,.int .i64 k,.int .i64 l,.int .i64 m,.int .i64 n,.int .i64 o,.int .i64 q,.list 6 r,.list 1 s]),.ptr 0 0] [(.cells [(.own 6 u)])] (.own 1 []) [.cells [zl 6 a]]:=by
 unfold Z52 at h;refine zI Tryz.func52 ?_;refine zs (zA (nT (zs ?_)));refine zA (nT (zs ?_)) { tk:=[5] };refine zA (nT (zr ?_));cases soI h;exact zq

theorem c3z {A:Ar} (hA:SA A) {e g i j c:List D} (h:Z51 A e g i j=some (.inl c)):a0c Tryz.prog 51 [zl 1 e,zl 1 g,zl 1 i,(.func 52 [] [.ptr 0 0])] [(.cells [(.own 6 j)])] (.tuple [.d (.list 1 []),zi 0]) [.cells [zl 6 c]]:=by
 unfold Z51 at h;refine zI Tryz.func51 ?_;refine zs (zA (nT (zs (zs (zn ?_)))));obtain ⟨o,l,h⟩:=a0a h;refine zC (b9Y hA l) ?_;refine zE (nT (zs ?_));refine zA (nT ?_);rcases tf (A.zeq o 0) with b | b
 ·replace h:=cT b h;refine zU (zk (nT (zs (zn ?_))));obtain ⟨⟨R,p,q,r,s,u,v,w,y,z,B,C,E,F,G,J,K,L,M,N,O,P,n⟩,m,h⟩:=a0a h;refine zD (c4W hA m) ?_ { tk:=[24] };refine zF (nT (zs (zs ?_))) { tk:=[24] };refine zB (nT ?_);rcases tf n with a | a
  ·replace h:=cT a h;refine zU (zk (nT (zs (zn ?_))));obtain ⟨Q,k,h⟩:=a0a h;refine zD (c4X hA k) ?_;refine zF (nT (zr ?_));cases soI h;exact zq
  replace h:=cF a h;refine zT (zs ?_);refine zB (nT (zr (rT ?_)));cases soI h
 replace h:=cF b h;refine zT (zs ?_);refine zB (nT (zr (rT ?_)));cases soI h

theorem c3A {A:Ar} (hA:SA A) {g i j c:List D} {e:Int} (h:Z51 A g i j c=some (.inr e)):a0c Tryz.prog 51 [zl 1 g,zl 1 i,zl 1 j,(.func 52 [] [.ptr 0 0])] [(.cells [(.own 6 c)])] (.tuple [.d (.list 1 []),zi e]) [(.cells [(.own 6 c)])]:=by
 unfold Z51 at h;refine zI Tryz.func51 ?_;refine zs (zA (nT (zs (zs (zn ?_)))));obtain ⟨o,l,h⟩:=a0a h;refine zC (b9Y hA l) ?_;refine zE (nT (zs ?_));refine zA (nT ?_);rcases tf (A.zeq o 0) with b | b
 ·replace h:=cT b h;refine zU (zk (nT (zs (zn ?_))));obtain ⟨⟨R,p,q,r,s,u,v,w,y,z,B,C,E,F,G,J,K,L,M,N,O,P,n⟩,m,h⟩:=a0a h;refine zD (c4W hA m) ?_ { tk:=[24] };refine zF (nT (zs (zs ?_))) { tk:=[24] };refine zB (nT ?_);rcases tf n with a | a
  ·replace h:=cT a h;refine zU (zk (nT (zs (zn ?_))));obtain ⟨Q,k,h⟩:=a0a h;refine zD (c4X hA k) ?_;refine zF (nT (zr ?_));cases soI h
  replace h:=cF a h;refine zT (zs ?_);refine zB (nT (zr (rT ?_)));cases soI h;exact zq
 replace h:=cF b h;refine zT (zs ?_);refine zB (nT (zr (rT ?_)));cases soI h;exact zq

theorem c4Y {A:Ar} (hA:SA A) {g i j c:List D} {e:Int} (h:Z15 A g i j=some (c,e)):a0c Tryz.prog 15 [zl 1 g,zl 1 i,zl 1 j] [] (.tuple [zl 6 c,zi e]) []:=by
 unfold Z15 at h;refine zI Tryz.func15 ?_;refine zs (zA (nT (zs ?_)));refine zA (nT (zs ?_)) { esc:=[8] };obtain ⟨⟨l,m⟩,a,h⟩:=a0a h;refine AWp.cutW (fun τ=>τ=⟨[(8,.ptr 0 0),(10,zi l)],[.cells [zl 6 m]],21⟩) ?_ ?_
 ·refine zn ?_;obtain ⟨k,b,a⟩:=a0a a;rcases k with o | p
  ·replace a:=(eL a);refine zC (c3z hA b) ?_;refine zE ?_;cases soI a;exact oWi ⟨_,zR [some 0] [8,10],rfl⟩
  replace a:=(eR a);refine zC (c3A hA b) ?_;refine zE ?_;cases soI a;exact oWi ⟨_,(Wk.trans (Wk.softC 0 0 rfl rfl rfl) (zR [some 0] [8,10])),rfl⟩
 rintro _ rfl;refine nT (zs (zA (nT (zr ?_))));cases soI h;exact zq

theorem Z9w {A:Ar} (hA:SA A) {g:Bool} (h:Z9 A=some g):a0c Tryz.prog 9 [] [] (.d (.bool g)) []:=by
 unfold Z9 at h;refine zI Tryz.func9 ?_;refine zs (zA (nT (zs ?_)));refine zA (nT (zs (zn ?_)));obtain ⟨⟨s,u⟩,p,h⟩:=a0a h;refine zC (c4Y hA p) ?_;refine zE (nT (zs ?_));obtain ⟨v,a,h⟩:=a0a h;refine zN [0] [] 0 (fun τ=>τ=⟨[(0,.d (.bool v))],[],40⟩) ?_ ?_
 ·rcases tf (A.zeq u 0) with c | c
  ·replace a:=cT c a;rcases tf (A.zeq (A.len s) 2) with e | e
   ·replace a:=cT e a;obtain ⟨⟨k,l,m,o,i,j⟩,q,a⟩:=a0a a;have F:=gcI q;rcases tf (A.deq [.int .i64 k,.int .i64 l,.int .i64 m,.int .i64 o,.int .i64 i,.int .i64 j] [.int .i64 0,.int .i64 0,.int .i64 0,.int .i64 0,.int .i64 1,.int .i64 12]) with b | b
    ·replace a:=cT b a;obtain ⟨⟨w,y,z,B,C,E⟩,r,a⟩:=a0a a;have G:=gcI r;refine zB ?_ { tk:=[39] };cases soI a;exact zO
    replace a:=cF b a;refine zB ?_ { tk:=[39] };cases soI a;exact zO
   replace a:=cF e a;refine zB ?_ { tk:=[39] };cases soI a;exact zO
  replace a:=cF c a;refine zB ?_ { tk:=[39] };cases soI a;exact zO
 rintro _ rfl;refine nT (zr ?_);cases soI h;exact zq

theorem b3u {A:Ar} (hA:SA A) {c e i:Int} {g:Bool} (h:b5n A c e i=some g):a0c Tryz.prog 115 [zi c,zi e,zi i] [] (.d (.bool g)) []:=by
 unfold b5n at h;refine zI Tryz.func115 ?_;refine zs (zA (nT (zs ?_)));obtain ⟨j,a,h⟩:=a0a h;refine zN [6] [] 0 (fun τ=>τ=⟨[(6,.d (.bool j))],[],15⟩) ?_ ?_
 ·rcases tf (A.zle c e) with b | b
  ·replace a:=cT b a;refine zB ?_ { tk:=[14] };cases soI a;exact zO
  replace a:=cF b a;refine zB ?_ { tk:=[14] };cases soI a;exact zO
 rintro _ rfl;refine nT (zr ?_);cases soI h;exact zq

theorem c3B {A:Ar} (hA:SA A) {b c:Int} {a:Bool} (h:c2x A b c=some a):a0c Tryz.prog 159 [zi b,.iptr [.int .i64 c]] [] (.d (.bool a)) []:=by
 unfold c2x at h;refine zI Tryz.func159 ?_;refine zs (zA (nT (zs (zn ?_))));obtain ⟨g,e,h⟩:=a0a h;refine zC (b3u hA e) ?_ { tk:=[7] };refine zE (nT (zr ?_)) { tk:=[7] };cases soI h;exact zq

theorem c0d {A:Ar} (hA:SA A) {c:List D} {k j:Int} (h:b5o A c k=some j):a0c Tryz.prog 189 [zl 1 c,(.func 159 [] [.iptr [.int .i64 k]])] [] (zi j) []:=by
 unfold b5o at h;refine zI Tryz.func189 ?_;refine zs (zA (nT (zs (zs ?_))));refine zA (nT (zb ?_));obtain ⟨y,q,m,l,b⟩:=a0z h;refine zM 0 [] [] 0 (fun τ=>m (.inl ())=some j/\τ=⟨[],[],19⟩) ?_ ?_
 ·refine zP q [0,1,7,8] [] 0 (fun i=>⟨[(0,zl 1 c),(1,(.func 159 [] [.iptr [.int .i64 k]])),(7,(.d (.int .i64 (A.len c)))),(8,zi i)],[],19⟩) ⟨rfl,zc⟩ ?_;rintro i u a;dsimp only [a6l] at a;refine zs (zA (nT (zs ?_)));rcases tf (A.zlt i (A.len c)) with e | e
  ·replace a:=cT e a;refine zT (zk (nT (zs (zb (zs ?_)))));refine zB (nT (zs (zn ?_))) { tk:=[8,10] };obtain ⟨s,o,a⟩:=a0a a;obtain ⟨v,w⟩:=gtI o;obtain ⟨r,p,a⟩:=a0a a;refine zD (c3B hA p) ?_;refine zF (nT ?_);rcases tf r with g | g
   ·replace a:=cT g a;refine zT (zs ?_);refine zB (nT (zr (rB (rT (rT ?_))))) { tk:=[5,17] };refine exL a ?_;rintro rfl;refine oxR ?_;replace b:=(eR (l _ b));refine rB (rT ?_);cases soI b;exact zq
   replace a:=cF g a;refine zU (zk (nB (nT ?_)));refine zB ?_ { tk:=[18] };exact nT ⟨_,(soI a).symm,rfl,zv⟩
  replace a:=cF e a;refine zU (AWp.exit (xT (xT ?_)));refine exL a ?_;rintro rfl;exact oxI ⟨rfl,b,zv⟩
 rintro _ ⟨b,rfl⟩;have h:=(eL (l _ b));refine xB (nT (zs (zA (nT (zr ?_)))));cases soI h;exact zq

theorem c0e {A:Ar} (hA:SA A) {b:List D} {c:Int} {a:Bool} (h:b2P A b c=some a):a0c Tryz.prog 158 [zl 1 b,(.func 159 [] [.iptr [.int .i64 c]])] [] (.d (.bool a)) []:=by
 unfold b2P at h;refine zI Tryz.func158 ?_;refine zs (zA (nT (zs (zn ?_))));obtain ⟨g,e,h⟩:=a0a h;refine zC (c0d hA e) ?_ { tk:=[8] };refine zE (nT (zr ?_)) { tk:=[8] };cases soI h;exact zq

theorem c3C {A:Ar} (hA:SA A) {c:List D} {i e:Int} {j k:List D} {l:Int} {g:Bool} (h:b9F A c i e j k l=some g):a0c Tryz.prog 157 [zl 1 c,.iptr [.int .i64 i,.int .i64 e,.list 1 j,.list 1 k],.iptr [.int .i64 l]] [] (.d (.bool g)) []:=by
 unfold b9F at h;refine zI Tryz.func157 ?_;refine zs (zA (nT (zs ?_)));obtain ⟨o,a,h⟩:=a0a h;refine zN [4] [] 0 (fun τ=>τ=⟨[(4,.d (.bool o))],[],15⟩) ?_ ?_
 ·refine zn ?_;rcases tf (A.zeq (A.len c) e) with b | b
  ·replace a:=cT b a;obtain ⟨p,m,a⟩:=a0a a;refine zD (c0e hA m) ?_ { tk:=[14] };refine zF ?_ { tk:=[14] };cases soI a;exact zO
  replace a:=cF b a;refine zF ?_ { tk:=[14] };cases soI a;exact zO
 rintro _ rfl;refine nT (zr ?_);cases soI h;exact zq

theorem c0f {A:Ar} (hA:SA A) {c:List D} {k l:Int} {m o:List D} {p j:Int} (h:b5p A c k l m o p=some j):a0c Tryz.prog 164 [zl 1 c,(.func 157 [] [.iptr [.int .i64 k,.int .i64 l,.list 1 m,.list 1 o],.iptr [.int .i64 p]])] [] (zi j) []:=by
 unfold b5p at h;refine zI Tryz.func164 ?_;refine zs (zA (nT (zs (zs ?_))));refine zA (nT (zb ?_));obtain ⟨E,v,r,q,b⟩:=a0z h;refine zM 0 [] [] 0 (fun τ=>r (.inl ())=some j/\τ=⟨[],[],19⟩) ?_ ?_
 ·refine zP v [0,1,7,8] [] 0 (fun i=>⟨[(0,zl 1 c),(1,(.func 157 [] [.iptr [.int .i64 k,.int .i64 l,.list 1 m,.list 1 o],.iptr [.int .i64 p]])),(7,(.d (.int .i64 (A.len c)))),(8,zi i)],[],19⟩) ⟨rfl,zc⟩ ?_;rintro i z a;dsimp only [a6m] at a;refine zs (zA (nT (zs ?_)));rcases tf (A.zlt i (A.len c)) with e | e
  ·replace a:=cT e a;refine zT (zk (nT (zs (zb (zs ?_)))));refine zB (nT (zs (zn ?_))) { tk:=[8,10] };obtain ⟨y,s,a⟩:=a0a a;obtain ⟨B,C⟩:=gtI s;obtain ⟨w,u,a⟩:=a0a a;refine zD (c3C hA u) ?_;refine zF (nT ?_);rcases tf w with g | g
   ·replace a:=cT g a;refine zT (zs ?_);refine zB (nT (zr (rB (rT (rT ?_))))) { tk:=[5,17] };refine exL a ?_;rintro rfl;refine oxR ?_;replace b:=(eR (q _ b));refine rB (rT ?_);cases soI b;exact zq
   replace a:=cF g a;refine zU (zk (nB (nT ?_)));refine zB ?_ { tk:=[18] };exact nT ⟨_,(soI a).symm,rfl,zv⟩
  replace a:=cF e a;refine zU (AWp.exit (xT (xT ?_)));refine exL a ?_;rintro rfl;exact oxI ⟨rfl,b,zv⟩
 rintro _ ⟨b,rfl⟩;have h:=(eL (q _ b));refine xB (nT (zs (zA (nT (zr ?_)))));cases soI h;exact zq

theorem c0g {A:Ar} (hA:SA A) {b:List D} {c e:Int} {g i:List D} {j:Int} {a:Bool} (h:b2Q A b c e g i j=some a):a0c Tryz.prog 122 [zl 1 b,(.func 157 [] [.iptr [.int .i64 c,.int .i64 e,.list 1 g,.list 1 i],.iptr [.int .i64 j]])] [] (.d (.bool a)) []:=by
 unfold b2Q at h;refine zI Tryz.func122 ?_;refine zs (zA (nT (zs (zn ?_))));obtain ⟨l,k,h⟩:=a0a h;refine zC (c0f hA k) ?_ { tk:=[8] };refine zE (nT (zr ?_)) { tk:=[8] };cases soI h;exact zq

theorem c0h {A:Ar} (hA:SA A) {b e:Int} {g i j:List D} {k:Int} {l:Bool} (h:b9p A b e g i j k=some l):a0c Tryz.prog 116 [.d (.agg [.int .i64 b,.int .i64 e,.list 1 g,.list 1 i]),zl 1 j,zi k] [] (.d (.bool l)) []:=by
 unfold b9p at h;refine zI Tryz.func116 ?_;refine zs (zA (nT ?_));refine AWp.freezeBox 3 [.int .i64 b,.int .i64 e,.list 1 g,.list 1 i] rfl rfl ?_;refine AWp.freezeBox 5 [.int .i64 k] rfl rfl ?_;refine zs ?_;obtain ⟨o,a,h⟩:=a0a h;refine zN [6] [] 0 (fun τ=>τ=⟨[(6,.d (.bool o))],[],18⟩) ?_ ?_
 ·refine zn ?_;rcases tf (A.zeq (A.len j) b) with c | c
  ·replace a:=cT c a;obtain ⟨p,m,a⟩:=a0a a;refine zD (c0g hA m) ?_ { tk:=[17] };refine zF ?_ { tk:=[17] };cases soI a;exact zO
  replace a:=cF c a;refine zF ?_ { tk:=[17] };cases soI a;exact zO
 rintro _ rfl;refine nT (zr ?_);cases soI h;exact zq

theorem c3D {A:Ar} (hA:SA A) {i j:Int} {k l:List D} {g:Bool} (h:Z81 A i j k l=some g):a0c Tryz.prog 81 [.d (.agg [.int .i64 i,.int .i64 j,.list 1 k,.list 1 l])] [] (.d (.bool g)) []:=by
 unfold Z81 at h;refine zI Tryz.func81 ?_;refine zs (zA (nT (zs ?_)));obtain ⟨v,a,h⟩:=a0a h;refine zN [2] [] 0 (fun τ=>τ=⟨[(2,.d (.bool v))],[],26⟩) ?_ ?_
 ·refine zn ?_;obtain ⟨s,p,a⟩:=a0a a;refine zC (b3u hA p) ?_ { tk:=[25] };rcases tf s with e | e
  ·replace a:=cT e a;obtain ⟨u,q,a⟩:=a0a a;refine zD (b3u hA q) ?_ { tk:=[25] };rcases tf u with b | b
   ·replace a:=cT b a;obtain ⟨r,m,a⟩:=a0a a;refine zD (c0h hA m) ?_ { tk:=[25] };rcases tf r with c | c
    ·replace a:=cT c a;obtain ⟨w,o,a⟩:=a0a a;refine zD (c0h hA o) ?_ { tk:=[25] };refine zF ?_ { tk:=[25] };cases soI a;exact zO
    replace a:=cF c a;refine zF ?_ { tk:=[25] };cases soI a;exact zO
   replace a:=cF b a;refine zF ?_ { tk:=[25] };cases soI a;exact zO
  replace a:=cF e a;refine zF ?_ { tk:=[25] };cases soI a;exact zO
 rintro _ rfl;refine nT (zr ?_);cases soI h;exact zq

theorem c4Z {A:Ar} (hA:SA A) {l m:Int} {o p g i:List D} {k:Int} (h:Z33 A l m o p g i=some k):a0c Tryz.prog 33 [.d (.agg [.int .i64 l,.int .i64 m,.list 1 o,.list 1 p]),zl 1 g,zl 1 i] [] (zi k) []:=by
 unfold Z33 at h;refine zI Tryz.func33 ?_;refine zs (zA (nT (zs (zb (zs (zn ?_))))));obtain ⟨v,s,h⟩:=a0a h;refine zC (c4V hA s) ?_;refine zE (nT ?_);rcases tf v with e | e
 ·replace h:=cT e h;refine zU (zs ?_);obtain ⟨j,a,h⟩:=a0a h;refine zN [1,2,11] [] 0 (fun τ=>τ=⟨[(1,zl 1 g),(2,zl 1 i),(11,.d (.bool j))],[],25⟩) ?_ ?_
  ·refine zn ?_;obtain ⟨u,q,a⟩:=a0a a;refine zD (c3D hA q) ?_;rcases tf u with b | b
   ·replace a:=cT b a;refine zF ?_;cases soI a;exact zO
   replace a:=cF b a;refine zF ?_;cases soI a;exact zO
  rintro _ rfl;refine nT ?_;rcases tf j with c | c
  ·replace h:=cT c h;refine zT (zs ?_);refine zB (nT (zr (rB (rT ?_))));cases soI h;exact zq
  replace h:=cF c h;refine zU (zk (nB (nT (zs (zn ?_)))));obtain ⟨w,r,h⟩:=a0a h;refine zD (b9Y hA r) ?_ { tk:=[24] };refine zF (nT (zr ?_)) { tk:=[24] };cases soI h;exact zq
 replace h:=cF e h;refine zT (zs ?_);refine zB (nT (zr (rB (rT ?_))));cases soI h;exact zq

theorem b0n {A:Ar} (hA:SA A) {c e i:Int} {g:Bool} (h:b2R A c e i=some g):a0c Tryz.prog 152 [zi c,zi e,zi i] [] (.d (.bool g)) []:=by
 unfold b2R at h;refine zI Tryz.func152 ?_;refine zs (zA (nT (zs ?_)));obtain ⟨j,a,h⟩:=a0a h;refine zN [6] [] 0 (fun τ=>τ=⟨[(6,.d (.bool j))],[],15⟩) ?_ ?_
 ·rcases tf (A.zle c e) with b | b
  ·replace a:=cT b a;refine zB ?_ { tk:=[14] };cases soI a;exact zO
  replace a:=cF b a;refine zB ?_ { tk:=[14] };cases soI a;exact zO
 rintro _ rfl;refine nT (zr ?_);cases soI h;exact zq

theorem c3E {A:Ar} (hA:SA A) {b c:Int} {e g:List D} {a:Bool} (h:c2y A b c e g=some a):a0c Tryz.prog 183 [.d (.agg [.int .i64 b,.int .i64 c,.list 1 e,.list 1 g])] [] (.d (.bool a)) []:=by
 unfold c2y at h;refine zI Tryz.func183 ?_;refine zs (zA (nT (zs (zn ?_))));obtain ⟨j,i,h⟩:=a0a h;refine zC (c3D hA i) ?_ { tk:=[5] };refine zE (nT (zr ?_)) { tk:=[5] };cases soI h;exact zq

theorem c3F {A:Ar} (hA:SA A) {c:List D} {j:Int} (h:c2z A c=some j):a0c Tryz.prog 198 [zl 4 c,(.func 183 [] [])] [] (zi j) []:=by
 unfold c2z at h;refine zI Tryz.func198 ?_;refine zs (zA (nT (zs (zs ?_))));refine zA (nT (zb ?_));obtain ⟨B,p,l,k,b⟩:=a0z h;refine zM 0 [] [] 0 (fun τ=>l (.inl ())=some j/\τ=⟨[],[],19⟩) ?_ ?_
 ·refine zP p [0,1,7,8] [] 0 (fun i=>⟨[(0,zl 4 c),(1,(.func 183 [] [])),(7,(.d (.int .i64 (A.len c)))),(8,zi i)],[],19⟩) ⟨rfl,zc⟩ ?_;rintro i w a;dsimp only [a8V] at a;refine zs (zA (nT (zs ?_)));rcases tf (A.zlt i (A.len c)) with e | e
  ·replace a:=cT e a;refine zT (zk (nT (zs (zb (zs ?_)))));refine zB (nT (zs (zn ?_))) { tk:=[8,10] };obtain ⟨⟨r,s,u,v⟩,m,a⟩:=a0a a;obtain ⟨y,z⟩:=gtI m;obtain ⟨q,o,a⟩:=a0a a;refine zD (c3E hA o) ?_;refine zF (nT ?_);rcases tf q with g | g
   ·replace a:=cT g a;refine zT (zs ?_);refine zB (nT (zr (rB (rT (rT ?_))))) { tk:=[5,17] };refine exL a ?_;rintro rfl;refine oxR ?_;replace b:=(eR (k _ b));refine rB (rT ?_);cases soI b;exact zq
   replace a:=cF g a;refine zU (zk (nB (nT ?_)));refine zB ?_ { tk:=[18] };exact nT ⟨_,(soI a).symm,rfl,zv⟩
  replace a:=cF e a;refine zU (AWp.exit (xT (xT ?_)));refine exL a ?_;rintro rfl;exact oxI ⟨rfl,b,zv⟩
 rintro _ ⟨b,rfl⟩;have h:=(eL (k _ b));refine xB (nT (zs (zA (nT (zr ?_)))));cases soI h;exact zq

theorem c3G {A:Ar} (hA:SA A) {b:List D} {a:Bool} (h:c2A A b=some a):a0c Tryz.prog 182 [zl 4 b,(.func 183 [] [])] [] (.d (.bool a)) []:=by
 unfold c2A at h;refine zI Tryz.func182 ?_;refine zs (zA (nT (zs (zn ?_))));obtain ⟨e,c,h⟩:=a0a h;refine zC (c3F hA c) ?_ { tk:=[8] };refine zE (nT (zr ?_)) { tk:=[8] };cases soI h;exact zq

theorem c3H {A:Ar} (hA:SA A) {e:List D} {c:Bool} (h:b9G A e=some c):a0c Tryz.prog 149 [zl 4 e] [] (.d (.bool c)) []:=by
 unfold b9G at h;refine zI Tryz.func149 ?_;refine zs (zA (nT (zs ?_)));obtain ⟨k,a,h⟩:=a0a h;refine zN [2] [] 0 (fun τ=>τ=⟨[(2,.d (.bool k))],[],11⟩) ?_ ?_
 ·refine zn ?_;obtain ⟨j,g,a⟩:=a0a a;refine zC (b0n hA g) ?_ { tk:=[10] };rcases tf j with b | b
  ·replace a:=cT b a;obtain ⟨l,i,a⟩:=a0a a;refine zD (c3G hA i) ?_ { tk:=[10] };refine zF ?_ { tk:=[10] };cases soI a;exact zO
  replace a:=cF b a;refine zF ?_ { tk:=[10] };cases soI a;exact zO
 rintro _ rfl;refine nT (zr ?_);cases soI h;exact zq

theorem c3I {A:Ar} (hA:SA A) {r s u v w e:Int} {y:Bool} (h:b9H A r s u v w e=some y):a0c Tryz.prog 184 [.d (.agg [.int .i64 r,.int .i64 s,.int .i64 u,.int .i64 v,.int .i64 w,.int .i64 e])] [] (.d (.bool y)) []:=by
 unfold b9H at h;refine zI Tryz.func184 ?_;refine zs (zA (nT (zs ?_)));obtain ⟨q,a,h⟩:=a0a h;refine zN [1,3] [] 0 (fun τ=>τ=⟨[(1,(.lbox [zi r,zi s,zi u,zi v,zi w,zi e])),(3,.d (.bool q))],[],49⟩) ?_ ?_
 ·refine zn ?_;obtain ⟨N,G,a⟩:=a0a a;refine zC (b0n hA G) ?_;rcases tf N with p | p
  ·replace a:=cT p a;obtain ⟨J,z,a⟩:=a0a a;refine zD (b0n hA z) ?_;rcases tf J with g | g
   ·replace a:=cT g a;obtain ⟨K,B,a⟩:=a0a a;refine zD (b0n hA B) ?_;rcases tf K with i | i
    ·replace a:=cT i a;obtain ⟨L,C,a⟩:=a0a a;refine zD (b0n hA C) ?_;rcases tf L with j | j
     ·replace a:=cT j a;obtain ⟨Q,E,a⟩:=a0a a;refine zD (b0n hA E) ?_;refine zF ?_;cases soI a;exact zO
     replace a:=cF j a;refine zF ?_;cases soI a;exact zO
    replace a:=cF i a;refine zF ?_;cases soI a;exact zO
   replace a:=cF g a;refine zF ?_;cases soI a;exact zO
  replace a:=cF p a;refine zF ?_;cases soI a;exact zO
 rintro _ rfl;refine nT (zs (zs (zA (nT ?_))));rcases tf (A.zeq e 0) with k | k
 ·replace h:=cT k h;refine zT (zs ?_);obtain ⟨O,c,h⟩:=a0a h;refine zN [2] [] 0 (fun τ=>τ=⟨[(2,.d (.bool O))],[],49⟩) ?_ ?_
  ·rcases tf q with l | l
   ·replace c:=cT l c;refine zB ?_ { tk:=[35] };cases soI c;exact zO
   replace c:=cF l c;refine zB ?_ { tk:=[35] };cases soI c;exact zO
  rintro _ rfl;refine nT (zr (rT ?_));cases soI h;exact zq
 replace h:=cF k h;refine zU (zk (nT (zs ?_)));obtain ⟨P,b,h⟩:=a0a h;refine zN [2] [] 0 (fun τ=>τ=⟨[(2,.d (.bool P))],[],49⟩) ?_ ?_
 ·refine zn ?_;rcases tf q with m | m
  ·replace b:=cT m b;obtain ⟨M,F,b⟩:=a0a b;refine zD (b0n hA F) ?_ { tk:=[48] };rcases tf M with o | o
   ·replace b:=cT o b;refine zF ?_ { tk:=[48] };cases soI b;exact zO
   replace b:=cF o b;refine zF ?_ { tk:=[48] };cases soI b;exact zO
  replace b:=cF m b;refine zF ?_ { tk:=[48] };cases soI b;exact zO
 rintro _ rfl;refine nT (zr ?_);cases soI h;exact zq

theorem c3J {A:Ar} (hA:SA A) {g l m o p c q r s i j k:Int} {e:Bool} (h:Z75 A g l m o p c q r s i j k=some e):a0c Tryz.prog 75 [.d (.agg [.int .i64 g,.int .i64 l,.int .i64 m,.int .i64 o,.int .i64 p,.int .i64 c]),.d (.agg [.int .i64 q,.int .i64 r,.int .i64 s,.int .i64 i,.int .i64 j,.int .i64 k])] [] (.d (.bool e)) []:=by
 unfold Z75 at h;refine zI Tryz.func75 ?_;refine zs (zA (nT (zs ?_)));obtain ⟨u,a,h⟩:=a0a h;refine zN [4] [] 0 (fun τ=>τ=⟨[(4,.d (.bool u))],[],15⟩) ?_ ?_
 ·rcases tf (A.zlt 0 c) with b | b
  ·replace a:=cT b a;refine zB ?_ { tk:=[14] };cases soI a;exact zO
  replace a:=cF b a;refine zB ?_ { tk:=[14] };cases soI a;exact zO
 rintro _ rfl;refine nT (zr ?_);cases soI h;exact zq

theorem c3K {A:Ar} (hA:SA A) {b:List D} {N:Bool} (h:b9I A b=some N):a0c Tryz.prog 150 [zl 6 b] [] (.d (.bool N)) []:=by
 unfold b9I at h;refine zI Tryz.func150 ?_;refine zs (zA (nT (zs (zs ?_))));refine zA (nT ?_);rcases tf (A.zlt 8 (A.len b)) with K | K
 ·replace h:=cT K h;refine zT (zs ?_);refine zB (nT (zr (rT ?_)));cases soI h;exact zq
 replace h:=cF K h;refine zU (zk (nT (zs ?_)));refine zB (nT (zs (zs ?_))) { arr:=[3] };refine zB (nT (zb ?_));obtain ⟨k2,v0,W,v,i⟩:=a0z h;refine zM 0 [] [] 1 (fun τ => ∃ M,W (.inl M)=some N/\τ=⟨[],[(.arr 1 M)],67⟩) ?_ ?_
 ·refine zP v0 [0,3,11,12,13] [] 1 (fun (j,O)=>⟨[(0,zl 6 b),(3,.ptr 0 0),(11,zl 6 b),(12,(.d (.int .i64 (A.len b)))),(13,zi j)],[(.arr 1 O)],67⟩) ⟨rfl,zv⟩ ?_;rintro ⟨j,O⟩ P a;dsimp only [a8X] at a;refine zs (zA (nT (zs ?_)));rcases tf (A.zlt j (A.len b)) with L | L
  ·replace a:=cT L a;refine zT (zk (nT (zs (zb (zs ?_)))));obtain ⟨⟨o,u,q,r,s,m⟩,a0,a⟩:=a0a a;obtain ⟨m1,n1⟩:=gtI a0;refine zB (nT (zs (zs ?_))) { tk:=[17] };obtain ⟨R,g,a⟩:=a0a a;refine zN [0,3,4,5,11,12,13,26] [] 1 (fun τ=>τ=⟨[(0,zl 6 b),(3,.ptr 0 0),(4,zi j),(5,(.lbox [zi o,zi u,zi q,zi r,zi s,zi m])),(11,zl 6 b),(12,(.d (.int .i64 (A.len b)))),(13,zi j),(26,.d (.bool R))],[(.arr 1 O)],67⟩) ?_ ?_
   ·refine zn ?_;obtain ⟨w0,b0,g⟩:=a0a g;refine zD (c3I hA b0) ?_;rcases tf w0 with y | y
    ·replace g:=cT y g;obtain ⟨_,c0,g⟩:=a0a g;have o1:=ckI c0;obtain ⟨_,d0,g⟩:=a0a g;have p1:=ckI d0;obtain ⟨z0,e0,g⟩:=a0a g;have q1:=gcI e0;refine zF ?_;cases soI g;exact zO
    replace g:=cF y g;refine zF ?_;cases soI g;exact zO
   rintro _ rfl;refine nT ?_;rcases tf R with z | z
   ·replace a:=cT z a;refine zT (zs ?_);refine zB (nT (zr (rT (rB (rT (rT ?_))))));refine exL a ?_;rintro rfl;refine oxR ?_;replace i:=(eR (v _ i));refine rB (rT ?_);cases soI i;exact zq
   replace a:=cF z a;refine zU (zk (nT (zs ?_)));obtain ⟨_,g0,a⟩:=a0a a;have r1:=ckI g0;obtain ⟨_,i0,a⟩:=a0a a;have s1:=ckI i0;obtain ⟨g1,j1,a⟩:=a0a a;refine zB (nT (zs (zs ?_)));refine zB (nT ?_);obtain ⟨U,s0,a⟩:=jnI a;refine zN [0,3,4,5,11,12,13] [] 1 (fun τ => ∃ l,U l=some P/\τ=⟨[(0,zl 6 b),(3,.ptr 0 0),(4,zi j),(5,(.lbox [zi o,zi u,zi q,zi r,zi s,zi m])),(11,zl 6 b),(12,(.d (.int .i64 (A.len b)))),(13,zi j)],[(.arr 1 l)],67⟩) ?_ ?_
   ·rcases tf (A.zlt 0 m) with B | B
    ·replace a:=cT B a;refine zT (zs (zs ?_));obtain ⟨_,j0,a⟩:=a0a a;have u1:=ckI j0;obtain ⟨_,k0,a⟩:=a0a a;have v1:=ckI k0;obtain ⟨X,l0,a⟩:=a0a a;have w1:=gcI l0;refine zB (nT ?_);rcases tf X with C | C
     ·replace a:=cT C a;refine zT (zs ?_);refine zB (nT (zr (rT ?_)));refine oNr ?_;refine rT (rB (rT (rT ?_)));refine exL a ?_;rintro rfl;refine oxR ?_;replace i:=(eR (v _ i));refine rB (rT ?_);cases soI i;exact zq
     replace a:=cF C a;refine zU (zk (nT ?_));obtain ⟨_,m0,a⟩:=a0a a;have y1:=ckI m0;obtain ⟨_,n0,a⟩:=a0a a;have z1:=ckI n0;obtain ⟨i1,k1,a⟩:=a0a a;refine zB ?_;exact oNi ⟨rfl,_,a,zv⟩
    replace a:=cF B a;refine zU (zk ?_);exact oNi ⟨rfl,_,a,zv⟩
   rintro _ ⟨l,a,rfl⟩;replace a:=s0 _ a;refine nT (zs ?_);obtain ⟨p,o0,a⟩:=a0a a;obtain ⟨a2,b2,c2,d2⟩:=slI o0;refine zB (nT (zb ?_));obtain ⟨j2,u0,V,Q,k⟩:=a0z a;refine zM 2 [0,3,11,12,13] [] 1 (fun τ=>V (.inl ())=some P/\τ=⟨[(0,zl 6 b),(3,.ptr 0 0),(11,zl 6 b),(12,(.d (.int .i64 (A.len b)))),(13,zi j)],[(.arr 1 l)],67⟩) ?_ ?_
   ·refine zP u0 [0,3,5,11,12,13,42,43,44] [] 1 (fun w=>⟨[(0,zl 6 b),(3,.ptr 0 0),(5,(.lbox [zi o,zi u,zi q,zi r,zi s,zi m])),(11,zl 6 b),(12,(.d (.int .i64 (A.len b)))),(13,zi j),(42,zl 6 p),(43,(.d (.int .i64 (A.len p)))),(44,zi w)],[(.arr 1 l)],67⟩) ⟨rfl,zc⟩ ?_;rintro w l1 c;dsimp only [a8W] at c;refine zs (zA (nT (zs ?_)));rcases tf (A.zlt w (A.len p)) with E | E
    ·replace c:=cT E c;refine zT (zk (nT (zs (zb (zs ?_)))));obtain ⟨⟨Y,a1,b1,c1,d1,e1⟩,p0,c⟩:=a0a c;obtain ⟨e2,g2⟩:=gtI p0;refine zB (nT (zs ?_)) { tk:=[47] };obtain ⟨S,e,c⟩:=a0a c;refine zN [0,3,5,11,12,13,42,43,44,64] [] 1 (fun τ=>τ=⟨[(0,zl 6 b),(3,.ptr 0 0),(5,(.lbox [zi o,zi u,zi q,zi r,zi s,zi m])),(11,zl 6 b),(12,(.d (.int .i64 (A.len b)))),(13,zi j),(42,zl 6 p),(43,(.d (.int .i64 (A.len p)))),(44,zi w),(64,.d (.bool S))],[(.arr 1 l)],67⟩) ?_ ?_
     ·refine zn ?_;rcases tf (A.zeq o Y) with F | F
      ·replace e:=cT F e;obtain ⟨y0,q0,e⟩:=a0a e;refine zD (c3J hA q0) ?_;rcases tf y0 with G | G
       ·replace e:=cT G e;refine zF ?_;cases soI e;exact zO
       replace e:=cF G e;obtain ⟨i2,r0,e⟩:=a0a e;refine zD (c3J hA r0) ?_;refine zF ?_;cases soI e;exact zO
      replace e:=cF F e;refine zF ?_;cases soI e;exact zO
     rintro _ rfl;refine nT ?_;rcases tf S with J | J
     ·replace c:=cT J c;refine zT (zs ?_);refine zB (nT (zr (rB (rT (rT ?_)))));refine exL c ?_;rintro rfl;refine oxR ?_;replace k:=(eR (Q _ k));refine rB (rB (rT (rT ?_)));refine exL k ?_;rintro rfl;refine oxR ?_;replace i:=(eR (v _ i));refine rB (rT ?_);cases soI i;exact zq
     replace c:=cF J c;refine zU (zk (nB (nT ?_)));refine zB ?_;exact nT ⟨_,(soI c).symm,rfl,zv⟩
    replace c:=cF E c;refine zU (AWp.exit (xT (xT ?_)));refine exL c ?_;rintro rfl;exact oxI ⟨rfl,k,zv⟩
   rintro _ ⟨k,rfl⟩;have a:=(eL (Q _ k));refine xB (nB (nT (zA ?_)));exact nT ⟨_,(soI a).symm,rfl,zc⟩
  replace a:=cF L a;refine zU (AWp.exit (xT (xT ?_)));refine exL a ?_;rintro rfl;exact oxI ⟨rfl,_,i,zv⟩
 rintro _ ⟨M,i,rfl⟩;have h:=(eL (v _ i));refine xB (nT (zs (zA (nT (zr ?_)))));cases soI h;exact zq

theorem c3L {A:Ar} (hA:SA A) {i c j k l m:Int} {e:List D} {g:Bool} (h:b9J A i c j k l m e=some g):a0c Tryz.prog 185 [.d (.agg [.int .i64 i,.int .i64 c,.int .i64 j,.int .i64 k,.int .i64 l,.int .i64 m]),.iptr [.list 4 e]] [] (.d (.bool g)) []:=by
 unfold b9J at h;refine zI Tryz.func185 ?_;refine zs (zA (nT (zs ?_)));obtain ⟨p,a,h⟩:=a0a h;refine zN [3] [] 0 (fun τ=>τ=⟨[(3,.d (.bool p))],[],20⟩) ?_ ?_
 ·rcases tf (A.zle (A.len e) c) with b | b
  ·replace a:=cT b a;refine zH ?_ { tk:=[19] };cases soI a;exact zO
  replace a:=cF b a;obtain ⟨⟨u,q,r,s⟩,o,a⟩:=a0a a;obtain ⟨v,w⟩:=gtI o;refine zH ?_ { tk:=[19] };cases soI a;exact zO
 rintro _ rfl;refine nT (zr ?_);cases soI h;exact zq

theorem c0i {A:Ar} (hA:SA A) {c k:List D} {j:Int} (h:b5q A c k=some j):a0c Tryz.prog 190 [zl 6 c,(.func 185 [] [.iptr [.list 4 k]])] [] (zi j) []:=by
 unfold b5q at h;refine zI Tryz.func190 ?_;refine zs (zA (nT (zs (zs ?_))));refine zA (nT (zb ?_));obtain ⟨F,q,m,l,b⟩:=a0z h;refine zM 0 [] [] 0 (fun τ=>m (.inl ())=some j/\τ=⟨[],[],19⟩) ?_ ?_
 ·refine zP q [0,1,7,8] [] 0 (fun i=>⟨[(0,zl 6 c),(1,(.func 185 [] [.iptr [.list 4 k]])),(7,(.d (.int .i64 (A.len c)))),(8,zi i)],[],19⟩) ⟨rfl,zc⟩ ?_;rintro i B a;dsimp only [a6n] at a;refine zs (zA (nT (zs ?_)));rcases tf (A.zlt i (A.len c)) with e | e
  ·replace a:=cT e a;refine zT (zk (nT (zs (zb (zs ?_)))));refine zB (nT (zs (zn ?_))) { tk:=[8,10] };obtain ⟨⟨s,u,v,w,y,z⟩,o,a⟩:=a0a a;obtain ⟨C,E⟩:=gtI o;obtain ⟨r,p,a⟩:=a0a a;refine zD (c3L hA p) ?_;refine zF (nT ?_);rcases tf r with g | g
   ·replace a:=cT g a;refine zT (zs ?_);refine zB (nT (zr (rB (rT (rT ?_))))) { tk:=[5,17] };refine exL a ?_;rintro rfl;refine oxR ?_;replace b:=(eR (l _ b));refine rB (rT ?_);cases soI b;exact zq
   replace a:=cF g a;refine zU (zk (nB (nT ?_)));refine zB ?_ { tk:=[18] };exact nT ⟨_,(soI a).symm,rfl,zv⟩
  replace a:=cF e a;refine zU (AWp.exit (xT (xT ?_)));refine exL a ?_;rintro rfl;exact oxI ⟨rfl,b,zv⟩
 rintro _ ⟨b,rfl⟩;have h:=(eL (l _ b));refine xB (nT (zs (zA (nT (zr ?_)))));cases soI h;exact zq

theorem c0j {A:Ar} (hA:SA A) {b c:List D} {a:Bool} (h:b5r A b c=some a):a0c Tryz.prog 160 [zl 6 b,(.func 185 [] [.iptr [.list 4 c]])] [] (.d (.bool a)) []:=by
 unfold b5r at h;refine zI Tryz.func160 ?_;refine zs (zA (nT (zs (zn ?_))));obtain ⟨g,e,h⟩:=a0a h;refine zC (c0i hA e) ?_ { tk:=[8] };refine zE (nT (zr ?_)) { tk:=[8] };cases soI h;exact zq

theorem c3M {A:Ar} (hA:SA A) {a c:List D} {b:Bool} (h:b9K A a c=some b):a0c Tryz.prog 151 [zl 4 a,zl 6 c] [] (.d (.bool b)) []:=by
 unfold b9K at h;refine zI Tryz.func151 ?_;refine zs (zA (nT ?_));refine AWp.freezeBox 2 [.list 4 a] rfl rfl ?_;refine zs (zn ?_);obtain ⟨g,e,h⟩:=a0a h;refine zC (c0j hA e) ?_ { tk:=[8] };refine zE (nT (zr ?_)) { tk:=[8] };cases soI h;exact zq

theorem c3N {A:Ar} (hA:SA A) {i j:List D} {e:Bool} {g:Int} (h:b9L A i j=some (e,g)):a0c Tryz.prog 106 [zl 4 i,zl 6 j] [] (.tuple [.d (.bool e),zi g]) []:=by
 unfold b9L at h;refine zI Tryz.func106 ?_;refine zs (zA (nT (zs (zs (zn ?_)))));obtain ⟨o,k,h⟩:=a0a h;refine zC (c3H hA k) ?_;refine zE (nT ?_);rcases tf o with b | b
 ·replace h:=cT b h;refine zU (zk (nT (zs ?_)));obtain ⟨q,a,h⟩:=a0a h;refine zN [4,5] [] 0 (fun τ=>τ=⟨[(4,.d (.bool q)),(5,zi 0)],[],16⟩) ?_ ?_
  ·refine zn ?_;obtain ⟨p,l,a⟩:=a0a a;refine zD (c3K hA l) ?_;rcases tf p with c | c
   ·replace a:=cT c a;obtain ⟨r,m,a⟩:=a0a a;refine zD (c3M hA m) ?_;refine zF ?_;cases soI a;exact zO
   replace a:=cF c a;refine zF ?_;cases soI a;exact zO
  rintro _ rfl;refine nT (zr ?_);cases soI h;exact zq
 replace h:=cF b h;refine zT (zs ?_);refine zB (nT (zr (rT ?_)));cases soI h;exact zq

theorem c5x {A:Ar} (hA:SA A) {k l:List D} {i:Int} (h:Z72 A k l=some i):a0c Tryz.prog 72 [zl 4 k,zl 6 l] [] (zi i) []:=by
 unfold Z72 at h;refine zI Tryz.func72 ?_;refine zs (zA (nT (zs (zn ?_))));obtain ⟨⟨p,g⟩,m,h⟩:=a0a h;refine zC (c3N hA m) ?_ { tk:=[12] };refine zE (nT (zs (zs ?_))) { tk:=[12] };obtain ⟨j,b,h⟩:=a0a h;refine zN [6,18] [] 0 (fun τ=>τ=⟨[(6,zi g),(18,.d (.bool j))],[],20⟩) ?_ ?_
 ·rcases tf (A.zeq g 0) with c | c
  ·replace b:=cT c b;refine zB ?_;cases soI b;exact zO
  replace b:=cF c b;refine zB ?_;cases soI b;exact zO
 rintro _ rfl;refine nT ?_;obtain ⟨o,a,h⟩:=a0a h;refine zN [6] [] 0 (fun τ=>τ=⟨[(6,zi o)],[],20⟩) ?_ ?_
 ·rcases tf j with e | e
  ·replace a:=cT e a;refine zT ?_;refine zB ?_;cases soI a;exact zO
  replace a:=cF e a;refine zU (zk ?_);cases soI a;exact zO
 rintro _ rfl;refine nT (zs (zA (nT (zr ?_)) { tk:=[6,19] }));cases soI h;exact zq

theorem c3O {A:Ar} (hA:SA A) {c e a b:List D} (h:c2B A c e=some (a,b)):a0c Tryz.prog 162 [zl 4 c,zl 6 e,(.func 75 [] [])] [] (.ptr 1 0) [(.map true [.int .u8,.int .i64,.int .i64] []),(.cells [zl 4 a,zl 6 b,(.func 75 [] []),(.map 0)])]:=by
 unfold c2B at h;refine zI Tryz.func162 ?_;refine zs (zA (nT (zs ?_)));refine zA (nT (zr ?_)) { tk:=[12],esc:=[12] };cases soI h;exact zq

theorem b3v {A:Ar} (hA:SA A) {b c:Int} {a:Bool} (h:b0f A b c=some a):a0c Tryz.prog 200 [.d (.int .u8 b),zi c] [] (.d (.bool a)) []:=by
 unfold b0f at h;refine zI Tryz.func200 ?_;refine zs (zA (nT (zs ?_)));obtain ⟨_,e,h⟩:=a0a h;have g:=nkI e;refine zB (nT (zr ?_)) { tk:=[9] };cases soI h;exact zq

theorem c0k {A:Ar} (hA:SA A) {k l m:Int} {g:List (D×D)} {i b:List D} {r:Bool} (h:b2S A k l m g i b=some r):a0c Tryz.prog 191 [.ptr 1 0,.d (.agg [.int .u8 k,.int .i64 l,.int .i64 m])] [(.map true [.int .u8,.int .i64,.int .i64] g),(.cells [zl 4 i,zl 6 b,(.func 75 [] []),(.map 0)])] (.d (.bool r)) [(.map true [.int .u8,.int .i64,.int .i64] g),(.cells [zl 4 i,zl 6 b,(.func 75 [] []),(.map 0)])]:=by
 unfold b2S at h;refine zI Tryz.func191 ?_;refine zs (zA (nT (zs (zs ?_))));refine zA (nT (zb ?_));obtain ⟨O,B,v,s,e⟩:=a0z h;refine zM 0 [] [] 2 (fun τ=>v (.inl ())=some r/\τ=⟨[],[(.map true [.int .u8,.int .i64,.int .i64] g),(.cells [zl 4 i,zl 6 b,(.func 75 [] []),(.map 0)])],28⟩) ?_ ?_
 ·refine zP B [3,10,11,12] [] 2 (fun j=>⟨[(3,(.lbox [.d (.int .u8 k),zi l,zi m])),(10,zl 6 b),(11,(.d (.int .i64 (A.len b)))),(12,zi j)],[(.map true [.int .u8,.int .i64,.int .i64] g),(.cells [zl 4 i,zl 6 b,(.func 75 [] []),(.map 0)])],28⟩) ⟨rfl,zc⟩ ?_;rintro j K a;dsimp only [a6o] at a;refine zs (zA (nT (zs ?_)));rcases tf (A.zlt j (A.len b)) with o | o
  ·replace a:=cT o a;refine zT (zk (nT (zs (zb (zs ?_)))));obtain ⟨⟨C,E,F,G,J,w⟩,y,a⟩:=a0a a;obtain ⟨L,M⟩:=gtI y;refine zB (nT (zs ?_)) { tk:=[16] };obtain ⟨u,c,a⟩:=a0a a;refine zN [3,10,11,12,26] [] 2 (fun τ=>τ=⟨[(3,(.lbox [.d (.int .u8 k),zi l,zi m])),(10,zl 6 b),(11,(.d (.int .i64 (A.len b)))),(12,zi j),(26,.d (.bool u))],[(.map true [.int .u8,.int .i64,.int .i64] g),(.cells [zl 4 i,zl 6 b,(.func 75 [] []),(.map 0)])],28⟩) ?_ ?_
   ·refine zn ?_;rcases tf (A.zlt 0 w) with p | p
    ·replace c:=cT p c;obtain ⟨N,z,c⟩:=a0a c;refine zD (b3v hA z) ?_;refine zF ?_;cases soI c;exact zO
    replace c:=cF p c;refine zF ?_;cases soI c;exact zO
   rintro _ rfl;refine nT ?_;rcases tf u with q | q
   ·replace a:=cT q a;refine zT (zs ?_);refine zB (nT (zr (rB (rT (rT ?_)))));refine exL a ?_;rintro rfl;refine oxR ?_;replace e:=(eR (s _ e));refine rB (rT ?_);cases soI e;exact zq
   replace a:=cF q a;refine zU (zk (nB (nT ?_)));refine zB ?_;exact nT ⟨_,(soI a).symm,rfl,zv⟩
  replace a:=cF o a;refine zU (AWp.exit (xT (xT ?_)));refine exL a ?_;rintro rfl;exact oxI ⟨rfl,e,zv⟩
 rintro _ ⟨e,rfl⟩;have h:=(eL (s _ e));refine xB (nT (zs (zA (nT (zr ?_)))));cases soI h;exact zq

theorem c0l {A:Ar} (hA:SA A) {a b c:Int} {e:List (D×D)} {g i:List D} {j l m k:Int} (h:b5s A a b c e g i j=some (l,m,k)):a0c Tryz.prog 192 [.ptr 1 0,.d (.agg [.int .u8 a,.int .i64 b,.int .i64 c])] [(.map true [.int .u8,.int .i64,.int .i64] e),(.cells [zl 4 g,zl 6 i,(.func 75 [] []),(.map 0)]),.cells [.ptr 1 0],.cells [zi j]] (.func 201 [] [.ptr 4 0,.iptr [.int .u8 l,.int .i64 m,.int .i64 k]]) [(.map true [.int .u8,.int .i64,.int .i64] e),(.cells [zl 4 g,zl 6 i,(.func 75 [] []),(.map 0)]),.cells [.ptr 1 0],.cells [zi j],.cells [.ptr 1 0]]:=by
 unfold b5s at h;refine zI Tryz.func192 ?_;refine zs (zA (nT ?_) { esc:=[2] });refine AWp.freezeBox 3 [.int .u8 a,.int .i64 b,.int .i64 c] rfl rfl ?_;refine zs (zA (nT (zr ?_)) { tk:=[5] });cases soI h;exact zq

theorem c0m {A:Ar} (hA:SA A) {v w:Int} {U:List D} {q e r s u j Q R:Int} {S:Bool} (h:b2T A v w U q e r s u j=some (Q,R,S)):a0c Tryz.prog 108 [.d (.agg [.int .i64 v,.int .i64 w]),zl 4 U,.d (.agg [.int .i64 q,.int .i64 e,.int .i64 r,.int .i64 s,.int .i64 u,.int .i64 j])] [] (.tuple [.d (.agg [.int .i64 Q,.int .i64 R]),.d (.bool S)]) []:=by
 unfold b2T at h;refine zI Tryz.func108 ?_;refine zs (zA (nT (zs ?_)));obtain ⟨⟨J,K,L,M,N⟩,b,h⟩:=a0a h;refine zN [3,5,6,8,9] [] 0 (fun τ=>τ=⟨[(3,(.lbox [zi v,zi w])),(5,(.lbox [zi q,zi e,zi r,zi s,zi u,zi j])),(6,(.lbox [zi 0,zi 0])),(8,(.lbox [zi J,zi K,zl 1 L,zl 1 M])),(9,zi N)],[],49⟩) ?_ ?_
 ·obtain ⟨⟨s0,u0,v0,w0⟩,V,b⟩:=a0a b;obtain ⟨y,p⟩:=gtI V;rcases tf (A.zeq e 0) with k | k
  ·replace b:=cT k b;obtain ⟨b0,c0,z⟩:=ixF hA (n:=2) k (by decide);have f16f18:=p;rw [z] at f16f18;refine zH ?_ { tk:=[14] } (h:=(by (repeat (cbv;simp only [y,p,b0,c0,z,f16f18]));try cbv))
   cases soI b;exact zO
  replace b:=cF k b;rcases tf (A.zeq e 1) with l | l
  ·replace b:=cT l b;obtain ⟨d0,e0,B⟩:=ixF hA (n:=2) l (by decide);have f16f20:=p;rw [B] at f16f20;refine zH ?_ { tk:=[14] } (h:=(by (repeat (cbv;simp only [y,p,d0,e0,B,f16f20]));try cbv))
   cases soI b;exact zO
  replace b:=cF l b;cases b
 rintro _ rfl;refine nT (zs ?_);obtain ⟨⟨O,P⟩,a,h⟩:=a0a h;refine zN [3,5,6,8,9] [] 0 (fun τ=>τ=⟨[(3,(.lbox [zi O,zi P])),(5,(.lbox [zi q,zi e,zi r,zi s,zi u,zi j])),(6,(.lbox [zi 0,zi 0])),(8,(.lbox [zi J,zi K,zl 1 L,zl 1 M])),(9,zi N)],[],49⟩) ?_ ?_
 ·obtain ⟨y0,W,a⟩:=a0a a;obtain ⟨C,E⟩:=gtI W;obtain ⟨z0,X,a⟩:=a0a a;obtain ⟨F,G⟩:=gtI X;rcases tf (A.zeq e 0) with m | m
  ·replace a:=cT m a;obtain ⟨g0,i0,j0⟩:=ixF hA (n:=2) m (by decide);refine zH ?_ { tk:=[29] } (h:=(by (repeat (cbv;simp only [C,E,F,G,g0,i0,j0]));try cbv))
   cases soI a;exact zO
  replace a:=cF m a;rcases tf (A.zeq e 1) with o | o
  ·replace a:=cT o a;obtain ⟨k0,l0,m0⟩:=ixF hA (n:=2) o (by decide);refine zH ?_ { tk:=[29] } (h:=(by (repeat (cbv;simp only [C,E,F,G,k0,l0,m0]));try cbv))
   cases soI a;exact zO
  replace a:=cF o a;cases a
 rintro _ rfl;refine nT (zs ?_);obtain ⟨r0,c,h⟩:=a0a h;refine zN [6,7] [] 0 (fun τ=>τ=⟨[(6,(.lbox [zi O,zi P])),(7,.d (.bool r0))],[],49⟩) ?_ ?_
 ·rcases tf (A.zeq j 0) with i | i
  ·replace c:=cT i c;refine zH ?_ { tk:=[31] } (h:=(by (repeat (cbv;simp only [i]));try cbv))
   cases soI c;exact (zO (g:=(by first | (cbv;done) | ((repeat (cbv;simp only [i]));try cbv))))
  replace c:=cF i c;obtain ⟨a1,Y,c⟩:=a0a c;obtain ⟨n0,o0⟩:=gtI Y;obtain ⟨b1,a0,c⟩:=a0a c;obtain ⟨p0,q0⟩:=gtI a0;refine zH ?_ { tk:=[31] } (h:=(by (repeat (cbv;simp only [i,n0,o0,p0,q0]));try cbv))
  cases soI c;exact (zO (g:=(by first | (cbv;done) | ((repeat (cbv;simp only [i]));try cbv))))
 rintro _ rfl;refine nT (zr ?_);cases soI h;exact zq
end Go.Am
