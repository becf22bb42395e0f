import Derived.Test.YtlljehkmemajkaaGreatGenw1
set_option maxRecDepth 100000
set_option maxHeartbeats 2000000
set_option linter.unusedVariables false
set_option linter.unusedSimpArgs false
namespace Go.Am
open Go Go.Proofs
theorem c0k {A:Ar} (hA:SA A) {c:List D} {e:List (D×D)} {k:Int} (h:b9r A c e=some k):a0g Tryz.prog 86 [zl 3 c,(.func 54 [] [.ptr 1 0])] [(.map true [.int .i64,.int .i64,.int .i64] e),(.cells [(.map 0)])] (zi k) [(.map true [.int .i64,.int .i64,.int .i64] e),(.cells [(.map 0)])]:=by
 unfold b9r at h;refine zI Tryz.func86 ?_;refine zs (zA (nT (zs (zs ?_))));refine zA (nT (zb ?_));obtain ⟨B,q,m,l,b⟩:=a0E h;refine zM 0 [] [] 2 (fun τ=>m (.inl ())=some k/\τ=⟨[],[(.map true [.int .i64,.int .i64,.int .i64] e),(.cells [(.map 0)])],19⟩) ?_ ?_
 ·refine zP q [0,1,7,8] [] 2 (fun j=>⟨[(0,zl 3 c),(1,(.func 54 [] [.ptr 1 0])),(7,(.d (.int .i64 (A.len c)))),(8,zi j)],[(.map true [.int .i64,.int .i64,.int .i64] e),(.cells [(.map 0)])],19⟩) ⟨rfl,zc⟩ ?_;rintro j w a;dsimp only [b1m] at a;refine zs (zA (nT (zs ?_)));rcases tf (A.zlt j (A.len c)) with g | g
  ·replace a:=cT g a;refine zT (zk (nT (zs (zb (zs ?_)))));refine zB (nT (zs (zn ?_))) { tk:=[8,10] };obtain ⟨⟨s,u,v⟩,o,a⟩:=a0a a;obtain ⟨y,z⟩:=gtI o;obtain ⟨r,p,a⟩:=a0a a;refine zD (b9y hA p) ?_;refine zF (nT ?_);rcases tf r with i | i
   ·replace a:=cT i a;refine zT (zs ?_);refine zB (nT (zr (rB (rT (rT ?_))))) { tk:=[5,17] };refine exL a ?_;rintro rfl;refine oxR ?_;replace b:=(eR (l _ b));refine rB (rT ?_);cases soI b;exact zq
   replace a:=cF i a;refine zU (zk (nB (nT ?_)));refine zB ?_ { tk:=[18] };exact nT ⟨_,(soI a).symm,rfl,zv⟩
  replace a:=cF g a;refine zU (AWp.exit (xT (xT ?_)));refine exL a ?_;rintro rfl;exact oxI ⟨rfl,b,zv⟩
 rintro _ ⟨b,rfl⟩;have h:=(eL (l _ b));refine xB (nT (zs (zA (nT (zr ?_)))));cases soI h;exact zq

theorem c0l {A:Ar} (hA:SA A) {b:List D} {c:List (D×D)} {m:List D} (h:b9s A b c=some m):a0g Tryz.prog 52 [zl 3 b,(.func 54 [] [.ptr 1 0])] [(.map true [.int .i64,.int .i64,.int .i64] c),(.cells [(.map 0)])] (zl 3 m) [(.map true [.int .i64,.int .i64,.int .i64] c),(.cells [(.map 0)])]:=by
 unfold b9s at h;refine zI Tryz.func52 ?_;refine zs (zA (nT (zs (zn ?_))));obtain ⟨k,q,h⟩:=a0a h;refine zC (c0k hA q) ?_;refine zE (nT (zs (zs ?_)));refine zA (nT ?_);rcases tf (A.zeq k (-1)) with i | i
 ·replace h:=cT i h;refine zT (zs ?_);refine zB (nT (zr (rT ?_))) { tk:=[0,13] };cases soI h;exact zq
 replace h:=cF i h;refine zU (zk (nT (zs (zs ?_))));refine zB (nT (zb ?_));obtain ⟨U,w,o,v,j⟩:=a0E h;refine zM 0 [0,5] [] 2 (fun τ=>o ()=some m/\τ=⟨[(0,zl 3 b),(5,zi k)],[(.map true [.int .i64,.int .i64,.int .i64] c),(.cells [(.map 0)])],42⟩) ?_ ?_
 ·refine zP w [0,1,5,6] [] 2 (fun l=>⟨[(0,zl 3 b),(1,(.func 54 [] [.ptr 1 0])),(5,zi k),(6,zi l)],[(.map true [.int .i64,.int .i64,.int .i64] c),(.cells [(.map 0)])],42⟩) ⟨rfl,zv⟩ ?_;rintro l J a;dsimp only [b4V] at a;refine zs (zs (zA (nT ?_)));rcases tf (A.zlt l (A.len b)) with e | e
  ·replace a:=cT e a;refine zT (zk (nT (zs (zb (zs ?_)))));obtain ⟨⟨z,B,C⟩,p,a⟩:=a0a a;obtain ⟨K,L⟩:=gtI p;refine zB (nT (zs (zn ?_))) { tk:=[25] };obtain ⟨y,r,a⟩:=a0a a;refine zD (b9y hA r) ?_;refine zF (nT ?_);rcases tf y with g | g
   ·replace a:=cT g a;refine zU (zk (nB (nT ?_)));refine zB ?_;exact nT ⟨_,(soI a).symm,rfl,zv⟩
   replace a:=cF g a;refine zT (zs ?_);obtain ⟨⟨E,F,G⟩,s,a⟩:=a0a a;obtain ⟨M,N⟩:=gtI s;cases a
  replace a:=cF e a;refine zU (AWp.exit (xT (xT ?_)));refine exL a ?_;rintro rfl;exact oxI ⟨rfl,j,zv⟩
 rintro _ ⟨j,rfl⟩;have h:=(v _ j);refine xB (nT (zs ?_));obtain ⟨S,u,h⟩:=a0a h;obtain ⟨O,P,Q,R⟩:=slI u;cases h

theorem c1P {A:Ar} (hA:SA A) {c b:List D} (h:N26 A c=some b):a0g Tryz.prog 26 [zl 1 c] [] (zl 3 b) []:=by
 unfold N26 at h;refine a0g.enterT hT (fn:=Tryz.f26) Tryz.func26 rfl (by decide) (by simp [Tryz.f26]) rfl rfl rfl rfl (lb rfl) ?_;refine a2o.seq ?_;refine a2o.of ?_;refine zA (nT ?_);refine a2o.seq ?_;refine a2o.of ?_;refine zA (nT ?_) { tk:=[7],esc:=[3] };refine a2o.seq ?_;refine a2o.seq ?_;refine a2o.of ?_;refine zA (nT ?_);refine a2o.block ?_;obtain ⟨p,j,h⟩:=a0a h;refine a2o.rangeFunc [3] (H':=[(.map true [.int .i64,.int .i64,.int .i64] p),(.cells [(.map 0)]),(.loop { st := .ready,pending:=none,env:=[(3,.ptr 1 0)],n:=24,params := #[10],assign:=a0r,body:=a0s })]) rfl (lb rfl) rfl rfl rfl (c0f hA j) (st := .ready) (by decide) rfl ?_;refine bN ?_;refine nB (nT ?_);refine a2o.of ?_;refine zs (zn ?_);obtain ⟨o,a,h⟩:=a0a h;rcases o with ⟨y,z,B⟩ | v
 ·replace h:=(eL h);refine zC (b7I hA a) ?_ { tk:=[23] };obtain ⟨⟨C,r,u⟩,k,h⟩:=a0a h;refine zC (c0j hA k) ?_ { tk:=[23] };refine zE (nT ?_) { tk:=[23] };obtain ⟨q,g,h⟩:=a0a h;obtain ⟨l,m⟩:=fzI hA g;refine AWp.freeze (s:=2) (i:=3) rfl rfl l m ?_;refine zr ?_;cases soI h;exact zq
 replace h:=(eR h);refine zC (b7J hA a) ?_ { tk:=[23] };obtain ⟨w,e,h⟩:=a0a h;refine zC (c0l hA e) ?_ { tk:=[23] };refine zE (nT (zr ?_)) { tk:=[23] };cases soI h;exact zq

theorem c1Q {A:Ar} (hA:SA A) {e g i j l:Int} {k:Bool} (h:N89 A e g i j l=some k):a0g Tryz.prog 89 [.d (.agg [.int .i64 e,.int .i64 g]),.d (.agg [.int .i64 i,.int .i64 j,.int .i64 l])] [] (.d (.bool k)) []:=by
 unfold N89 at h;refine zI Tryz.func89 ?_;refine zs (zA (nT (zs ?_)));obtain ⟨m,a,h⟩:=a0a h;refine zN [4] [] 0 (fun τ=>τ=⟨[(4,.d (.bool m))],[],24⟩) ?_ ?_
 ·rcases tf (A.zeq e i) with b | b
  ·replace a:=cT b a;rcases tf (A.zle j g) with c | c
   ·replace a:=cT c a;refine zB ?_ { tk:=[23] };cases soI a;exact zO
   replace a:=cF c a;refine zB ?_ { tk:=[23] };cases soI a;exact zO
  replace a:=cF b a;refine zB ?_ { tk:=[23] };cases soI a;exact zO
 rintro _ rfl;refine nT (zr ?_);cases soI h;exact zq

theorem c1R {A:Ar} (hA:SA A) {g i a b c:Int} {e:Bool} (h:N88 A g i a b c=some e):a0g Tryz.prog 88 [.d (.agg [.int .i64 g,.int .i64 i]),.ptr 0 0] [.cells [zi a,zi b,zi c]] (.d (.bool e)) [.cells [zi a,zi b,zi c]]:=by
 unfold N88 at h;refine zI Tryz.func88 ?_;refine zs (zA (nT (zs (zn ?_))));obtain ⟨k,j,h⟩:=a0a h;refine zC (c1Q hA j) ?_ { tk:=[6] };refine zE (nT (zr ?_)) { tk:=[6] };cases soI h;exact zq

theorem c0m {A:Ar} (hA:SA A) {c:List D} {e g i m:Int} (h:b9t A c e g i=some m):a0g Tryz.prog 119 [zl 2 c,(.func 88 [] [.ptr 0 0])] [.cells [zi e,zi g,zi i]] (zi m) [.cells [zi e,zi g,zi i]]:=by
 unfold b9t at h;refine zI Tryz.func119 ?_;refine zs (zA (nT (zs (zs ?_))));refine zA (nT (zb ?_));obtain ⟨C,s,p,o,b⟩:=a0E h;refine zM 0 [] [] 1 (fun τ=>p (.inl ())=some m/\τ=⟨[],[.cells [zi e,zi g,zi i]],19⟩) ?_ ?_
 ·refine zP s [0,1,7,8] [] 1 (fun l=>⟨[(0,zl 2 c),(1,(.func 88 [] [.ptr 0 0])),(7,(.d (.int .i64 (A.len c)))),(8,zi l)],[.cells [zi e,zi g,zi i]],19⟩) ⟨rfl,zc⟩ ?_;rintro l y a;dsimp only [a7z] at a;refine zs (zA (nT (zs ?_)));rcases tf (A.zlt l (A.len c)) with j | j
  ·replace a:=cT j a;refine zT (zk (nT (zs (zb (zs ?_)))));refine zB (nT (zs (zn ?_))) { tk:=[8,10] };obtain ⟨⟨v,w⟩,q,a⟩:=a0a a;obtain ⟨z,B⟩:=gtI q;obtain ⟨u,r,a⟩:=a0a a;refine zD (c1R hA r) ?_;refine zF (nT ?_);rcases tf u with k | k
   ·replace a:=cT k a;refine zT (zs ?_);refine zB (nT (zr (rB (rT (rT ?_))))) { tk:=[5,17] };refine exL a ?_;rintro rfl;refine oxR ?_;replace b:=(eR (o _ b));refine rB (rT ?_);cases soI b;exact zq
   replace a:=cF k a;refine zU (zk (nB (nT ?_)));refine zB ?_ { tk:=[18] };exact nT ⟨_,(soI a).symm,rfl,zv⟩
  replace a:=cF j a;refine zU (AWp.exit (xT (xT ?_)));refine exL a ?_;rintro rfl;exact oxI ⟨rfl,b,zv⟩
 rintro _ ⟨b,rfl⟩;have h:=(eL (o _ b));refine xB (nT (zs (zA (nT (zr ?_)))));cases soI h;exact zq

theorem c1S {A:Ar} (hA:SA A) {g:List D} {a b c:Int} {e:Bool} (h:N87 A g a b c=some e):a0g Tryz.prog 87 [zl 2 g,(.func 88 [] [.ptr 0 0])] [.cells [zi a,zi b,zi c]] (.d (.bool e)) [.cells [zi a,zi b,zi c]]:=by
 unfold N87 at h;refine zI Tryz.func87 ?_;refine zs (zA (nT (zs (zn ?_))));obtain ⟨j,i,h⟩:=a0a h;refine zC (c0m hA i) ?_ { tk:=[8] };refine zE (nT (zr ?_)) { tk:=[8] };cases soI h;exact zq

theorem c1T {A:Ar} (hA:SA A) {b:List D} {c e g:Int} {a:Bool} (h:N51 A b c e g=some a):a0g Tryz.prog 51 [zl 2 b,.d (.agg [.int .i64 c,.int .i64 e,.int .i64 g])] [] (.d (.bool a)) []:=by
 unfold N51 at h;refine zI Tryz.func51 ?_;refine zs (zA (nT (zs (zn ?_))) { esc:=[3] });obtain ⟨j,i,h⟩:=a0a h;refine zC (c1S hA i) ?_ { tk:=[7] };refine zE (nT (zr ?_)) { tk:=[7] };cases soI h;exact zq

theorem c1U {A:Ar} (hA:SA A) {c e g:Int} {a:List D} {b:Bool} (h:N50 A c e g a=some b):a0g Tryz.prog 50 [.d (.agg [.int .i64 c,.int .i64 e,.int .i64 g]),.ptr 0 0] [.cells [zl 2 a]] (.d (.bool b)) [.cells [zl 2 a]]:=by
 unfold N50 at h;refine zI Tryz.func50 ?_;refine zs (zA (nT (zs (zn ?_))));obtain ⟨j,i,h⟩:=a0a h;refine zC (c1T hA i) ?_ { tk:=[7] };refine zE (nT (zr ?_)) { tk:=[7] };cases soI h;exact zq

theorem c0n {A:Ar} (hA:SA A) {c e:List D} {k:Int} (h:b9u A c e=some k):a0g Tryz.prog 86 [zl 3 c,(.func 50 [] [.ptr 0 0])] [.cells [zl 2 e]] (zi k) [.cells [zl 2 e]]:=by
 unfold b9u at h;refine zI Tryz.func86 ?_;refine zs (zA (nT (zs (zs ?_))));refine zA (nT (zb ?_));obtain ⟨B,q,m,l,b⟩:=a0E h;refine zM 0 [] [] 1 (fun τ=>m (.inl ())=some k/\τ=⟨[],[.cells [zl 2 e]],19⟩) ?_ ?_
 ·refine zP q [0,1,7,8] [] 1 (fun j=>⟨[(0,zl 3 c),(1,(.func 50 [] [.ptr 0 0])),(7,(.d (.int .i64 (A.len c)))),(8,zi j)],[.cells [zl 2 e]],19⟩) ⟨rfl,zc⟩ ?_;rintro j w a;dsimp only [a7A] at a;refine zs (zA (nT (zs ?_)));rcases tf (A.zlt j (A.len c)) with g | g
  ·replace a:=cT g a;refine zT (zk (nT (zs (zb (zs ?_)))));refine zB (nT (zs (zn ?_))) { tk:=[8,10] };obtain ⟨⟨s,u,v⟩,o,a⟩:=a0a a;obtain ⟨y,z⟩:=gtI o;obtain ⟨r,p,a⟩:=a0a a;refine zD (c1U hA p) ?_;refine zF (nT ?_);rcases tf r with i | i
   ·replace a:=cT i a;refine zT (zs ?_);refine zB (nT (zr (rB (rT (rT ?_))))) { tk:=[5,17] };refine exL a ?_;rintro rfl;refine oxR ?_;replace b:=(eR (l _ b));refine rB (rT ?_);cases soI b;exact zq
   replace a:=cF i a;refine zU (zk (nB (nT ?_)));refine zB ?_ { tk:=[18] };exact nT ⟨_,(soI a).symm,rfl,zv⟩
  replace a:=cF g a;refine zU (AWp.exit (xT (xT ?_)));refine exL a ?_;rintro rfl;exact oxI ⟨rfl,b,zv⟩
 rintro _ ⟨b,rfl⟩;have h:=(eL (l _ b));refine xB (nT (zs (zA (nT (zr ?_)))));cases soI h;exact zq

theorem c0o {A:Ar} (hA:SA A) {c a:List D} {b:Bool} (h:b9v A c a=some b):a0g Tryz.prog 49 [zl 3 c,(.func 50 [] [.ptr 0 0])] [.cells [zl 2 a]] (.d (.bool b)) [.cells [zl 2 a]]:=by
 unfold b9v at h;refine zI Tryz.func49 ?_;refine zs (zA (nT (zs (zn ?_))));obtain ⟨g,e,h⟩:=a0a h;refine zC (c0n hA e) ?_ { tk:=[8] };refine zE (nT (zr ?_)) { tk:=[8] };cases soI h;exact zq

theorem c1V {A:Ar} (hA:SA A) {b c:List D} {a:Bool} (h:N25 A b c=some a):a0g Tryz.prog 25 [zl 2 b,zl 3 c] [] (.d (.bool a)) []:=by
 unfold N25 at h;refine zI Tryz.func25 ?_;refine zs (zA (nT (zs (zn ?_))) { esc:=[2] });obtain ⟨g,e,h⟩:=a0a h;refine zC (c0o hA e) ?_ { tk:=[8] };refine zE (nT (zr ?_)) { tk:=[8] };cases soI h;exact zq

theorem N7w {A:Ar} (hA:SA A) {i j:List D} {e:Bool} {g:Int} (h:N7 A i j=some (e,g)):a0g Tryz.prog 7 [zl 1 i,zl 2 j] [] (.tuple [.d (.bool e),zi g]) []:=by
 unfold N7 at h;refine zI Tryz.func7 ?_;refine zs (zA (nT (zs (zn ?_))));obtain ⟨⟨q,c⟩,k,h⟩:=a0a h;refine zC (c1p hA k) ?_;refine zE (nT (zs ?_));obtain ⟨o,a,h⟩:=a0a h;refine zN [4,5] [] 0 (fun τ=>τ=⟨[(4,.d (.bool o)),(5,zi c)],[],23⟩) ?_ ?_
 ·refine zn ?_;rcases tf (A.zeq c 0) with b | b
  ·replace a:=cT b a;obtain ⟨r,l,a⟩:=a0a a;refine zD (c1P hA l) ?_;obtain ⟨p,m,a⟩:=a0a a;refine zD (c1V hA m) ?_;refine zF ?_;cases soI a;exact zO
  replace a:=cF b a;refine zF ?_;cases soI a;exact zO
 rintro _ rfl;refine nT (zr ?_);cases soI h;exact zq

theorem c1W {A:Ar} (hA:SA A) {c p:List D} (h:N27 A c=some p):a0g Tryz.prog 27 [zl 1 c] [] (.own 2 p) []:=by
 unfold N27 at h;refine zI Tryz.func27 ?_;refine zs (zA (nT (zs ?_)));refine zA (nT (zs (zs ?_)));refine zA (nT (zb ?_));obtain ⟨P,F,v,C,k⟩:=a0E h;refine zM 0 [3] [] 0 (fun τ => ∃ o,v o=some p/\τ=⟨[(3,(.own 2 o))],[],28⟩) ?_ ?_
 ·refine zP F [3,7,8,9] [] 0 (fun (r,e)=>⟨[(3,(.own 2 r)),(7,zl 1 c),(8,(.d (.int .i64 (A.len c)))),(9,zi e)],[],28⟩) ⟨rfl,zc⟩ ?_;rintro ⟨r,e⟩ z a;dsimp only [b0s] at a;refine zs (zA (nT (zs ?_)));rcases tf (A.zlt e (A.len c)) with g | g
  ·replace a:=cT g a;refine zT (zk (nT (zs (zb (zs ?_)))));obtain ⟨q,w,a⟩:=a0a a;obtain ⟨J,K⟩:=gtI w;refine zB (nT (zs ?_));refine zB (nT (zb ?_));obtain ⟨O,E,u,B,j⟩:=a0E a;refine zM 2 [3,7,8,9] [] 0 (fun τ => ∃ m,u m=some z/\τ=⟨[(3,(.own 2 m)),(7,zl 1 c),(8,(.d (.int .i64 (A.len c)))),(9,zi e)],[],28⟩) ?_ ?_
   ·refine zP E [3,4,7,8,9,15,16] [] 0 (fun (s,l)=>⟨[(3,(.own 2 s)),(4,zi e),(7,zl 1 c),(8,(.d (.int .i64 (A.len c)))),(9,zi e),(15,(.d (.int .i64 (A.len q)))),(16,zi l)],[],28⟩) ⟨rfl,zv⟩ ?_;rintro ⟨s,l⟩ G b;dsimp only [b0r] at b;refine zs (zA (nT (zs ?_)));rcases tf (A.zlt l (A.len q)) with i | i
    ·replace b:=cT i b;refine zT (zk (nT (zs (zb (zs ?_)))));refine zB (nT ?_);obtain ⟨N,y,b⟩:=a0a b;obtain ⟨L,M⟩:=apI y;refine zB (nB (nT ?_)) { tk:=[3,24] };refine zB ?_;exact nT ⟨_,(soI b).symm,rfl,zv⟩
    replace b:=cF i b;refine zU (AWp.exit (xT (xT ?_)));refine exL b ?_;rintro rfl;exact oxI ⟨rfl,_,j,zv⟩
   rintro _ ⟨m,j,rfl⟩;have a:=(B _ j);refine xB (nB (nT (zA ?_)));exact nT ⟨_,(soI a).symm,rfl,zc⟩
  replace a:=cF g a;refine zU (AWp.exit (xT (xT ?_)));refine exL a ?_;rintro rfl;exact oxI ⟨rfl,_,k,zv⟩
 rintro _ ⟨o,k,rfl⟩;have h:=(C _ k);refine xB (nT (zs (zA (nT (zr ?_)) { tk:=[3,27] })));cases soI h;exact zq

theorem N8w {A:Ar} (hA:SA A) {b R J:List D} {K:Int} (h:N8 A b R=some (J,K)):a0g Tryz.prog 8 [zl 1 b,zl 2 R] [] (.tuple [zl 1 J,zi K]) []:=by
 unfold N8 at h;refine zI Tryz.func8 ?_;refine zs (zA (nT (zs (zn ?_))));obtain ⟨⟨l,L⟩,e3,h⟩:=a0a h;refine zC (c1p hA e3) ?_;refine zE (nT (zs (zs ?_)));obtain ⟨Q,g,h⟩:=a0a h;refine zN [0,6,7,29] [] 0 (fun τ=>τ=⟨[(0,zl 1 b),(6,zl 2 l),(7,zi L),(29,.d (.bool Q))],[],79⟩) ?_ ?_
 ·refine zn ?_;rcases tf (A.zeq L 0) with w | w
  ·replace g:=cT w g;obtain ⟨r8,e7,g⟩:=a0a g;refine zD (c1W hA e7) ?_;refine zF ?_;cases soI g;exact zO
  replace g:=cF w g;refine zF ?_;cases soI g;exact zO
 rintro _ rfl;refine nT ?_;obtain ⟨N,m,h⟩:=a0a h;refine zN [0,6,7] [] 0 (fun τ=>τ=⟨[(0,zl 1 b),(6,zl 2 l),(7,zi N)],[],79⟩) ?_ ?_
 ·rcases tf Q with q | q
  ·replace m:=cT q m;refine zT ?_;refine zB ?_;cases soI m;exact zO
  replace m:=cF q m;refine zU (zk ?_);cases soI m;exact zO
 rintro _ rfl;refine nT (zs (zs (zA (nT ?_))));rcases tf (A.zeq N 0) with v | v
 ·replace h:=cT v h;refine zU (zk (nT (zs ?_)));refine zB (nT (zs ?_));refine zB (nT (zs (zs ?_)));refine zB (nT (zb ?_));obtain ⟨k1,l0,U,j0,B⟩:=a0E h;refine zM 0 [9] [] 0 (fun τ => ∃ G,U G=some (J,K)/\τ=⟨[(9,(.own 1 G))],[],79⟩) ?_ ?_
  ·refine zP l0 [6,8,9,33,34,35] [] 0 (fun (P,p,e)=>⟨[(6,zl 2 l),(8,zi P),(9,(.own 1 p)),(33,zl 1 b),(34,(.d (.int .i64 (A.len b)))),(35,zi e)],[],79⟩) ⟨rfl,zv⟩ ?_;rintro ⟨P,p,e⟩ g0 c;dsimp only [b7f] at c;refine zs (zA (nT (zs ?_)));rcases tf (A.zlt e (A.len b)) with y | y
   ·replace c:=cT y c;refine zT (zk (nT (zs (zb (zs ?_)))));obtain ⟨k,e0,c⟩:=a0a c;obtain ⟨c1,d1⟩:=gtI e0;refine zB (nT (zs ?_));refine zB (nT (zs (zs ?_)));refine zB (nT (zb ?_));obtain ⟨j1,k0,S,i0,z⟩:=a0E c;refine zM 2 [6,8,9,12,33,34,35] [] 0 (fun τ => ∃ E F,S (E,F)=some g0/\τ=⟨[(6,zl 2 l),(8,zi E),(9,(.own 1 p)),(12,(.own 3 F)),(33,zl 1 b),(34,(.d (.int .i64 (A.len b)))),(35,zi e)],[],79⟩) ?_ ?_
    ·refine zP k0 [6,8,9,10,12,33,34,35,40,41,42] [] 0 (fun (M,C,o)=>⟨[(6,zl 2 l),(8,zi M),(9,(.own 1 p)),(10,zi e),(12,(.own 3 C)),(33,zl 1 b),(34,(.d (.int .i64 (A.len b)))),(35,zi e),(40,zl 2 k),(41,(.d (.int .i64 (A.len k)))),(42,zi o)],[],79⟩) ⟨rfl,zv⟩ ?_;rintro ⟨M,C,o⟩ q0 a;dsimp only [b5K] at a;refine zs (zA (nT (zs ?_)));rcases tf (A.zlt o (A.len k)) with r | r
     ·replace a:=cT r a;refine zT (zk (nT (zs (zb (zs ?_)))));obtain ⟨⟨V,W⟩,X,a⟩:=a0a a;obtain ⟨r0,s0⟩:=gtI X;refine zB (nT (zs ?_)) { tk:=[46] };refine zB (nT (zs (zs ?_))) { tk:=[49] };refine zB (nT ?_);obtain ⟨⟨O,n0,o0⟩,i,a⟩:=a0a a;refine zN [6,8,9,10,12,13,15,33,34,35,40,41,42] [] 0 (fun τ=>τ=⟨[(6,zl 2 l),(8,zi O),(9,(.own 1 p)),(10,zi e),(12,(.own 3 C)),(13,zi o),(15,(.lbox [zi n0,zi V,zi o0])),(33,zl 1 b),(34,(.d (.int .i64 (A.len b)))),(35,zi e),(40,zl 2 k),(41,(.d (.int .i64 (A.len k)))),(42,zi o)],[],79⟩) ?_ ?_
      ·rcases tf W with s | s
       ·replace i:=cT s i;refine zT (zs ?_);obtain ⟨_,Y,i⟩:=a0a i;have u0:=nkI Y;refine zB (nT ?_);refine zB ?_;cases soI i;exact zO
       replace i:=cF s i;refine zU (zk ?_);cases soI i;exact zO
      rintro _ rfl;refine nT (zs ?_);obtain ⟨e1,a0,a⟩:=a0a a;obtain ⟨v0,w0⟩:=apI a0;refine zB (nT (zs (zn ?_))) { tk:=[12,62] };obtain ⟨m0,b0,a⟩:=a0a a;refine zC (c1n hA b0) ?_;refine zE (nT ?_);obtain ⟨p0,j,a⟩:=a0a a;refine zN [6,8,9,10,12,33,34,35,40,41,42] [] 0 (fun τ=>τ=⟨[(6,zl 2 l),(8,zi O),(9,(.own 1 p)),(10,zi e),(12,(.own 3 p0)),(33,zl 1 b),(34,(.d (.int .i64 (A.len b)))),(35,zi e),(40,zl 2 k),(41,(.d (.int .i64 (A.len k)))),(42,zi o)],[],79⟩) ?_ ?_
      ·rcases tf m0 with u | u
       ·replace j:=cT u j;refine zT ?_;obtain ⟨g1,c0,j⟩:=a0a j;obtain ⟨y0,z0⟩:=apI c0;refine zB ?_ { tk:=[12,71] };cases soI j;exact zO
       replace j:=cF u j;refine zU (zk ?_);cases soI j;exact zO
      rintro _ rfl;refine nB (nT (zA ?_));exact nT ⟨_,(soI a).symm,rfl,zc⟩
     replace a:=cF r a;refine zU (AWp.exit (xT (xT ?_)));refine exL a ?_;rintro rfl;exact oxI ⟨rfl,_,_,z,zv⟩
    rintro _ ⟨E,F,z,rfl⟩;have c:=(i0 _ z);refine xB (nT ?_);obtain ⟨i1,d0,c⟩:=a0a c;obtain ⟨a1,b1⟩:=apI d0;refine zB (nB (nT ?_)) { tk:=[9,76] };refine zA ?_;exact nT ⟨_,(soI c).symm,rfl,zc⟩
   replace c:=cF y c;refine zU (AWp.exit (xT (xT ?_)));refine exL c ?_;rintro rfl;exact oxI ⟨rfl,_,B,zv⟩
  rintro _ ⟨G,B,rfl⟩;have h:=(j0 _ B);refine xB (nT (zs (zA (nT (zr ?_)))));cases soI h;exact zq
 replace h:=cF v h;refine zT (zs ?_);refine zB (nT (zr (rT ?_)));cases soI h;exact zq

theorem b9z {A:Ar} (hA:SA A) {c e i:Int} {g:Bool} (h:N97 A c e i=some g):a0g Tryz.prog 97 [zi c,zi e,zi i] [] (.d (.bool g)) []:=by
 unfold N97 at h;refine zI Tryz.func97 ?_;refine zs (zA (nT (zs ?_)));obtain ⟨j,a,h⟩:=a0a h;refine zN [6] [] 0 (fun τ=>τ=⟨[(6,.d (.bool j))],[],15⟩) ?_ ?_
 ·rcases tf (A.zle c e) with b | b
  ·replace a:=cT b a;refine zB ?_ { tk:=[14] };cases soI a;exact zO
  replace a:=cF b a;refine zB ?_ { tk:=[14] };cases soI a;exact zO
 rintro _ rfl;refine nT (zr ?_);cases soI h;exact zq

theorem c1X {A:Ar} (hA:SA A) {c l m:Int} {k:Bool} (h:N94 A c l m=some k):a0g Tryz.prog 94 [.d (.agg [.int .i64 c,.int .i64 l,.int .i64 m])] [] (.d (.bool k)) []:=by
 unfold N94 at h;refine zI Tryz.func94 ?_;refine zs (zA (nT (zs (zs ?_))));refine zA (nT (zb (zs ?_)));refine zA (nT ?_);rcases tf (A.zeq c 1) with i | i
 ·replace h:=cT i h;refine zT (zs ?_);obtain ⟨v,b,h⟩:=a0a h;refine zN [2] [] 0 (fun τ=>τ=⟨[(2,.d (.bool v))],[],28⟩) ?_ ?_
  ·refine zn ?_;obtain ⟨s,q,b⟩:=a0a b;refine zD (b9z hA q) ?_ { tk:=[14] };rcases tf s with j | j
   ·replace b:=cT j b;refine zF ?_ { tk:=[14] };cases soI b;exact zO
   replace b:=cF j b;refine zF ?_ { tk:=[14] };cases soI b;exact zO
  rintro _ rfl;refine nT (zr (rB (rT ?_)));cases soI h;exact zq
 replace h:=cF i h;refine zU (zs ?_);refine zB (nT ?_);rcases tf (A.zeq c 2) with e | e
 ·replace h:=cT e h;refine zT (zs ?_);obtain ⟨u,a,h⟩:=a0a h;refine zN [2] [] 0 (fun τ=>τ=⟨[(2,.d (.bool u))],[],28⟩) ?_ ?_
  ·refine zn ?_;obtain ⟨r,o,a⟩:=a0a a;refine zD (b9z hA o) ?_ { tk:=[24] };rcases tf r with g | g
   ·replace a:=cT g a;obtain ⟨w,p,a⟩:=a0a a;refine zD (b9z hA p) ?_ { tk:=[24] };refine zF ?_ { tk:=[24] };cases soI a;exact zO
   replace a:=cF g a;refine zF ?_ { tk:=[24] };cases soI a;exact zO
  rintro _ rfl;refine nT (zr (rB (rT ?_)));cases soI h;exact zq
 replace h:=cF e h;refine zU (zk (nB (nT (zs ?_))));refine zB (nT (zr ?_)) { tk:=[27] };cases soI h;exact zq

theorem c1Y {A:Ar} (hA:SA A) {b c e:Int} {a:Bool} (h:N93 A b c e=some a):a0g Tryz.prog 93 [.d (.agg [.int .i64 b,.int .i64 c,.int .i64 e])] [] (.d (.bool a)) []:=by
 unfold N93 at h;refine zI Tryz.func93 ?_;refine zs (zA (nT (zs (zn ?_))));obtain ⟨i,g,h⟩:=a0a h;refine zC (c1X hA g) ?_ { tk:=[5] };refine zE (nT (zr ?_)) { tk:=[5] };cases soI h;exact zq

theorem c0p {A:Ar} (hA:SA A) {c:List D} {j:Int} (h:b7q A c=some j):a0g Tryz.prog 121 [zl 3 c,(.func 93 [] [])] [] (zi j) []:=by
 unfold b7q at h;refine zI Tryz.func121 ?_;refine zs (zA (nT (zs (zs ?_))));refine zA (nT (zb ?_));obtain ⟨z,p,l,k,b⟩:=a0E h;refine zM 0 [] [] 0 (fun τ=>l (.inl ())=some j/\τ=⟨[],[],19⟩) ?_ ?_
 ·refine zP p [0,1,7,8] [] 0 (fun i=>⟨[(0,zl 3 c),(1,(.func 93 [] [])),(7,(.d (.int .i64 (A.len c)))),(8,zi i)],[],19⟩) ⟨rfl,zc⟩ ?_;rintro i v a;dsimp only [a9C] at a;refine zs (zA (nT (zs ?_)));rcases tf (A.zlt i (A.len c)) with e | e
  ·replace a:=cT e a;refine zT (zk (nT (zs (zb (zs ?_)))));refine zB (nT (zs (zn ?_))) { tk:=[8,10] };obtain ⟨⟨r,s,u⟩,m,a⟩:=a0a a;obtain ⟨w,y⟩:=gtI m;obtain ⟨q,o,a⟩:=a0a a;refine zD (c1Y hA o) ?_;refine zF (nT ?_);rcases tf q with g | g
   ·replace a:=cT g a;refine zT (zs ?_);refine zB (nT (zr (rB (rT (rT ?_))))) { tk:=[5,17] };refine exL a ?_;rintro rfl;refine oxR ?_;replace b:=(eR (k _ b));refine rB (rT ?_);cases soI b;exact zq
   replace a:=cF g a;refine zU (zk (nB (nT ?_)));refine zB ?_ { tk:=[18] };exact nT ⟨_,(soI a).symm,rfl,zv⟩
  replace a:=cF e a;refine zU (AWp.exit (xT (xT ?_)));refine exL a ?_;rintro rfl;exact oxI ⟨rfl,b,zv⟩
 rintro _ ⟨b,rfl⟩;have h:=(eL (k _ b));refine xB (nT (zs (zA (nT (zr ?_)))));cases soI h;exact zq

theorem c1Z {A:Ar} (hA:SA A) {b:List D} {a:Bool} (h:N92 A b=some a):a0g Tryz.prog 92 [zl 3 b,(.func 93 [] [])] [] (.d (.bool a)) []:=by
 unfold N92 at h;refine zI Tryz.func92 ?_;refine zs (zA (nT (zs (zn ?_))));obtain ⟨e,c,h⟩:=a0a h;refine zC (c0p hA c) ?_ { tk:=[8] };refine zE (nT (zr ?_)) { tk:=[8] };cases soI h;exact zq

theorem c2a {A:Ar} (hA:SA A) {b c e:Int} {a:Bool} (h:N96 A b c e=some a):a0g Tryz.prog 96 [.d (.agg [.int .i64 b,.int .i64 c,.int .i64 e])] [] (.d (.bool a)) []:=by
 unfold N96 at h;refine zI Tryz.func96 ?_;refine zs (zA (nT (zs ?_)));refine zA (nT (zr ?_)) { tk:=[5] };cases soI h;exact zq

theorem c1q {A:Ar} (hA:SA A) {b:List D} {l:Int} (h:N95 A b=some l):a0g Tryz.prog 95 [zl 3 b,(.func 96 [] [])] [] (zi l) []:=by
 unfold N95 at h;refine zI Tryz.func95 ?_;refine zs (zA (nT (zs ?_)));refine zA (nT (zs (zs ?_)));refine zA (nT (zb ?_));obtain ⟨F,s,o,r,j⟩:=a0E h;refine zM 0 [5] [] 0 (fun τ => ∃ k,o k=some l/\τ=⟨[(5,zi k)],[],21⟩) ?_ ?_
 ·refine zP s [1,5,8,9,10] [] 0 (fun (m,e)=>⟨[(1,(.func 96 [] [])),(5,zi m),(8,zl 3 b),(9,(.d (.int .i64 (A.len b)))),(10,zi e)],[],21⟩) ⟨rfl,zc⟩ ?_;rintro ⟨m,e⟩ B a;dsimp only [b1n] at a;refine zs (zA (nT (zs ?_)));rcases tf (A.zlt e (A.len b)) with g | g
  ·replace a:=cT g a;refine zT (zk (nT (zs (zb (zs ?_)))));obtain ⟨⟨w,y,z⟩,p,a⟩:=a0a a;obtain ⟨C,E⟩:=gtI p;refine zB (nT (zs (zn ?_))) { tk:=[13] };obtain ⟨u,q,a⟩:=a0a a;refine zD (c2a hA q) ?_;refine zF (nT ?_);obtain ⟨v,c,a⟩:=a0a a;refine zN [1,5,8,9,10] [] 0 (fun τ=>τ=⟨[(1,(.func 96 [] [])),(5,zi v),(8,zl 3 b),(9,(.d (.int .i64 (A.len b)))),(10,zi e)],[],21⟩) ?_ ?_
   ·rcases tf u with i | i
    ·replace c:=cT i c;refine zT ?_;refine zB ?_ { tk:=[18] };cases soI c;exact zO
    replace c:=cF i c;refine zU (zk ?_);cases soI c;exact zO
   rintro _ rfl;refine nB (nT (zA ?_));exact nT ⟨_,(soI a).symm,rfl,zc⟩
  replace a:=cF g a;refine zU (AWp.exit (xT (xT ?_)));refine exL a ?_;rintro rfl;exact oxI ⟨rfl,_,j,zv⟩
 rintro _ ⟨k,j,rfl⟩;have h:=(r _ j);refine xB (nT (zs (zA (nT (zr ?_)) { tk:=[5,20] })));cases soI h;exact zq

theorem c2b {A:Ar} (hA:SA A) {c:List D} {r:Bool} (h:N56 A c=some r):a0g Tryz.prog 56 [zl 1 c] [] (.d (.bool r)) []:=by
 unfold N56 at h;refine zI Tryz.func56 ?_;refine zs (zA (nT (zs ?_)));refine zA (nT (zs (zs ?_)));refine zA (nT (zb ?_));obtain ⟨Q,F,w,u,g⟩:=a0E h;refine zM 0 [0,3] [] 0 (fun τ => ∃ q,w (.inl q)=some r/\τ=⟨[(0,zl 1 c),(3,zi q)],[],36⟩) ?_ ?_
 ·refine zP F [0,3,6,7,8] [] 0 (fun (p,i)=>⟨[(0,zl 1 c),(3,zi p),(6,zl 1 c),(7,(.d (.int .i64 (A.len c)))),(8,zi i)],[],36⟩) ⟨rfl,zc⟩ ?_;rintro ⟨p,i⟩ L a;dsimp only [b0t] at a;refine zs (zA (nT (zs ?_)));rcases tf (A.zlt i (A.len c)) with j | j
  ·replace a:=cT j a;refine zT (zk (nT (zs (zb (zs ?_)))));obtain ⟨s,y,a⟩:=a0a a;obtain ⟨M,N⟩:=gtI y;refine zB (nT (zs (zs ?_)));obtain ⟨v,b,a⟩:=a0a a;refine zN [0,3,5,6,7,8,23] [] 0 (fun τ=>τ=⟨[(0,zl 1 c),(3,zi p),(5,zl 3 s),(6,zl 1 c),(7,(.d (.int .i64 (A.len c)))),(8,zi i),(23,.d (.bool v))],[],36⟩) ?_ ?_
   ·refine zn ?_;rcases tf (A.zlt 7 (A.len s)) with k | k
    ·replace b:=cT k b;refine zF ?_;cases soI b;exact zO
    replace b:=cF k b;obtain ⟨G,z,b⟩:=a0a b;refine zD (c1Z hA z) ?_;rcases tf G with l | l
    ·replace b:=cT l b;refine zF ?_;cases soI b;exact zO
    replace b:=cF l b;obtain ⟨O,B,b⟩:=a0a b;refine zD (c1q hA B) ?_;refine zF ?_;cases soI b;exact zO
   rintro _ rfl;refine nT ?_;rcases tf v with m | m
   ·replace a:=cT m a;refine zT (zs ?_);refine zB (nT (zr (rT (rB (rT (rT ?_))))));refine exL a ?_;rintro rfl;refine oxR ?_;replace g:=(eR (u _ g));refine rB (rT ?_);cases soI g;exact zq
   replace a:=cF m a;refine zU (zk (nT (zn ?_)));obtain ⟨P,C,a⟩:=a0a a;refine zD (c1q hA C) ?_;refine zF (nB (nT ?_));refine zB ?_;exact nT ⟨_,(soI a).symm,rfl,zv⟩
  replace a:=cF j a;refine zU (AWp.exit (xT (xT ?_)));refine exL a ?_;rintro rfl;exact oxI ⟨rfl,_,g,zv⟩
 rintro _ ⟨q,g,rfl⟩;have h:=(eL (u _ g));refine xB (nT (zs ?_));obtain ⟨K,e,h⟩:=a0a h;refine zN [2] [] 0 (fun τ=>τ=⟨[(2,.d (.bool K))],[],36⟩) ?_ ?_
 ·refine zn ?_;obtain ⟨J,E,e⟩:=a0a e;refine zC (b9z hA E) ?_ { tk:=[35] };rcases tf J with o | o
  ·replace e:=cT o e;refine zF ?_ { tk:=[35] };cases soI e;exact zO
  replace e:=cF o e;refine zF ?_ { tk:=[35] };cases soI e;exact zO
 rintro _ rfl;refine nT (zr ?_);cases soI h;exact zq

theorem c2c {A:Ar} (hA:SA A) {a g:Int} (h:N57 A a=some g):a0g Tryz.prog 57 [zi a] [] (.d (.iface g)) []:=by
 unfold N57 at h;refine zI Tryz.func57 ?_;refine zs (zA (nT (zs (zs ?_))));refine zA (nT (zb (zs ?_)));refine zA (nT ?_);rcases tf (A.zeq a 1) with b | b
 ·replace h:=cT b h;refine zT (zs ?_);refine zB (nT (zr (rB (rT ?_)))) { tk:=[7] };cases soI h;exact zq
 replace h:=cF b h;refine zU (zs ?_);refine zB (nT ?_);rcases tf (A.zeq a 2) with c | c
 ·replace h:=cT c h;refine zT (zs ?_);refine zB (nT (zr (rB (rT ?_)))) { tk:=[11] };cases soI h;exact zq
 replace h:=cF c h;refine zU (zs ?_);refine zB (nT ?_);rcases tf (A.zeq a 3) with e | e
 ·replace h:=cT e h;refine zT (zs ?_);refine zB (nT (zr (rB (rT ?_)))) { tk:=[15] };cases soI h;exact zq
 replace h:=cF e h;refine zU (zk (nB (nT (zs ?_))));refine zB (nT (zr ?_));cases soI h;exact zq

theorem c1r {A:Ar} (hA:SA A) {q c l:List D} {m:Int} (h:N29 A q c=some (l,m)):a0g Tryz.prog 29 [zl 1 q,zl 1 c] [] (.tuple [zl 1 l,zi m]) []:=by
 unfold N29 at h;refine zI Tryz.func29 ?_;refine zs (zA (nT (zs (zs (zn ?_)))));obtain ⟨B,w,h⟩:=a0a h;refine zC (c2b hA w) ?_;refine zE (nT ?_);rcases tf B with i | i
 ·replace h:=cT i h;refine zU (zk (nT (zs ?_)));refine zB (nT (zs (zs ?_)));refine zB (nT (zb ?_));obtain ⟨M,y,r,o,b⟩:=a0E h;refine zM 0 [6] [] 0 (fun τ => ∃ k,r (.inl k)=some (l,m)/\τ=⟨[(6,(.own 1 k))],[],29⟩) ?_ ?_
  ·refine zP y [6,13,14,15] [] 0 (fun (p,j)=>⟨[(6,(.own 1 p)),(13,zl 1 c),(14,(.d (.int .i64 (A.len c)))),(15,zi j)],[],29⟩) ⟨rfl,zv⟩ ?_;rintro ⟨p,j⟩ E a;dsimp only [b1o] at a;refine zs (zA (nT (zs ?_)));rcases tf (A.zlt j (A.len c)) with e | e
   ·replace a:=cT e a;refine zT (zk (nT (zs (zb (zs ?_)))));obtain ⟨C,s,a⟩:=a0a a;obtain ⟨F,G⟩:=gtI s;refine zB (nT (zs (zn ?_)));obtain ⟨z,u,a⟩:=a0a a;refine zD (c2c hA u) ?_;refine zF (nT (zs (zs ?_)));refine zB (nT ?_);rcases tf (A.zlt z 0) with g | g
    ·replace a:=cT g a;refine zT (zs ?_);refine zB (nT (zr (rT (rB (rT (rT ?_))))));refine exL a ?_;rintro rfl;refine oxR ?_;replace b:=(eR (o _ b));refine rB (rT ?_);cases soI b;exact zq
    replace a:=cF g a;refine zU (zk (nT ?_));obtain ⟨L,v,a⟩:=a0a a;obtain ⟨J,K⟩:=apI v;refine zB (nB (nT ?_)) { tk:=[6,26] };refine zB ?_;exact nT ⟨_,(soI a).symm,rfl,zv⟩
   replace a:=cF e a;refine zU (AWp.exit (xT (xT ?_)));refine exL a ?_;rintro rfl;exact oxI ⟨rfl,_,b,zv⟩
  rintro _ ⟨k,b,rfl⟩;have h:=(eL (o _ b));refine xB (nT (zs (zA (nT (zr ?_)))));cases soI h;exact zq
 replace h:=cF i h;refine zT (zs ?_);refine zB (nT (zr (rT ?_)));cases soI h;exact zq

theorem c2d {A:Ar} (hA:SA A) {g c:List D} {m:Bool} (h:N58 A g c=some m):a0g Tryz.prog 58 [.d (.agg g),zl 1 c] [] (.d (.bool m)) []:=by
 unfold N58 at h;refine zI Tryz.func58 ?_;refine zs ?_;obtain ⟨_,y,h⟩:=a0a h;have L:=ckI y;refine zB (nT (zs (zs ?_))) { arr:=[2] };refine zA (nT (zb ?_));obtain ⟨W,G,q,o,e⟩:=a0E h;refine zM 0 [] [] 1 (fun τ=>q (.inl ())=some m/\τ=⟨[],[(.arr 1 g)],31⟩) ?_ ?_
 ·refine zP G [1,2,7,8] [] 1 (fun i=>⟨[(1,zl 1 c),(2,.ptr 0 0),(7,(.d (.int .i64 (A.len c)))),(8,zi i)],[(.arr 1 g)],31⟩) ⟨rfl,zc⟩ ?_;rintro i K b;dsimp only [b1p] at b;refine zs (zA (nT (zs ?_)));rcases tf (A.zlt i (A.len c)) with j | j
  ·replace b:=cT j b;refine zT (zk (nT (zs (zb (zs ?_)))));refine zB (nT (zs ?_));obtain ⟨p,a,b⟩:=a0a b;refine zN [1,2,7,8,29] [] 1 (fun τ=>τ=⟨[(1,zl 1 c),(2,.ptr 0 0),(7,(.d (.int .i64 (A.len c)))),(8,zi i),(29,.d (.bool p))],[(.arr 1 g)],31⟩) ?_ ?_
   ·obtain ⟨_,u,a⟩:=a0a a;have M:=ckI u;obtain ⟨_,v,a⟩:=a0a a;have N:=ckI v;obtain ⟨r,w,a⟩:=a0a a;have O:=gcI w;obtain ⟨s,z,a⟩:=a0a a;obtain ⟨P,Q⟩:=gtI z;obtain ⟨_,B,a⟩:=a0a a;have R:=nkI B;rcases tf (A.zeq r (A.wrp .u8 (A.zsub (A.shl .u8 1 (A.len s)) 1))) with k | k
    ·replace a:=cT k a;obtain ⟨_,C,a⟩:=a0a a;have S:=ckI C;obtain ⟨_,E,a⟩:=a0a a;have U:=ckI E;obtain ⟨J,F,a⟩:=a0a a;have V:=gcI F;refine zH ?_;cases soI a;exact zO
    replace a:=cF k a;refine zH ?_;cases soI a;exact zO
   rintro _ rfl;refine nT ?_;rcases tf p with l | l
   ·replace b:=cT l b;refine zT (zs ?_);refine zB (nT (zr (rB (rT (rT ?_)))));refine exL b ?_;rintro rfl;refine oxR ?_;replace e:=(eR (o _ e));refine rB (rT ?_);cases soI e;exact zq
   replace b:=cF l b;refine zU (zk (nB (nT ?_)));refine zB ?_;exact nT ⟨_,(soI b).symm,rfl,zv⟩
  replace b:=cF j b;refine zU (AWp.exit (xT (xT ?_)));refine exL b ?_;rintro rfl;exact oxI ⟨rfl,e,zv⟩
 rintro _ ⟨e,rfl⟩;have h:=(eL (o _ e));refine xB (nT (zs (zA (nT (zr ?_)))));cases soI h;exact zq

theorem c2e {A:Ar} (hA:SA A) {b c e:Int} {a:Bool} (h:N98 A b c e=some a):a0g Tryz.prog 98 [.d (.agg [.int .i64 b,.int .i64 c,.int .i64 e])] [] (.d (.bool a)) []:=by
 unfold N98 at h;refine zI Tryz.func98 ?_;refine zs (zA (nT (zs ?_)));refine zA (nT (zr ?_)) { tk:=[5] };cases soI h;exact zq

theorem b5N {A:Ar} (hA:SA A) {b:List D} {l:Int} (h:b5L A b=some l):a0g Tryz.prog 95 [zl 3 b,(.func 98 [] [])] [] (zi l) []:=by
 unfold b5L at h;refine zI Tryz.func95 ?_;refine zs (zA (nT (zs ?_)));refine zA (nT (zs (zs ?_)));refine zA (nT (zb ?_));obtain ⟨F,s,o,r,j⟩:=a0E h;refine zM 0 [5] [] 0 (fun τ => ∃ k,o k=some l/\τ=⟨[(5,zi k)],[],21⟩) ?_ ?_
 ·refine zP s [1,5,8,9,10] [] 0 (fun (m,e)=>⟨[(1,(.func 98 [] [])),(5,zi m),(8,zl 3 b),(9,(.d (.int .i64 (A.len b)))),(10,zi e)],[],21⟩) ⟨rfl,zc⟩ ?_;rintro ⟨m,e⟩ B a;dsimp only [a7B] at a;refine zs (zA (nT (zs ?_)));rcases tf (A.zlt e (A.len b)) with g | g
  ·replace a:=cT g a;refine zT (zk (nT (zs (zb (zs ?_)))));obtain ⟨⟨w,y,z⟩,p,a⟩:=a0a a;obtain ⟨C,E⟩:=gtI p;refine zB (nT (zs (zn ?_))) { tk:=[13] };obtain ⟨u,q,a⟩:=a0a a;refine zD (c2e hA q) ?_;refine zF (nT ?_);obtain ⟨v,c,a⟩:=a0a a;refine zN [1,5,8,9,10] [] 0 (fun τ=>τ=⟨[(1,(.func 98 [] [])),(5,zi v),(8,zl 3 b),(9,(.d (.int .i64 (A.len b)))),(10,zi e)],[],21⟩) ?_ ?_
   ·rcases tf u with i | i
    ·replace c:=cT i c;refine zT ?_;refine zB ?_ { tk:=[18] };cases soI c;exact zO
    replace c:=cF i c;refine zU (zk ?_);cases soI c;exact zO
   rintro _ rfl;refine nB (nT (zA ?_));exact nT ⟨_,(soI a).symm,rfl,zc⟩
  replace a:=cF g a;refine zU (AWp.exit (xT (xT ?_)));refine exL a ?_;rintro rfl;exact oxI ⟨rfl,_,j,zv⟩
 rintro _ ⟨k,j,rfl⟩;have h:=(r _ j);refine xB (nT (zs (zA (nT (zr ?_)) { tk:=[5,20] })));cases soI h;exact zq

theorem c2f {A:Ar} (hA:SA A) {c d:Int} {a b:List D} (h:N99 A c d a=some b):a0g Tryz.prog 99 [.mref 0 1 c d] [(.arr 1 a)] (.own 1 b) [(.arr 1 a)]:=by
 unfold N99 at h;refine zI Tryz.func99 ?_;refine zs (zA (nT (zs (zs ?_))));refine zA (nT ?_);refine zU (zk (nT (zs ?_)));obtain ⟨_,g,h⟩:=a0a h;have k:=ckI g;obtain ⟨l,e,h⟩:=a0a h;obtain ⟨i,j⟩:=apI e;refine zB (nT (zr ?_)) { tk:=[7] };cases soI h;exact zq
end Go.Am
