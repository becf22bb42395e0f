import Derived.Test.YtlljehkmemajkaaGreatGenw1
set_option maxRecDepth 100000
set_option maxHeartbeats 2000000
set_option linter.unusedVariables false
set_option linter.unusedSimpArgs false
namespace Go.Am
open Go Go.Proofs
theorem c2U {A:Ar} (hA:SA A) {b:List D} {c:List (D×D)} {m:List D} (h:c2a A b c=some m):a0e Tryz.prog 52 [zl 3 b,(.func 54 [] [.ptr 1 0])] [(.map true [.int .i64,.int .i64,.int .i64] c),(.cells [(.map 0)])] (zl 3 m) [(.map true [.int .i64,.int .i64,.int .i64] c),(.cells [(.map 0)])]:=by
 unfold c2a at h;refine zI Tryz.func52 ?_;refine zs (zA (nT (zs (zn ?_))));obtain ⟨k,q,h⟩:=a0a h;refine zC (c2T hA q) ?_;refine zE (nT (zs (zs ?_)));refine zA (nT ?_);rcases tf (A.zeq k (-1)) with i | i
 ·replace h:=cT i h;refine zT (zs ?_);refine zB (nT (zr (rT ?_))) { tk:=[0,13] };cases soI h;exact zq
 replace h:=cF i h;refine zU (zk (nT (zs (zs ?_))));refine zB (nT (zb ?_));obtain ⟨U,w,o,v,j⟩:=a0m h;refine zM 0 [0,5] [] 2 (fun τ=>o ()=some m/\τ=⟨[(0,zl 3 b),(5,zi k)],[(.map true [.int .i64,.int .i64,.int .i64] c),(.cells [(.map 0)])],42⟩) ?_ ?_
 ·refine zP w [0,1,5,6] [] 2 (fun l=>⟨[(0,zl 3 b),(1,(.func 54 [] [.ptr 1 0])),(5,zi k),(6,zi l)],[(.map true [.int .i64,.int .i64,.int .i64] c),(.cells [(.map 0)])],42⟩) ⟨rfl,zv⟩ ?_;rintro l J a;dsimp only [b6L] at a;refine zs (zs (zA (nT ?_)));rcases tf (A.zlt l (A.len b)) with e | e
  ·replace a:=cT e a;refine zT (zk (nT (zs (zb (zs ?_)))));obtain ⟨⟨z,B,C⟩,p,a⟩:=a0a a;obtain ⟨K,L⟩:=gtI p;refine zB (nT (zs (zn ?_))) { tk:=[25] };obtain ⟨y,r,a⟩:=a0a a;refine zD (c2g hA r) ?_;refine zF (nT ?_);rcases tf y with g | g
   ·replace a:=cT g a;refine zU (zk (nB (nT ?_)));refine zB ?_;exact nT ⟨_,(soI a).symm,rfl,zv⟩
   replace a:=cF g a;refine zT (zs ?_);obtain ⟨⟨E,F,G⟩,s,a⟩:=a0a a;obtain ⟨M,N⟩:=gtI s;cases a
  replace a:=cF e a;refine zU (AWp.exit (xT (xT ?_)));refine exL a ?_;rintro rfl;exact oxI ⟨rfl,j,zv⟩
 rintro _ ⟨j,rfl⟩;have h:=(v _ j);refine xB (nT (zs ?_));obtain ⟨S,u,h⟩:=a0a h;obtain ⟨O,P,Q,R⟩:=slI u;cases h

theorem c2h {A:Ar} (hA:SA A) {c b:List D} (h:N26 A c=some b):a0e Tryz.prog 26 [zl 1 c] [] (zl 3 b) []:=by
 unfold N26 at h;refine a0e.enterT hT (fn:=Tryz.f26) Tryz.func26 rfl (by decide) (by simp [Tryz.f26]) rfl rfl rfl rfl (lb rfl) ?_;refine a2J.seq ?_;refine a2J.of ?_;refine zA (nT ?_);refine a2J.seq ?_;refine a2J.of ?_;refine zA (nT ?_) { tk:=[7],esc:=[3] };refine a2J.seq ?_;refine a2J.seq ?_;refine a2J.of ?_;refine zA (nT ?_);refine a2J.block ?_;obtain ⟨p,j,h⟩:=a0a h;refine a2J.rangeFunc [3] (H':=[(.map true [.int .i64,.int .i64,.int .i64] p),(.cells [(.map 0)]),(.loop { st := .ready,pending:=none,env:=[(3,.ptr 1 0)],n:=24,params := #[10],assign:=a0p,body:=a0q })]) rfl (lb rfl) rfl rfl rfl (c2O hA j) (st := .ready) (by decide) rfl ?_;refine bN ?_;refine nB (nT ?_);refine a2J.of ?_;refine zs (zn ?_);obtain ⟨o,a,h⟩:=a0a h;rcases o with ⟨y,z,B⟩ | v
 ·replace h:=(eL h);refine zC (b9X hA a) ?_ { tk:=[23] };obtain ⟨⟨C,r,u⟩,k,h⟩:=a0a h;refine zC (c2S hA k) ?_ { tk:=[23] };refine zE (nT ?_) { tk:=[23] };obtain ⟨q,g,h⟩:=a0a h;obtain ⟨l,m⟩:=fzI hA g;refine AWp.freeze (s:=2) (i:=3) rfl rfl l m ?_;refine zr ?_;cases soI h;exact zq
 replace h:=(eR h);refine zC (b9Y hA a) ?_ { tk:=[23] };obtain ⟨w,e,h⟩:=a0a h;refine zC (c2U hA e) ?_ { tk:=[23] };refine zE (nT (zr ?_)) { tk:=[23] };cases soI h;exact zq

theorem c2V {A:Ar} (hA:SA A) {c p:List D} (h:N35 A c=some p):a0e Tryz.prog 35 [zl 1 c] [] (.own 2 p) []:=by
 unfold N35 at h;refine zI Tryz.func35 ?_;refine zs (zA (nT (zs ?_)));refine zA (nT (zs (zs ?_)));refine zA (nT (zb ?_));obtain ⟨P,F,v,C,k⟩:=a0m h;refine zM 0 [3] [] 0 (fun τ => ∃ o,v o=some p/\τ=⟨[(3,(.own 2 o))],[],30⟩) ?_ ?_
 ·refine zP F [3,7,8,9] [] 0 (fun (r,e)=>⟨[(3,(.own 2 r)),(7,zl 1 c),(8,(.d (.int .i64 (A.len c)))),(9,zi e)],[],30⟩) ⟨rfl,zc⟩ ?_;rintro ⟨r,e⟩ z a;dsimp only [a7S] at a;refine zs (zA (nT (zs ?_)));rcases tf (A.zlt e (A.len c)) with g | g
  ·replace a:=cT g a;refine zT (zk (nT (zs (zb (zs ?_)))));obtain ⟨q,w,a⟩:=a0a a;obtain ⟨J,K⟩:=gtI w;refine zB (nT (zs ?_));refine zB (nT (zb ?_));obtain ⟨O,E,u,B,j⟩:=a0m a;refine zM 2 [3,7,8,9] [] 0 (fun τ => ∃ m,u m=some z/\τ=⟨[(3,(.own 2 m)),(7,zl 1 c),(8,(.d (.int .i64 (A.len c)))),(9,zi e)],[],30⟩) ?_ ?_
   ·refine zP E [3,4,7,8,9,17,18] [] 0 (fun (s,l)=>⟨[(3,(.own 2 s)),(4,zi e),(7,zl 1 c),(8,(.d (.int .i64 (A.len c)))),(9,zi e),(17,(.d (.int .i64 (A.zmax 0 (A.wrp .i64 (A.zsub (A.len q) 1)))))),(18,zi l)],[],30⟩) ⟨rfl,zv⟩ ?_;rintro ⟨s,l⟩ G b;dsimp only [a7R] at b;refine zs (zA (nT (zs ?_)));rcases tf (A.zlt l (A.zmax 0 (A.wrp .i64 (A.zsub (A.len q) 1)))) with i | i
    ·replace b:=cT i b;refine zT (zk (nT (zs (zb (zs ?_)))));refine zB (nT ?_);obtain ⟨N,y,b⟩:=a0a b;obtain ⟨L,M⟩:=apI y;refine zB (nB (nT ?_)) { tk:=[3,26] };refine zB ?_;exact nT ⟨_,(soI b).symm,rfl,zv⟩
    replace b:=cF i b;refine zU (AWp.exit (xT (xT ?_)));refine exL b ?_;rintro rfl;exact oxI ⟨rfl,_,j,zv⟩
   rintro _ ⟨m,j,rfl⟩;have a:=(B _ j);refine xB (nB (nT (zA ?_)));exact nT ⟨_,(soI a).symm,rfl,zc⟩
  replace a:=cF g a;refine zU (AWp.exit (xT (xT ?_)));refine exL a ?_;rintro rfl;exact oxI ⟨rfl,_,k,zv⟩
 rintro _ ⟨o,k,rfl⟩;have h:=(C _ k);refine xB (nT (zs (zA (nT (zr ?_)) { tk:=[3,29] })));cases soI h;exact zq

theorem c4u {A:Ar} (hA:SA A) {e g i j l:Int} {k:Bool} (h:N89 A e g i j l=some k):a0e Tryz.prog 89 [.d (.agg [.int .i64 e,.int .i64 g]),.d (.agg [.int .i64 i,.int .i64 j,.int .i64 l])] [] (.d (.bool k)) []:=by
 unfold N89 at h;refine zI Tryz.func89 ?_;refine zs (zA (nT (zs ?_)));obtain ⟨m,a,h⟩:=a0a h;refine zN [4] [] 0 (fun τ=>τ=⟨[(4,.d (.bool m))],[],24⟩) ?_ ?_
 ·rcases tf (A.zeq e i) with b | b
  ·replace a:=cT b a;rcases tf (A.zle j g) with c | c
   ·replace a:=cT c a;refine zB ?_ { tk:=[23] };cases soI a;exact zO
   replace a:=cF c a;refine zB ?_ { tk:=[23] };cases soI a;exact zO
  replace a:=cF b a;refine zB ?_ { tk:=[23] };cases soI a;exact zO
 rintro _ rfl;refine nT (zr ?_);cases soI h;exact zq

theorem c4v {A:Ar} (hA:SA A) {g i a b c:Int} {e:Bool} (h:N88 A g i a b c=some e):a0e Tryz.prog 88 [.d (.agg [.int .i64 g,.int .i64 i]),.ptr 0 0] [.cells [zi a,zi b,zi c]] (.d (.bool e)) [.cells [zi a,zi b,zi c]]:=by
 unfold N88 at h;refine zI Tryz.func88 ?_;refine zs (zA (nT (zs (zn ?_))));obtain ⟨k,j,h⟩:=a0a h;refine zC (c4u hA j) ?_ { tk:=[6] };refine zE (nT (zr ?_)) { tk:=[6] };cases soI h;exact zq

theorem c2W {A:Ar} (hA:SA A) {c:List D} {e g i m:Int} (h:c2b A c e g i=some m):a0e Tryz.prog 119 [zl 2 c,(.func 88 [] [.ptr 0 0])] [.cells [zi e,zi g,zi i]] (zi m) [.cells [zi e,zi g,zi i]]:=by
 unfold c2b at h;refine zI Tryz.func119 ?_;refine zs (zA (nT (zs (zs ?_))));refine zA (nT (zb ?_));obtain ⟨C,s,p,o,b⟩:=a0m h;refine zM 0 [] [] 1 (fun τ=>p (.inl ())=some m/\τ=⟨[],[.cells [zi e,zi g,zi i]],19⟩) ?_ ?_
 ·refine zP s [0,1,7,8] [] 1 (fun l=>⟨[(0,zl 2 c),(1,(.func 88 [] [.ptr 0 0])),(7,(.d (.int .i64 (A.len c)))),(8,zi l)],[.cells [zi e,zi g,zi i]],19⟩) ⟨rfl,zc⟩ ?_;rintro l y a;dsimp only [a7T] at a;refine zs (zA (nT (zs ?_)));rcases tf (A.zlt l (A.len c)) with j | j
  ·replace a:=cT j a;refine zT (zk (nT (zs (zb (zs ?_)))));refine zB (nT (zs (zn ?_))) { tk:=[8,10] };obtain ⟨⟨v,w⟩,q,a⟩:=a0a a;obtain ⟨z,B⟩:=gtI q;obtain ⟨u,r,a⟩:=a0a a;refine zD (c4v hA r) ?_;refine zF (nT ?_);rcases tf u with k | k
   ·replace a:=cT k a;refine zT (zs ?_);refine zB (nT (zr (rB (rT (rT ?_))))) { tk:=[5,17] };refine exL a ?_;rintro rfl;refine oxR ?_;replace b:=(eR (o _ b));refine rB (rT ?_);cases soI b;exact zq
   replace a:=cF k a;refine zU (zk (nB (nT ?_)));refine zB ?_ { tk:=[18] };exact nT ⟨_,(soI a).symm,rfl,zv⟩
  replace a:=cF j a;refine zU (AWp.exit (xT (xT ?_)));refine exL a ?_;rintro rfl;exact oxI ⟨rfl,b,zv⟩
 rintro _ ⟨b,rfl⟩;have h:=(eL (o _ b));refine xB (nT (zs (zA (nT (zr ?_)))));cases soI h;exact zq

theorem c4w {A:Ar} (hA:SA A) {g:List D} {a b c:Int} {e:Bool} (h:N87 A g a b c=some e):a0e Tryz.prog 87 [zl 2 g,(.func 88 [] [.ptr 0 0])] [.cells [zi a,zi b,zi c]] (.d (.bool e)) [.cells [zi a,zi b,zi c]]:=by
 unfold N87 at h;refine zI Tryz.func87 ?_;refine zs (zA (nT (zs (zn ?_))));obtain ⟨j,i,h⟩:=a0a h;refine zC (c2W hA i) ?_ { tk:=[8] };refine zE (nT (zr ?_)) { tk:=[8] };cases soI h;exact zq

theorem c4x {A:Ar} (hA:SA A) {b:List D} {c e g:Int} {a:Bool} (h:N51 A b c e g=some a):a0e Tryz.prog 51 [zl 2 b,.d (.agg [.int .i64 c,.int .i64 e,.int .i64 g])] [] (.d (.bool a)) []:=by
 unfold N51 at h;refine zI Tryz.func51 ?_;refine zs (zA (nT (zs (zn ?_))) { esc:=[3] });obtain ⟨j,i,h⟩:=a0a h;refine zC (c4w hA i) ?_ { tk:=[7] };refine zE (nT (zr ?_)) { tk:=[7] };cases soI h;exact zq

theorem c4y {A:Ar} (hA:SA A) {c e g:Int} {a:List D} {b:Bool} (h:N50 A c e g a=some b):a0e Tryz.prog 50 [.d (.agg [.int .i64 c,.int .i64 e,.int .i64 g]),.ptr 0 0] [.cells [zl 2 a]] (.d (.bool b)) [.cells [zl 2 a]]:=by
 unfold N50 at h;refine zI Tryz.func50 ?_;refine zs (zA (nT (zs (zn ?_))));obtain ⟨j,i,h⟩:=a0a h;refine zC (c4x hA i) ?_ { tk:=[7] };refine zE (nT (zr ?_)) { tk:=[7] };cases soI h;exact zq

theorem c2X {A:Ar} (hA:SA A) {c e:List D} {k:Int} (h:c2c A c e=some k):a0e Tryz.prog 86 [zl 3 c,(.func 50 [] [.ptr 0 0])] [.cells [zl 2 e]] (zi k) [.cells [zl 2 e]]:=by
 unfold c2c at h;refine zI Tryz.func86 ?_;refine zs (zA (nT (zs (zs ?_))));refine zA (nT (zb ?_));obtain ⟨B,q,m,l,b⟩:=a0m h;refine zM 0 [] [] 1 (fun τ=>m (.inl ())=some k/\τ=⟨[],[.cells [zl 2 e]],19⟩) ?_ ?_
 ·refine zP q [0,1,7,8] [] 1 (fun j=>⟨[(0,zl 3 c),(1,(.func 50 [] [.ptr 0 0])),(7,(.d (.int .i64 (A.len c)))),(8,zi j)],[.cells [zl 2 e]],19⟩) ⟨rfl,zc⟩ ?_;rintro j w a;dsimp only [a7U] at a;refine zs (zA (nT (zs ?_)));rcases tf (A.zlt j (A.len c)) with g | g
  ·replace a:=cT g a;refine zT (zk (nT (zs (zb (zs ?_)))));refine zB (nT (zs (zn ?_))) { tk:=[8,10] };obtain ⟨⟨s,u,v⟩,o,a⟩:=a0a a;obtain ⟨y,z⟩:=gtI o;obtain ⟨r,p,a⟩:=a0a a;refine zD (c4y hA p) ?_;refine zF (nT ?_);rcases tf r with i | i
   ·replace a:=cT i a;refine zT (zs ?_);refine zB (nT (zr (rB (rT (rT ?_))))) { tk:=[5,17] };refine exL a ?_;rintro rfl;refine oxR ?_;replace b:=(eR (l _ b));refine rB (rT ?_);cases soI b;exact zq
   replace a:=cF i a;refine zU (zk (nB (nT ?_)));refine zB ?_ { tk:=[18] };exact nT ⟨_,(soI a).symm,rfl,zv⟩
  replace a:=cF g a;refine zU (AWp.exit (xT (xT ?_)));refine exL a ?_;rintro rfl;exact oxI ⟨rfl,b,zv⟩
 rintro _ ⟨b,rfl⟩;have h:=(eL (l _ b));refine xB (nT (zs (zA (nT (zr ?_)))));cases soI h;exact zq

theorem c2Y {A:Ar} (hA:SA A) {c a:List D} {b:Bool} (h:c2d A c a=some b):a0e Tryz.prog 49 [zl 3 c,(.func 50 [] [.ptr 0 0])] [.cells [zl 2 a]] (.d (.bool b)) [.cells [zl 2 a]]:=by
 unfold c2d at h;refine zI Tryz.func49 ?_;refine zs (zA (nT (zs (zn ?_))));obtain ⟨g,e,h⟩:=a0a h;refine zC (c2X hA e) ?_ { tk:=[8] };refine zE (nT (zr ?_)) { tk:=[8] };cases soI h;exact zq

theorem c4z {A:Ar} (hA:SA A) {b c:List D} {a:Bool} (h:N25 A b c=some a):a0e Tryz.prog 25 [zl 2 b,zl 3 c] [] (.d (.bool a)) []:=by
 unfold N25 at h;refine zI Tryz.func25 ?_;refine zs (zA (nT (zs (zn ?_))) { esc:=[2] });obtain ⟨g,e,h⟩:=a0a h;refine zC (c2Y hA e) ?_ { tk:=[8] };refine zE (nT (zr ?_)) { tk:=[8] };cases soI h;exact zq

theorem c3R {A:Ar} (hA:SA A) {k b:List D} {j:Int} (h:N34 A k b=some j):a0e Tryz.prog 34 [zl 1 k,zl 2 b] [] (zi j) []:=by
 unfold N34 at h;refine zI Tryz.func34 ?_;refine zs (zA (nT (zs ?_)));refine zA (nT (zs (zs ?_)));refine zA (nT (zb ?_));obtain ⟨K,s,m,r,e⟩:=a0m h;refine zM 0 [5] [] 0 (fun τ => ∃ i,m i=some j/\τ=⟨[(5,zi i)],[],27⟩) ?_ ?_
 ·refine zP s [0,5,8,9,10] [] 0 (fun (l,g)=>⟨[(0,zl 1 k),(5,zi l),(8,zl 2 b),(9,(.d (.int .i64 (A.len b)))),(10,zi g)],[],27⟩) ⟨rfl,zc⟩ ?_;rintro ⟨l,g⟩ z a;dsimp only [b1p] at a;refine zs (zA (nT (zs ?_)));rcases tf (A.zlt g (A.len b)) with c | c
  ·replace a:=cT c a;refine zT (zk (nT (zs (zb (zs ?_)))));obtain ⟨⟨u,v⟩,o,a⟩:=a0a a;obtain ⟨B,C⟩:=gtI o;refine zB (nT ?_) { tk:=[13] };obtain ⟨w,p,a⟩:=a0a a;obtain ⟨E,F⟩:=gtI p;obtain ⟨y,q,a⟩:=a0a a;obtain ⟨G,J⟩:=gtI q;refine zH ?_ { tk:=[24] };refine nB (nT (zB ?_));exact nT ⟨_,(soI a).symm,rfl,zv⟩
  replace a:=cF c a;refine zU (AWp.exit (xT (xT ?_)));refine exL a ?_;rintro rfl;exact oxI ⟨rfl,_,e,zv⟩
 rintro _ ⟨i,e,rfl⟩;have h:=(r _ e);refine xB (nT (zs (zA (nT (zr ?_)) { tk:=[5,26] })));cases soI h;exact zq

theorem c3S {A:Ar} (hA:SA A) {b:Int} {a:Bool} (h:N71 A b=some a):a0e Tryz.prog 71 [zi b] [] (.d (.bool a)) []:=by
 unfold N71 at h;refine zI Tryz.func71 ?_;refine zs (zA (nT (zs ?_)));refine zA (nT (zr ?_)) { tk:=[5] };cases soI h;exact zq

theorem c2i {A:Ar} (hA:SA A) {a b l:Int} (h:N38 A a b=some l):a0e Tryz.prog 38 [zi a,zi b] [] (zi l) []:=by
 unfold N38 at h;refine zI Tryz.func38 ?_;refine zs (zA (nT (zs (zn ?_))));obtain ⟨o,m,h⟩:=a0a h;refine zC (c3S hA m) ?_;refine zE (nT (zs (zn ?_)));obtain ⟨k,n,h⟩:=a0a h;refine zC (c3S hA n) ?_;refine zE (nT (zs (zs ?_)));refine zA (nT ?_);rcases tf o with g | g
 ·replace h:=cT g h;refine zT (zs (zs ?_));refine zB (nT ?_);rcases tf k with i | i
  ·replace h:=cT i h;refine zT (zs ?_);refine zB (nT (zr (rT (rT ?_))));cases soI h;exact zq
  replace h:=cF i h;refine zU (zk (nT (zs ?_)));refine zB (nT (zr (rT ?_)));cases soI h;exact zq
 replace h:=cF g h;refine zU (zk (nT (zs (zs ?_))));refine zB (nT ?_);rcases tf k with j | j
 ·replace h:=cT j h;refine zT (zs ?_);refine zB (nT (zr (rT ?_)));cases soI h;exact zq
 replace h:=cF j h;refine zU (zk (nT (zs (zs ?_))));refine zB (nT ?_);rcases tf (A.zlt a b) with c | c
 ·replace h:=cT c h;refine zT (zs ?_);refine zB (nT (zr (rT ?_)));cases soI h;exact zq
 replace h:=cF c h;refine zU (zk (nT (zs (zs ?_))));refine zB (nT ?_);rcases tf (A.zlt b a) with e | e
 ·replace h:=cT e h;refine zT (zs ?_);refine zB (nT (zr (rT ?_)));cases soI h;exact zq
 replace h:=cF e h;refine zU (zk (nT (zs ?_)));refine zB (nT (zr ?_));cases soI h;exact zq

theorem c2Z {A:Ar} (hA:SA A) {c:List D} {i:Int} (h:b7J A c=some i):a0e Tryz.prog 108 [zl 1 c] [] (zi i) []:=by
 unfold b7J at h;refine zI Tryz.func108 ?_;refine zs (zA (nT (zs ?_)));refine zA (nT (zs (zs ?_)));refine zA (nT (zb ?_));obtain ⟨u,p,l,k,b⟩:=a0m h;refine zM 0 [3] [] 0 (fun τ=>l (.inl ())=some i/\τ=⟨[(3,zi 0)],[],18⟩) ?_ ?_
 ·refine zP p [3,6,7,8] [] 0 (fun j=>⟨[(3,zi 0),(6,zl 1 c),(7,(.d (.int .i64 (A.len c)))),(8,zi j)],[],18⟩) ⟨rfl,zc⟩ ?_;rintro j q a;dsimp only [b0e] at a;refine zs (zA (nT (zs ?_)));rcases tf (A.zlt j (A.len c)) with g | g
  ·replace a:=cT g a;refine zT (zk (nT (zs (zb (zs ?_)))));obtain ⟨m,o,a⟩:=a0a a;obtain ⟨r,s⟩:=gtI o;refine zB (nT (zs ?_)) { tk:=[11] };refine zB (nT ?_);rcases tf (A.zeq m 0) with e | e
   ·replace a:=cT e a;refine zU (zk (nB (nT ?_)));refine zB ?_;exact nT ⟨_,(soI a).symm,rfl,zv⟩
   replace a:=cF e a;refine zT (zs ?_);refine zB (nT (zr (rB (rT (rT ?_))))) { tk:=[5,15] };refine exL a ?_;rintro rfl;refine oxR ?_;replace b:=(eR (k _ b));refine rB (rT ?_);cases soI b;exact zq
  replace a:=cF g a;refine zU (AWp.exit (xT (xT ?_)));refine exL a ?_;rintro rfl;exact oxI ⟨rfl,b,zv⟩
 rintro _ ⟨b,rfl⟩;have h:=(eL (k _ b));refine xB (nT (zs (zA (nT (zr ?_)) { tk:=[3,17] })));cases soI h;exact zq

theorem c3a {A:Ar} (hA:SA A) {b c e g a:Int} (h:b9E A b c e g=some a):a0e Tryz.prog 107 [.d (.agg [.int .i64 b,.int .i64 c]),.d (.agg [.int .i64 e,.int .i64 g])] [] (zi a) []:=by
 unfold b9E at h;refine zI Tryz.func107 ?_;refine zs (zA (nT (zs ?_)));refine zQ ?_;obtain ⟨m,i,h⟩:=a0a h;refine a0W.c0 hT hA { tk:=[16] } rfl zc (c2i hA i) rfl rfl (lb rfl) rfl rfl ?_;obtain ⟨n,j,h⟩:=a0a h;refine a0W.c0 hT hA { tk:=[16] } rfl zc (c2i hA j) rfl rfl (lb rfl) rfl rfl ?_;obtain ⟨l,k,h⟩:=a0a h;refine a0W.c0 hT hA { tk:=[16] } rfl zc (c2Z hA k) rfl rfl (lb rfl) rfl rfl ?_;refine a0W.cd hT hA { tk:=[16] } rfl zc (by kernel_rfl) ?_;refine nT (zr ?_);cases soI h;exact zq

theorem c3b {A:Ar} (hA:SA A) {c e:List D} {o:Int} (h:c2e A c e=some o):a0e Tryz.prog 106 [zl 2 c,zl 2 e,(.func 107 [] [])] [] (zi o) []:=by
 unfold c2e at h;refine zI Tryz.func106 ?_;refine zs (zA (nT (zs (zs ?_))));refine zA (nT (zb ?_));obtain ⟨K,u,p,m,b⟩:=a0m h;refine zM 0 [0,1] [] 0 (fun τ=>p (.inl ())=some o/\τ=⟨[(0,zl 2 c),(1,zl 2 e)],[],39⟩) ?_ ?_
 ·refine zP u [0,1,2,11,12,13] [] 0 (fun g=>⟨[(0,zl 2 c),(1,zl 2 e),(2,(.func 107 [] [])),(11,zl 2 c),(12,(.d (.int .i64 (A.len c)))),(13,zi g)],[],39⟩) ⟨rfl,zc⟩ ?_;rintro g C a;dsimp only [a4P] at a;refine zs (zA (nT (zs ?_)));rcases tf (A.zlt g (A.len c)) with i | i
  ·replace a:=cT i a;refine zT (zk (nT (zs (zb (zs ?_)))));obtain ⟨⟨w,y⟩,q,a⟩:=a0a a;obtain ⟨E,F⟩:=gtI q;refine zB (nT (zs (zs ?_))) { tk:=[17] };refine zB (nT ?_);rcases tf (A.zle (A.len e) g) with j | j
   ·replace a:=cT j a;refine zT (zs ?_);refine zB (nT (zr (rT (rB (rT (rT ?_))))));refine exL a ?_;rintro rfl;refine oxR ?_;replace b:=(eR (m _ b));refine rB (rT ?_);cases soI b;exact zq
   replace a:=cF j a;refine zU (zk (nT (zs ?_)));obtain ⟨⟨z,B⟩,r,a⟩:=a0a a;obtain ⟨G,J⟩:=gtI r;refine zB (nT (zs (zn ?_))) { tk:=[25] };obtain ⟨v,s,a⟩:=a0a a;refine zD (c3a hA s) ?_ { tk:=[29] };refine zF (nT (zs ?_)) { tk:=[29] };refine zB (nT ?_);rcases tf (A.zeq v 0) with k | k
   ·replace a:=cT k a;refine zU (zk (nB (nT ?_)));refine zB ?_;exact nT ⟨_,(soI a).symm,rfl,zv⟩
   replace a:=cF k a;refine zT (zs ?_);refine zB (nT (zr (rB (rT (rT ?_))))) { tk:=[10,32] };refine exL a ?_;rintro rfl;refine oxR ?_;replace b:=(eR (m _ b));refine rB (rT ?_);cases soI b;exact zq
  replace a:=cF i a;refine zU (AWp.exit (xT (xT ?_)));refine exL a ?_;rintro rfl;exact oxI ⟨rfl,b,zv⟩
 rintro _ ⟨b,rfl⟩;have h:=(eL (m _ b));refine xB (nT (zs (zs (zA (nT ?_)))));rcases tf (A.zlt (A.len c) (A.len e)) with l | l
 ·replace h:=cT l h;refine zT (zs ?_);refine zB (nT (zr (rT ?_)));cases soI h;exact zq
 replace h:=cF l h;refine zU (zk (nT (zs ?_)));refine zB (nT (zr ?_));cases soI h;exact zq

theorem c4A {A:Ar} (hA:SA A) {b c:List D} {a:Int} (h:N69 A b c=some a):a0e Tryz.prog 69 [zl 2 b,zl 2 c] [] (zi a) []:=by
 unfold N69 at h;refine zI Tryz.func69 ?_;refine zs (zA (nT (zs (zn ?_))));obtain ⟨g,e,h⟩:=a0a h;refine zC (c3b hA e) ?_ { tk:=[7] };refine zE (nT (zr ?_)) { tk:=[7] };cases soI h;exact zq

theorem c3T {A:Ar} (hA:SA A) {R j k L:List D} (h:N33 A R j k=some L):a0e Tryz.prog 33 [zl 1 R,zl 1 j,zl 3 k] [] (.own 2 L) []:=by
 unfold N33 at h;refine zI Tryz.func33 ?_;refine zs (zA (nT (zs (zn ?_))));obtain ⟨a,V,h⟩:=a0a h;refine zC (c2V hA V) ?_;refine zE (nT (zs ?_));refine zA (nT (zs (zs ?_)));obtain ⟨_,W,h⟩:=a0a h;have f7:=nkI W;refine zB (nT (zb ?_));obtain ⟨d1,i0,S,e0,F⟩:=a0m h;refine zM 0 [8] [] 0 (fun τ => ∃ K,S K=some L/\τ=⟨[(8,(.own 2 K))],[],70⟩) ?_ ?_
 ·refine zP i0 [1,2,7,8,9,10,20,21] [] 0 (fun (p,m,q,g)=>⟨[(1,zl 1 j),(2,zl 3 k),(7,zl 2 a),(8,(.own 2 p)),(9,zi m),(10,.d (.bool q)),(20,(.d (.int .i64 (A.shl .i64 1 (A.len a))))),(21,zi g)],[],70⟩) ⟨rfl,zc⟩ ?_;rintro ⟨p,m,q,g⟩ s0 i;dsimp only [a9g] at i;refine zs (zA (nT (zs ?_)));rcases tf (A.zlt g (A.shl .i64 1 (A.len a))) with v | v
  ·replace i:=cT v i;refine zT (zk (nT (zs ?_)));obtain ⟨⟨N,O,P⟩,c,i⟩:=a0a i;refine zN [1,2,7,8,9,10,20,21] [] 0 (fun τ=>τ=⟨[(1,zl 1 j),(2,zl 3 k),(7,zl 2 a),(8,(.own 2 N)),(9,zi O),(10,.d (.bool P)),(20,(.d (.int .i64 (A.shl .i64 1 (A.len a))))),(21,zi g)],[],70⟩) ?_ ?_
   ·refine zb (zs (zB (nT (zs ?_))));refine zB (nT (zs (zs ?_)));refine zB (nT (zb ?_));obtain ⟨e1,j0,U,g0,G⟩:=a0m c;refine zM 2 [1,2,7,8,9,10,12,20,21] [] 0 (fun τ => ∃ s,U s=some (N,O,P)/\τ=⟨[(1,zl 1 j),(2,zl 3 k),(7,zl 2 a),(8,(.own 2 p)),(9,zi m),(10,.d (.bool q)),(12,(.own 2 s)),(20,(.d (.int .i64 (A.shl .i64 1 (A.len a))))),(21,zi g)],[],70⟩) ?_ ?_
    ·refine zP j0 [1,2,7,8,9,10,11,12,20,21,24,25,26] [] 0 (fun (Q,r)=>⟨[(1,zl 1 j),(2,zl 3 k),(7,zl 2 a),(8,(.own 2 p)),(9,zi m),(10,.d (.bool q)),(11,zi g),(12,(.own 2 Q)),(20,(.d (.int .i64 (A.shl .i64 1 (A.len a))))),(21,zi g),(24,zl 2 a),(25,(.d (.int .i64 (A.len a)))),(26,zi r)],[],70⟩) ⟨rfl,zv⟩ ?_;rintro ⟨Q,r⟩ u0 e;dsimp only [b1q] at e;refine zs (zA (nT (zs ?_)));rcases tf (A.zlt r (A.len a)) with w | w
     ·replace e:=cT w e;refine zT (zk (nT (zs (zb (zs ?_)))));obtain ⟨⟨q0,r0⟩,X,e⟩:=a0a e;obtain ⟨v0,w0⟩:=gtI X;refine zB (nT (zs ?_)) { tk:=[30] };obtain ⟨_,Y,e⟩:=a0a e;have y0:=nkI Y;refine zB (nT ?_);obtain ⟨p0,l,e⟩:=a0a e;refine zN [1,2,7,8,9,10,11,12,20,21,24,25,26] [] 0 (fun τ=>τ=⟨[(1,zl 1 j),(2,zl 3 k),(7,zl 2 a),(8,(.own 2 p)),(9,zi m),(10,.d (.bool q)),(11,zi g),(12,(.own 2 p0)),(20,(.d (.int .i64 (A.shl .i64 1 (A.len a))))),(21,zi g),(24,zl 2 a),(25,(.d (.int .i64 (A.len a)))),(26,zi r)],[],70⟩) ?_ ?_
      ·rcases tf (A.zeq (A.bits .and .i64 (A.shr .i64 g r) 1) 1) with y | y
       ·replace l:=cT y l;refine zT ?_;obtain ⟨b1,a0,l⟩:=a0a l;obtain ⟨z0,a1⟩:=apI a0;refine zB ?_ { tk:=[12,39] };cases soI l;exact zO
       replace l:=cF y l;refine zU (zk ?_);cases soI l;exact zO
      rintro _ rfl;refine nB (nT (zA ?_));exact nT ⟨_,(soI e).symm,rfl,zc⟩
     replace e:=cF w e;refine zU (AWp.exit (xT (xT ?_)));refine exL e ?_;rintro rfl;exact oxI ⟨rfl,_,G,zv⟩
    rintro _ ⟨s,G,rfl⟩;have c:=(g0 _ G);refine xB (nT (zs (zs (zn ?_))));obtain ⟨k0,b0,c⟩:=a0a c;refine zC (c4z hA b0) ?_;refine zE (nT ?_);rcases tf k0 with z | z
    ·replace c:=cT z c;refine zU (zk (nT (zs (zn ?_))));obtain ⟨J,c0,c⟩:=a0a c;refine zD (c3R hA c0) ?_;refine zF (nT (zs ?_));obtain ⟨⟨l0,M⟩,b,c⟩:=a0a c;refine zN [1,2,7,8,9,10,12,15,20,21,65] [] 0 (fun τ=>τ=⟨[(1,zl 1 j),(2,zl 3 k),(7,zl 2 a),(8,(.own 2 p)),(9,zi m),(10,.d (.bool l0)),(12,(.own 2 s)),(15,zi J),(20,(.d (.int .i64 (A.shl .i64 1 (A.len a))))),(21,zi g),(65,.d (.bool M))],[],70⟩) ?_ ?_
     ·refine zn ?_;rcases tf q with B | B
      ·replace b:=cT B b;rcases tf (A.zlt J m) with C | C
       ·replace b:=cT C b;refine zF ?_;cases soI b;exact zO
       replace b:=cF C b;rcases tf (A.zeq J m) with E | E
       ·replace b:=cT E b;obtain ⟨c1,d0,b⟩:=a0a b;refine zD (c4A hA d0) ?_;refine zF ?_;cases soI b;exact zO
       replace b:=cF E b;refine zF ?_;cases soI b;exact zO
      replace b:=cF B b;refine zF ?_;cases soI b;exact zO
     rintro _ rfl;refine nT ?_;obtain ⟨⟨m0,n0,o0⟩,o,c⟩:=a0a c;refine zN [1,2,7,8,9,10,20,21] [] 0 (fun τ=>τ=⟨[(1,zl 1 j),(2,zl 3 k),(7,zl 2 a),(8,(.own 2 m0)),(9,zi n0),(10,.d (.bool o0)),(20,(.d (.int .i64 (A.shl .i64 1 (A.len a))))),(21,zi g)],[],70⟩) ?_ ?_
     ·rcases tf M with u | u
      ·replace o:=cT u o;refine zT ?_;refine zB ?_ { tk:=[12,66] };cases soI o;exact zO
      replace o:=cF u o;refine zU (zk ?_);cases soI o;exact zO
     rintro _ rfl;refine nB ?_;cases soI c;exact zO
    replace c:=cF z c;refine zT (AWp.exit (xT (xB ?_)));cases soI c;exact zO
   rintro _ rfl;refine nT (zA ?_);exact nT ⟨_,(soI i).symm,rfl,zc⟩
  replace i:=cF v i;refine zU (AWp.exit (xT (xT ?_)));refine exL i ?_;rintro rfl;exact oxI ⟨rfl,_,F,zv⟩
 rintro _ ⟨K,F,rfl⟩;have h:=(e0 _ F);refine xB (nT (zs (zA (nT (zr ?_)) { tk:=[8,69] })));cases soI h;exact zq

theorem c4B {A:Ar} (hA:SA A) {o p k:List D} {l:Int} (h:N12 A o p=some (k,l)):a0e Tryz.prog 12 [zl 1 o,zl 1 p] [] (.tuple [zl 2 k,zi l]) []:=by
 unfold N12 at h;refine zI Tryz.func12 ?_;refine zs (zA (nT (zs (zs (zn ?_)))));obtain ⟨B,u,h⟩:=a0a h;refine zC (c2M hA u) ?_;refine zE (nT (zs ?_));refine zA (nT ?_);rcases tf (A.zeq B 0) with c | c
 ·replace h:=cT c h;refine zU (zk (nT (zs ?_)));refine zB (nT (zs (zs (zn ?_))));obtain ⟨N,v,h⟩:=a0a h;refine zD (c2h hA v) ?_;obtain ⟨g,w,h⟩:=a0a h;refine zD (c3T hA w) ?_;refine zF (nT (zb ?_));obtain ⟨O,z,q,y,e⟩:=a0m h;refine zM 0 [7] [] 0 (fun τ => ∃ j,q j=some (k,l)/\τ=⟨[(7,(.own 2 j))],[],32⟩) ?_ ?_
  ·refine zP z [7,20,21,22] [] 0 (fun (m,i)=>⟨[(7,(.own 2 m)),(20,(.own 2 g)),(21,(.d (.int .i64 (A.len g)))),(22,zi i)],[],32⟩) ⟨rfl,zv⟩ ?_;rintro ⟨m,i⟩ F a;dsimp only [b1r] at a;refine zs (zA (nT (zs ?_)));rcases tf (A.zlt i (A.len g)) with b | b
   ·replace a:=cT b a;refine zT (zk (nT (zs (zb (zs ?_)))));obtain ⟨⟨C,E⟩,r,a⟩:=a0a a;obtain ⟨G,J⟩:=gtI r;refine zB (nT ?_) { tk:=[25] };obtain ⟨M,s,a⟩:=a0a a;obtain ⟨K,L⟩:=apI s;refine zB (nB (nT ?_)) { tk:=[7,29] };refine zB ?_;exact nT ⟨_,(soI a).symm,rfl,zv⟩
   replace a:=cF b a;refine zU (AWp.exit (xT (xT ?_)));refine exL a ?_;rintro rfl;exact oxI ⟨rfl,_,e,zv⟩
  rintro _ ⟨j,e,rfl⟩;have h:=(y _ e);refine xB (nT (zs (zA (nT (zr ?_)))));cases soI h;exact zq
 replace h:=cF c h;refine zT (zs ?_);refine zB (nT (zr (rT ?_)));cases soI h;exact zq

theorem c4C {A:Ar} (hA:SA A) {e g:List D} {b c:Int} (h:N13 A e g=some (b,c)):a0e Tryz.prog 13 [zl 1 e,zl 1 g] [] (.tuple [zi b,zi c]) []:=by
 unfold N13 at h;refine zI Tryz.func13 ?_;refine zs (zA (nT (zs (zs (zn ?_)))));obtain ⟨m,j,h⟩:=a0a h;refine zC (c2M hA j) ?_;refine zE (nT (zs ?_));refine zA (nT ?_);rcases tf (A.zeq m 0) with a | a
 ·replace h:=cT a h;refine zU (zk (nT (zs (zn ?_))));obtain ⟨o,k,h⟩:=a0a h;refine zD (c2h hA k) ?_;obtain ⟨p,l,h⟩:=a0a h;refine zD (c3T hA l) ?_;obtain ⟨n,i,h⟩:=a0a h;refine zD (c3R hA i) ?_;refine zF (nT (zr ?_));cases soI h;exact zq
 replace h:=cF a h;refine zT (zs ?_);refine zB (nT (zr (rT ?_)));cases soI h;exact zq

theorem c4D {A:Ar} (hA:SA A) {c e:Int} {a:List D} {b:Int} (h:N37 A c e a=some b):a0e Tryz.prog 37 [zi c,zi e,.ptr 0 0] [.cells [zl 3 a]] (zi b) [.cells [zl 3 a]]:=by
 unfold N37 at h;refine zI Tryz.func37 ?_;refine zs (zA (nT (zs ?_)));refine zQ ?_;obtain ⟨⟨n,o,p⟩,j,h⟩:=a0a h;obtain ⟨s,u⟩:=gtI j;obtain ⟨⟨k,l,m⟩,g,h⟩:=a0a h;obtain ⟨q,r⟩:=gtI g;obtain ⟨v,i,h⟩:=a0a h;refine a0W.c0 hT hA { tk:=[16] } rfl zu (c2i hA i) rfl rfl (lb rfl) rfl rfl ?_;refine zJ ?_ { tk:=[16] };refine nT (zr ?_);cases soI h;exact zq

theorem b9Z {A:Ar} (hA:SA A) {i j:Int} {e:List D} {g:List (D×D)} {B w:List D} (h:b9s A i j e g B=some w):a0e Tryz.prog 109 [.gref 2 1,zi i,zi j,(.func 37 [] [.ptr 0 0])] [.cells [zl 3 e],(.map true [.int .i64,.int .i64] g),.gro 1 B,.dead,.dead] (.tuple []) [.cells [zl 3 e],(.map true [.int .i64,.int .i64] g),.gro 1 w,.dead,.dead]:=by
 unfold b9s at h;refine zI Tryz.func109 ?_;refine zs (zA (nT (zb ?_)));obtain ⟨l1,g0,E,d0,r⟩:=a0m h;refine AWp.cutXW 0 (fun τ => ∃ v,E v=some w/\τ=⟨[],[.cells [zl 3 e],(.map true [.int .i64,.int .i64] g),.gro 1 v,.dead,.dead],53⟩) ?_ ?_
 ·refine AWp.iterW g0 (fun (k,y)=>⟨[(0,.gref 2 1),(1,zi i),(2,zi j),(3,(.func 37 [] [.ptr 0 0])),(8,zi k)],[.cells [zl 3 e],(.map true [.int .i64,.int .i64] g),.gro 1 y,.dead,.dead],53⟩) ⟨_,zR zy7 [0,1,2,3,8],rfl⟩ ?_;rintro ⟨k,y⟩ b0 c;dsimp only [a4Q] at c;refine zs (zs (zA (nT ?_)));rcases tf (A.zlt k j) with m | m
  ·replace c:=cT m c;refine zT (zk (nT (zs (zb (zs ?_)))));refine zB (nT (zb ?_));obtain ⟨k1,e0,C,c0,q⟩:=a0m c;refine AWp.cutXW 2 (fun τ => ∃ u,C u=some b0/\τ=⟨[(0,.gref 2 1),(1,zi i),(2,zi j),(3,(.func 37 [] [.ptr 0 0])),(8,zi k)],[.cells [zl 3 e],(.map true [.int .i64,.int .i64] g),.gro 1 u,.dead,.dead],53⟩) ?_ ?_
   ·refine AWp.iterW e0 (fun (l,s)=>⟨[(0,.gref 2 1),(1,zi i),(2,zi j),(3,(.func 37 [] [.ptr 0 0])),(8,zi k),(9,zi l)],[.cells [zl 3 e],(.map true [.int .i64,.int .i64] g),.gro 1 s,.dead,.dead],53⟩) ⟨_,zR zy7 [0,1,2,3,8,9],rfl⟩ ?_;rintro ⟨l,s⟩ n0 a;dsimp only [a5t] at a;refine zs (zs ?_);obtain ⟨z,b,a⟩:=a0a a;refine AWp.cutW (fun τ=>τ=⟨[(0,.gref 2 1),(1,zi i),(2,zi j),(3,(.func 37 [] [.ptr 0 0])),(8,zi k),(9,zi l),(34,.d (.bool z))],[.cells [zl 3 e],(.map true [.int .i64,.int .i64] g),.gro 1 s,.dead,.dead],53⟩) ?_ ?_
    ·refine zQ ?_;rcases tf (A.zlt i l) with o | o
     ·replace b:=cT o b;obtain ⟨_,F,b⟩:=a0a b;have o0:=ckI F;obtain ⟨_,G,b⟩:=a0a b;have p0:=ckI G;obtain ⟨i0,J,b⟩:=a0a b;have q0:=gcI J;obtain ⟨_,K,b⟩:=a0a b;have r0:=ckI K;obtain ⟨_,L,b⟩:=a0a b;have s0:=ckI L;obtain ⟨j0,M,b⟩:=a0a b;have u0:=gcI M;obtain ⟨j1,N,b⟩:=a0a b;refine a0W.cp hT hA {} rfl zu (c4D hA N) rfl rfl rfl rfl (lb rfl) rfl rfl ?_;refine zJ ?_;cases soI b;exact oWi ⟨_,zR zy7 [0,1,2,3,8,9,34],rfl⟩
     replace b:=cF o b;refine zJ ?_;cases soI b;exact oWi ⟨_,zR zy7 [0,1,2,3,8,9,34],rfl⟩
    rintro _ rfl;refine nT ?_;rcases tf z with p | p
    ·replace a:=cT p a;refine zT (zk (nT (zs (zb ?_))));obtain ⟨_,O,a⟩:=a0a a;have v0:=ckI O;obtain ⟨_,P,a⟩:=a0a a;have w0:=ckI P;obtain ⟨k0,Q,a⟩:=a0a a;have y0:=gcI Q;obtain ⟨_,R,a⟩:=a0a a;have z0:=ckI R;obtain ⟨_,S,a⟩:=a0a a;have a1:=ckI S;obtain ⟨l0,U,a⟩:=a0a a;have b1:=gcI U;obtain ⟨_,V,a⟩:=a0a a;have c1:=ckI V;obtain ⟨_,W,a⟩:=a0a a;have d1:=ckI W;obtain ⟨_,X,a⟩:=a0a a;have e1:=ckI X;obtain ⟨_,Y,a⟩:=a0a a;have g1:=ckI Y;obtain ⟨m0,a0,a⟩:=a0a a;have i1:=gcI a0;refine zH ?_ { tk:=[46,50] };refine nB (nT (zB ?_));exact nT ⟨_,(soI a).symm,_,zR zy7 [0,1,2,3,8,9],rfl⟩
    replace a:=cF p a;refine zU (AWp.exit (xT (xT ?_)));refine exL a ?_;rintro rfl;exact b1i ⟨_,zR zy7 [0,1,2,3,8],_,q,rfl⟩
   rintro _ ⟨u,q,rfl⟩;have c:=(c0 _ q);refine xB (nB (nT (zA ?_)));exact nT ⟨_,(soI c).symm,_,zR zy7 [0,1,2,3,8],rfl⟩
  replace c:=cF m c;refine zU (AWp.exit (xT (xT ?_)));refine exL c ?_;rintro rfl;exact b1i ⟨_,zR zy7 [],_,r,rfl⟩
 rintro _ ⟨v,r,rfl⟩;have h:=(d0 _ r);refine xB ?_;cases soI h;exact zq

theorem c4E {A:Ar} (hA:SA A) {b:Int} {e:List D} {g:List (D×D)} {C l:List D} (h:N70 A b e g C=some l):a0e Tryz.prog 70 [.gref 2 1,zi b,(.func 37 [] [.ptr 0 0])] [.cells [zl 3 e],(.map true [.int .i64,.int .i64] g),.gro 1 C,.dead,.dead] (.tuple []) [.cells [zl 3 e],(.map true [.int .i64,.int .i64] g),.gro 1 l,.dead,.dead]:=by
 unfold N70 at h;refine zI Tryz.func70 ?_;refine zs (zA (nT (zs ?_)));refine zA (nT (zs (zb ?_)));obtain ⟨W,P,E,M,r⟩:=a0m h;refine AWp.cutXW 0 (fun τ => ∃ v w,E (v,w)=some l/\τ=⟨[(0,.gref 2 1),(1,zi b),(2,(.func 37 [] [.ptr 0 0])),(6,zi 20),(7,zi v)],[.cells [zl 3 e],(.map true [.int .i64,.int .i64] g),.gro 1 w,.dead,.dead],63⟩) ?_ ?_
 ·refine AWp.iterW P (fun (B,y,z)=>⟨[(0,.gref 2 1),(1,zi b),(2,(.func 37 [] [.ptr 0 0])),(6,zi 20),(7,zi B),(8,zi y)],[.cells [zl 3 e],(.map true [.int .i64,.int .i64] g),.gro 1 z,.dead,.dead],63⟩) ⟨_,zR zy7 [0,1,2,6,7,8],rfl⟩ ?_;rintro ⟨B,y,z⟩ S c;dsimp only [b4X] at c;refine zs (zs (zA (nT ?_)));rcases tf (A.zle y b) with m | m
  ·replace c:=cT m c;refine zT (zk (nT (zb (zs (zn ?_)))));obtain ⟨V,J,c⟩:=a0a c;refine zD (b9Z hA J) ?_;refine zF (nT (zs ?_));refine zB (nT ?_);refine zB (nB ?_);exact nT ⟨_,(soI c).symm,_,zR zy7 [0,1,2,6,7,8],rfl⟩
  replace c:=cF m c;refine zU (AWp.exit (xT (xT ?_)));refine exL c ?_;rintro rfl;exact b1i ⟨_,zR zy7 [0,1,2,6,7],_,_,r,rfl⟩
 rintro _ ⟨v,w,r,rfl⟩;have h:=(M _ r);refine xB (nT (zs (zn ?_)));obtain ⟨k,K,h⟩:=a0a h;refine zC (b9Z hA K) ?_;refine zE (nT (zb ?_));obtain ⟨Y,R,G,O,u⟩:=a0m h;refine AWp.cutXW 2 (fun τ=>G ()=some l/\τ=⟨[],[.cells [zl 3 e],(.map true [.int .i64,.int .i64] g),.gro 1 k,.dead,.dead],63⟩) ?_ ?_
 ·refine AWp.iterW R (fun i=>⟨[(0,.gref 2 1),(1,zi b),(2,(.func 37 [] [.ptr 0 0])),(6,zi i)],[.cells [zl 3 e],(.map true [.int .i64,.int .i64] g),.gro 1 k,.dead,.dead],63⟩) ⟨_,zR zy7 [0,1,2,6],rfl⟩ ?_;rintro i L a;dsimp only [b4Y] at a;refine zs (zs (zA (nT ?_)));rcases tf (A.zlt i b) with o | o
  ·replace a:=cT o a;refine zT (zk (nT (zb (zs ?_))));refine zB (nT (zs (zb ?_)));obtain ⟨X,Q,F,N,s⟩:=a0m a;refine AWp.cutXW 4 (fun τ=>F ()=some L/\τ=⟨[(0,.gref 2 1),(1,zi b),(2,(.func 37 [] [.ptr 0 0])),(6,zi i),(7,zi 0)],[.cells [zl 3 e],(.map true [.int .i64,.int .i64] g),.gro 1 k,.dead,.dead],63⟩) ?_ ?_
   ·refine AWp.iterW Q (fun ()=>⟨[(0,.gref 2 1),(1,zi b),(2,(.func 37 [] [.ptr 0 0])),(6,zi i),(7,zi 0),(8,(.d (.int .i64 (A.wrp .i64 (A.zmul 2 i)))))],[.cells [zl 3 e],(.map true [.int .i64,.int .i64] g),.gro 1 k,.dead,.dead],63⟩) ⟨_,zR zy7 [0,1,2,6,7,8],rfl⟩ ?_;rintro _ U j;dsimp only [b9F] at j;refine zs (zs (zA (nT ?_)));rcases tf (A.zle (A.wrp .i64 (A.zmul 2 i)) b) with p | p
    ·replace j:=cT p j;refine zT (zk (nT (zb (zs (zn ?_)))));cases j
    replace j:=cF p j;refine zU (AWp.exit (xT (xT ?_)));refine exL j ?_;rintro rfl;exact b1i ⟨_,zR zy7 [0,1,2,6,7],s,rfl⟩
   rintro _ ⟨s,rfl⟩;have a:=(N _ s);refine xB (nT (zs (zs (zA (nT (zs ?_))))));refine zA (nT ?_);rcases tf (A.zlt (A.wrp .i64 (A.zadd 0 i)) b) with q | q
   ·replace a:=cT q a;refine zT (zn ?_);cases a
   replace a:=cF q a;refine zU (zk (nT ?_));refine zB (nB ?_);exact nT ⟨_,(soI a).symm,_,zR zy7 [0,1,2,6],rfl⟩
  replace a:=cF o a;refine zU (AWp.exit (xT (xT ?_)));refine exL a ?_;rintro rfl;exact b1i ⟨_,zR zy7 [],u,rfl⟩
 rintro _ ⟨u,rfl⟩;have h:=(O _ u);refine xB ?_;cases soI h;exact zq

theorem c4F {A:Ar} (hA:SA A) {a:List D} {b:List (D×D)} {e c:List D} (h:N36 A a b e=some c):a0e Tryz.prog 36 [.gref 2 1,(.func 37 [] [.ptr 0 0])] [.cells [zl 3 a],(.map true [.int .i64,.int .i64] b),.gro 1 e,.dead,.dead] (.tuple []) [.cells [zl 3 a],(.map true [.int .i64,.int .i64] b),.gro 1 c,.dead,.dead]:=by
 unfold N36 at h;refine zI Tryz.func36 ?_;refine zn ?_;obtain ⟨i,g,h⟩:=a0a h;refine zC (c4E hA g) ?_;refine zE ?_;cases soI h;exact zq

theorem c4G {A:Ar} (hA:SA A) {x1 X s:List D} {u:Int} (h:N14 A x1 X=some (s,u)):a0e Tryz.prog 14 [zl 1 x1,zl 1 X] [] (.tuple [zl 1 s,zi u]) []:=by
 unfold N14 at h;refine zI Tryz.func14 ?_;refine zs (zA (nT (zs (zs (zn ?_)))));obtain ⟨r4,e3,h⟩:=a0a h;refine zC (c2M hA e3) ?_;refine zE (nT (zs ?_));refine zA (nT ?_);rcases tf (A.zeq r4 0) with J | J
 ·replace h:=cT J h;refine zU (zk (nT (zs (zn ?_))));obtain ⟨g,e6,h⟩:=a0a h;refine zD (c2h hA e6) ?_ { tk:=[27],esc:=[7] };refine zF (nT (zs ?_)) { tk:=[27],esc:=[7] };refine zB (nT (zs (zs (zn ?_))));obtain ⟨P,e8,h⟩:=a0a h;refine zD (c2V hA e8) ?_;refine zF (nT (zb ?_));obtain ⟨o3,r1,l0,m1,N⟩:=a0m h;refine zM 0 [7,8] [] 2 (fun τ => ∃ v,l0 v=some (s,u)/\τ=⟨[(7,.ptr 0 0),(8,(.map 1))],[.cells [zl 3 g],(.map true [.int .i64,.int .i64] v)],114⟩) ?_ ?_
  ·refine zP r1 [1,7,8,30,31,32] [] 2 (fun (U,e0)=>⟨[(1,zl 1 X),(7,.ptr 0 0),(8,(.map 1)),(30,(.own 2 P)),(31,(.d (.int .i64 (A.len P)))),(32,zi U)],[.cells [zl 3 g],(.map true [.int .i64,.int .i64] e0)],114⟩) ⟨rfl,zv⟩ ?_;rintro ⟨U,e0⟩ j2 c;dsimp only [b1s] at c;refine zs (zA (nT (zs ?_)));rcases tf (A.zlt U (A.len P)) with F | F
   ·replace c:=cT F c;refine zT (zk (nT (zs (zb (zs ?_)))));obtain ⟨⟨b2,c2⟩,w0,c⟩:=a0a c;obtain ⟨v2,w2⟩:=gtI w0;refine zB (nT ?_) { tk:=[35] };obtain ⟨d2,y0,c⟩:=a0a c;obtain ⟨y2,z2⟩:=gtI y0;obtain ⟨e2,z0,c⟩:=a0a c;obtain ⟨a3,b3⟩:=gtI z0;refine zH ?_;refine nB (nT (zB ?_));exact nT ⟨_,(soI c).symm,rfl,zv⟩
   replace c:=cF F c;refine zU (AWp.exit (xT (xT ?_)));refine exL c ?_;rintro rfl;exact oxI ⟨rfl,_,N,zv⟩
  rintro _ ⟨v,N,rfl⟩;have h:=(m1 _ N);refine xB (nT (zs (zA (nT (zs (zs ?_))))));refine zA (nT (zb ?_));refine AWp.weak (Wk.settleS 11 rfl (lb rfl)) ?_;obtain ⟨p3,s1,m0,n1,O⟩:=a0m h;refine AWp.cutXW 2 (fun τ => ∃ W,m0 W=some (s,u)/\τ=⟨[(7,.ptr 0 0),(8,(.map 1)),(11,.gref 2 1)],[.cells [zl 3 g],(.map true [.int .i64,.int .i64] v),.gro 1 W,.dead,.dead],114⟩) ?_ ?_
  ·refine AWp.iterW s1 (fun (V,g0)=>⟨[(7,.ptr 0 0),(8,(.map 1)),(11,.gref 2 1),(49,(.d (.int .i64 (A.len g)))),(50,zi V)],[.cells [zl 3 g],(.map true [.int .i64,.int .i64] v),.gro 1 g0,.dead,.dead],114⟩) ⟨_,zR zy7 [7,8,11,49,50],rfl⟩ ?_;rintro ⟨V,g0⟩ k2 j;dsimp only [b1t] at j;refine zs (zA (nT (zs ?_)));rcases tf (A.zlt V (A.len g)) with G | G
   ·replace j:=cT G j;refine zT (zk (nT (zs (zb (zs ?_)))));refine zB (nT ?_);obtain ⟨k3,a1,j⟩:=a0a j;obtain ⟨c3,d3⟩:=apI a1;refine zB (nB (nT ?_)) { tk:=[11,56],gr:=[56] };refine zB ?_;exact nT ⟨_,(soI j).symm,_,zR [some 0,some 1,some 5,some 6,some 7] [7,8,11,49,50],rfl⟩
   replace j:=cF G j;refine zU (AWp.exit (xT (xT ?_)));refine exL j ?_;rintro rfl;exact b1i ⟨_,zR zy7 [7,8,11],_,O,rfl⟩
  rintro _ ⟨W,O,rfl⟩;have h:=(n1 _ O);refine xB (nT (zs (zn ?_)));obtain ⟨e,b1,h⟩:=a0a h;refine zC (c4F hA b1) ?_;refine zE (nT (zs ?_));obtain ⟨_,c1,h⟩:=a0a h;have g3:=ckI c1;obtain ⟨_,d1,h⟩:=a0a h;have i3:=ckI d1;obtain ⟨_,e1,h⟩:=a0a h;have j3:=ckI e1;refine zB (nT (zs (zs ?_))) { gr:=[63] };refine zA (nT (zb ?_));refine AWp.weak (Wk.ren [some 0,some 1,some 5,some 6,some 7,some 2,some 3,some 4] [7,8,13,64,65,66] rfl rfl) ?_;obtain ⟨n3,q1,k0,l1,M⟩:=a0m h;refine AWp.cutXW 4 (fun τ => ∃ S,k0 S=some (s,u)/\τ=⟨[(13,.gref 0 1)],[.gro 1 S,.dead,.dead],114⟩) ?_ ?_
  ·refine AWp.iterW q1 (fun (l,q,m)=>⟨[(7,.ptr 0 0),(8,(.map 1)),(13,.gref 2 1),(64,.gref 5 1),(65,(.d (.int .i64 (A.len e)))),(66,zi l)],[.cells [zl 3 g],(.map true [.int .i64,.int .i64] q),.gro 1 m,.dead,.dead,.gro 1 e,.dead,.dead],114⟩) ⟨_,zR zy5 [7,8,13,64,65,66],rfl⟩ ?_;rintro ⟨l,q,m⟩ b0 a;dsimp only [b1w] at a;refine zs (zA (nT (zs ?_)));rcases tf (A.zlt l (A.len e)) with B | B
   ·replace a:=cT B a;refine zT (zk (nT (zs (zb (zs ?_)))));obtain ⟨_,n0,a⟩:=a0a a;have l2:=ckI n0;obtain ⟨_,o0,a⟩:=a0a a;have m2:=ckI o0;obtain ⟨p,p0,a⟩:=a0a a;have n2:=gcI p0;refine zB (nT (zs ?_));obtain ⟨⟨w,y,o⟩,q0,a⟩:=a0a a;obtain ⟨o2,p2⟩:=gtI q0;refine zB (nT (zs ?_)) { tk:=[73] };refine zB (nT (zs (zs ?_)));refine zB (nT (zb ?_));obtain ⟨l3,o1,i0,j1,K⟩:=a0m a;refine AWp.cutXW 6 (fun τ => ∃ r,i0 r=some b0/\τ=⟨[(7,.ptr 0 0),(8,(.map 1)),(13,.gref 2 1),(15,zi p),(16,(.lbox [zi w,zi y,zi o])),(17,zi r),(64,.gref 5 1),(65,(.d (.int .i64 (A.len e)))),(66,zi l)],[.cells [zl 3 g],(.map true [.int .i64,.int .i64] q),.gro 1 m,.dead,.dead,.gro 1 e,.dead,.dead],114⟩) ?_ ?_
    ·refine AWp.iterW o1 (fun (c0,z)=>⟨[(7,.ptr 0 0),(8,(.map 1)),(13,.gref 2 1),(15,zi p),(16,(.lbox [zi w,zi y,zi o])),(17,zi c0),(18,zi z),(64,.gref 5 1),(65,(.d (.int .i64 (A.len e)))),(66,zi l)],[.cells [zl 3 g],(.map true [.int .i64,.int .i64] q),.gro 1 m,.dead,.dead,.gro 1 e,.dead,.dead],114⟩) ⟨_,zR zy5 [7,8,13,15,16,17,18,64,65,66],rfl⟩ ?_;rintro ⟨c0,z⟩ g2 i;dsimp only [b1u] at i;refine zs (zs (zA (nT ?_)));rcases tf (A.zlt z o) with C | C
     ·replace i:=cT C i;refine zT (zk (nT (zs (zb ?_))));obtain ⟨w1,k,i⟩:=a0a i;refine AWp.cutW (fun τ=>τ=⟨[(7,.ptr 0 0),(8,(.map 1)),(13,.gref 2 1),(15,zi p),(16,(.lbox [zi w,zi y,zi o])),(17,zi w1),(18,zi z),(64,.gref 5 1),(65,(.d (.int .i64 (A.len e)))),(66,zi l)],[.cells [zl 3 g],(.map true [.int .i64,.int .i64] q),.gro 1 m,.dead,.dead,.gro 1 e,.dead,.dead],114⟩) ?_ ?_
      ·obtain ⟨u1,Y,k⟩:=a0a k;rcases u1 with _ | y1
       ·have g1:=lkN Y;replace k:=noE k;refine zB ?_ { tk:=[89] };cases soI k;exact oWi ⟨_,zR zy5 [7,8,13,15,16,17,18,64,65,66],rfl⟩
       have g1:=lkS Y;replace k:=soE k;refine zB ?_ { tk:=[89] };cases soI k;exact oWi ⟨_,zR zy5 [7,8,13,15,16,17,18,64,65,66],rfl⟩
      rintro _ rfl;refine nB (nT (zA ?_));exact nT ⟨_,(soI i).symm,_,zR zy5 [7,8,13,15,16,17,18,64,65,66],rfl⟩
     replace i:=cF C i;refine zU (AWp.exit (xT (xT ?_)));refine exL i ?_;rintro rfl;exact b1i ⟨_,zR zy5 [7,8,13,15,16,17,64,65,66],_,K,rfl⟩
    rintro _ ⟨r,K,rfl⟩;have a:=(j1 _ K);refine xB (nT (zs (zs (zA (nT (zb ?_))))));obtain ⟨m3,p1,j0,k1,L⟩:=a0m a;refine AWp.cutXW 8 (fun τ => ∃ R,j0 R=some b0/\τ=⟨[(7,.ptr 0 0),(8,(.map 1)),(13,.gref 2 1),(15,zi p),(17,zi r),(64,.gref 5 1),(65,(.d (.int .i64 (A.len e)))),(66,zi l)],[.cells [zl 3 g],(.map true [.int .i64,.int .i64] R),.gro 1 m,.dead,.dead,.gro 1 e,.dead,.dead],114⟩) ?_ ?_
    ·refine AWp.iterW p1 (fun (Q,d0)=>⟨[(7,.ptr 0 0),(8,(.map 1)),(13,.gref 2 1),(15,zi p),(16,(.lbox [zi w,zi y,zi o])),(17,zi r),(19,zi Q),(64,.gref 5 1),(65,(.d (.int .i64 (A.len e)))),(66,zi l)],[.cells [zl 3 g],(.map true [.int .i64,.int .i64] d0),.gro 1 m,.dead,.dead,.gro 1 e,.dead,.dead],114⟩) ⟨_,zR zy5 [7,8,13,15,16,17,19,64,65,66],rfl⟩ ?_;rintro ⟨Q,d0⟩ i2 b;dsimp only [b1v] at b;refine zs (zs (zA (nT ?_)));rcases tf (A.zlt Q o) with E | E
     ·replace b:=cT E b;refine zT (zk (nT (zs (zb ?_))));obtain ⟨v1,a0,b⟩:=a0a b;rcases v1 with _ | z1
      ·have i1:=lkN a0;replace b:=noE b;cases b
      have i1:=lkS a0;replace b:=soE b;obtain ⟨_,r0,b⟩:=a0a b;have q2:=ckI r0;refine zH ?_;refine nB (nT (zB ?_));exact nT ⟨_,(soI b).symm,_,zR zy5 [7,8,13,15,16,17,19,64,65,66],rfl⟩
     replace b:=cF E b;refine zU (AWp.exit (xT (xT ?_)));refine exL b ?_;rintro rfl;exact b1i ⟨_,zR zy5 [7,8,13,15,17,64,65,66],_,L,rfl⟩
    rintro _ ⟨R,L,rfl⟩;have a:=(k1 _ L);refine xB (nT ?_);obtain ⟨_,s0,a⟩:=a0a a;have r2:=ckI s0;obtain ⟨_,u0,a⟩:=a0a a;have s2:=ckI u0;obtain ⟨a2,v0,a⟩:=a0a a;have u2:=gcI v0;refine zB (nB (nT ?_)) { tk:=[17,110] };refine zA ?_;exact nT ⟨_,(soI a).symm,_,zR zy5 [7,8,13,64,65,66],rfl⟩
   replace a:=cF B a;refine zU (AWp.exit (xT (xT ?_)));refine exL a ?_;rintro rfl;exact b1i ⟨_,zR [some 2,some 3,some 4] [13],_,M,rfl⟩
  rintro _ ⟨S,M,rfl⟩;have h:=(l1 _ M);refine xB (nT (zs (zA (nT ?_))));refine AWp.weak (Wk.freezeS 4 rfl rfl) ?_;refine zr ?_;cases soI h;exact zq
 replace h:=cF J h;refine zT (zs ?_);refine zB (nT (zr (rT ?_)));cases soI h;exact zq
end Go.Am
