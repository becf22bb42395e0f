import Derived.Test.YtlljehkmemajkaaGreatGenw3
set_option maxRecDepth 100000
set_option maxHeartbeats 2000000
set_option linter.unusedVariables false
set_option linter.unusedSimpArgs false
namespace Go.Am
open Go Go.Proofs
theorem c4O {A:Ar} (hA:SA A) {j c:List D} {v:Bool} (h:N79 A j c=some v):a0e Tryz.prog 79 [zl 1 j,zl 2 c] [] (.d (.bool v)) []:=by
 unfold N79 at h;refine zI Tryz.func79 ?_;refine zs (zA (nT (zs (zs ?_))));refine zA (nT (zb ?_));obtain ⟨W,K,B,u,g⟩:=a0m h;refine zM 0 [] [] 0 (fun τ=>B (.inl ())=some v/\τ=⟨[],[],69⟩) ?_ ?_
 ·refine zP K [0,1,7,8,9] [] 0 (fun i=>⟨[(0,zl 1 j),(1,zl 2 c),(7,zl 2 c),(8,(.d (.int .i64 (A.len c)))),(9,zi i)],[],69⟩) ⟨rfl,zc⟩ ?_;rintro i O a;dsimp only [b2z] at a;refine zs (zA (nT (zs ?_)));rcases tf (A.zlt i (A.len c)) with l | l
  ·replace a:=cT l a;refine zT (zk (nT (zs (zb (zs ?_)))));obtain ⟨⟨k,C⟩,E,a⟩:=a0a a;obtain ⟨P,Q⟩:=gtI E;refine zB (nT (zs (zs ?_))) { tk:=[13] };obtain ⟨y,e,a⟩:=a0a a;refine zN [0,1,5,6,7,8,9,32] [] 0 (fun τ=>τ=⟨[(0,zl 1 j),(1,zl 2 c),(5,zi i),(6,(.lbox [zi k,zi C])),(7,zl 2 c),(8,(.d (.int .i64 (A.len c)))),(9,zi i),(32,.d (.bool y))],[],69⟩) ?_ ?_
   ·refine zQ ?_;obtain ⟨L,F,e⟩:=a0a e;refine a0W.c0 hT hA {} rfl zu (b5e hA F) rfl rfl (lb rfl) rfl rfl ?_;rcases tf L with m | m
    ·replace e:=cT m e;obtain ⟨M,G,e⟩:=a0a e;obtain ⟨R,S⟩:=gtI G;refine zJ ?_;cases soI e;exact zO
    replace e:=cF m e;refine zJ ?_;cases soI e;exact zO
   rintro _ rfl;refine nT ?_;rcases tf y with o | o
   ·replace a:=cT o a;refine zT (zs ?_);refine zB (nT (zr (rT (rB (rT (rT ?_))))));refine exL a ?_;rintro rfl;refine oxR ?_;replace g:=(eR (u _ g));refine rB (rT ?_);cases soI g;exact zq
   replace a:=cF o a;refine zU (zk (nT (zs ?_)));obtain ⟨z,b,a⟩:=a0a a;refine zN [0,1,7,8,9,67] [] 0 (fun τ=>τ=⟨[(0,zl 1 j),(1,zl 2 c),(7,zl 2 c),(8,(.d (.int .i64 (A.len c)))),(9,zi i),(67,.d (.bool z))],[],69⟩) ?_ ?_
   ·rcases tf (A.zlt 0 i) with p | p
    ·replace b:=cT p b;obtain ⟨⟨w,N⟩,J,b⟩:=a0a b;obtain ⟨U,V⟩:=gtI J;rcases tf (A.zlt k w) with q | q
     ·replace b:=cT q b;refine zH ?_;cases soI b;exact zO
     replace b:=cF q b;rcases tf (A.zeq k w) with r | r
     ·replace b:=cT r b;refine zH ?_;cases soI b;exact zO
     replace b:=cF r b;refine zH ?_;cases soI b;exact zO
    replace b:=cF p b;refine zH ?_;cases soI b;exact zO
   rintro _ rfl;refine nT ?_;rcases tf z with s | s
   ·replace a:=cT s a;refine zT (zs ?_);refine zB (nT (zr (rB (rT (rT ?_)))));refine exL a ?_;rintro rfl;refine oxR ?_;replace g:=(eR (u _ g));refine rB (rT ?_);cases soI g;exact zq
   replace a:=cF s a;refine zU (zk (nB (nT ?_)));refine zB ?_;exact nT ⟨_,(soI a).symm,rfl,zv⟩
  replace a:=cF l a;refine zU (AWp.exit (xT (xT ?_)));refine exL a ?_;rintro rfl;exact oxI ⟨rfl,g,zv⟩
 rintro _ ⟨g,rfl⟩;have h:=(eL (u _ g));refine xB (nT (zs (zA (nT (zr ?_)))));cases soI h;exact zq

theorem c4P {A:Ar} (hA:SA A) {e g:List D} {c:Int} (h:N44 A e g=some c):a0e Tryz.prog 44 [zl 1 e,zl 2 g] [] (zi c) []:=by
 unfold N44 at h;refine zI Tryz.func44 ?_;refine zs (zA (nT (zs (zs (zn ?_)))));obtain ⟨k,i,h⟩:=a0a h;refine zC (c2B hA i) ?_;refine zE (nT ?_);rcases tf k with a | a
 ·replace h:=cT a h;refine zU (zk (nT (zs (zs (zn ?_)))));obtain ⟨l,j,h⟩:=a0a h;refine zD (c4O hA j) ?_;refine zF (nT ?_);rcases tf l with b | b
  ·replace h:=cT b h;refine zU (zk (nT (zs ?_)));refine zB (nT (zr ?_));cases soI h;exact zq
  replace h:=cF b h;refine zT (zs ?_);refine zB (nT (zr (rT ?_)));cases soI h;exact zq
 replace h:=cF a h;refine zT (zs ?_);refine zB (nT (zr (rT ?_)));cases soI h;exact zq

theorem c4Q {A:Ar} (hA:SA A) {k b:List D} {j:Int} (h:N45 A k b=some j):a0e Tryz.prog 45 [zl 1 k,zl 2 b] [] (zi j) []:=by
 unfold N45 at h;refine zI Tryz.func45 ?_;refine zs (zA (nT (zs ?_)));refine zA (nT (zs (zs ?_)));refine zA (nT (zb ?_));obtain ⟨K,s,m,r,e⟩:=a0m h;refine zM 0 [5] [] 0 (fun τ => ∃ i,m i=some j/\τ=⟨[(5,zi i)],[],27⟩) ?_ ?_
 ·refine zP s [0,5,8,9,10] [] 0 (fun (l,g)=>⟨[(0,zl 1 k),(5,zi l),(8,zl 2 b),(9,(.d (.int .i64 (A.len b)))),(10,zi g)],[],27⟩) ⟨rfl,zc⟩ ?_;rintro ⟨l,g⟩ z a;dsimp only [b9G] at a;refine zs (zA (nT (zs ?_)));rcases tf (A.zlt g (A.len b)) with c | c
  ·replace a:=cT c a;refine zT (zk (nT (zs (zb (zs ?_)))));obtain ⟨⟨u,v⟩,o,a⟩:=a0a a;obtain ⟨B,C⟩:=gtI o;refine zB (nT ?_) { tk:=[13] };obtain ⟨w,p,a⟩:=a0a a;obtain ⟨E,F⟩:=gtI p;obtain ⟨y,q,a⟩:=a0a a;obtain ⟨G,J⟩:=gtI q;refine zH ?_ { tk:=[24] };refine nB (nT (zB ?_));exact nT ⟨_,(soI a).symm,rfl,zv⟩
  replace a:=cF c a;refine zU (AWp.exit (xT (xT ?_)));refine exL a ?_;rintro rfl;exact oxI ⟨rfl,_,e,zv⟩
 rintro _ ⟨i,e,rfl⟩;have h:=(r _ e);refine xB (nT (zs (zA (nT (zr ?_)) { tk:=[5,26] })));cases soI h;exact zq

theorem c4R {A:Ar} (hA:SA A) {g i j:List D} {c e:Int} (h:N17 A g i j=some (c,e)):a0e Tryz.prog 17 [zl 1 g,zl 1 i,zl 2 j] [] (.tuple [zi c,zi e]) []:=by
 unfold N17 at h;refine zI Tryz.func17 ?_;refine zs (zA (nT (zs (zs (zn ?_)))));obtain ⟨n,l,h⟩:=a0a h;refine zC (c4P hA l) ?_;refine zE (nT (zs ?_));refine zA (nT ?_);rcases tf (A.zeq n 0) with a | a
 ·replace h:=cT a h;refine zU (zk (nT (zs (zs (zn ?_)))));obtain ⟨o,m,h⟩:=a0a h;refine zD (c2C hA m) ?_;refine zF (nT ?_);rcases tf o with b | b
  ·replace h:=cT b h;refine zU (zk (nT (zs (zn ?_))));obtain ⟨p,k,h⟩:=a0a h;refine zD (c4Q hA k) ?_;refine zF (nT (zr ?_));cases soI h;exact zq
  replace h:=cF b h;refine zT (zs ?_);refine zB (nT (zr (rT ?_)));cases soI h;exact zq
 replace h:=cF a h;refine zT (zs ?_);refine zB (nT (zr (rT ?_)));cases soI h;exact zq

theorem c4S {A:Ar} (hA:SA A) {c:List D} {e g l:Int} (h:N55 A c e g=some l):a0e Tryz.prog 55 [zl 2 c,.d (.agg [.int .i64 e,.int .i64 g])] [] (zi l) []:=by
 unfold N55 at h;refine zI Tryz.func55 ?_;refine zs (zA (nT (zs (zs ?_))));refine zA (nT (zb ?_));obtain ⟨y,s,o,m,b⟩:=a0m h;refine zM 0 [] [] 0 (fun τ=>o (.inl ())=some l/\τ=⟨[],[],19⟩) ?_ ?_
 ·refine zP s [0,3,7,8] [] 0 (fun k=>⟨[(0,zl 2 c),(3,(.lbox [zi e,zi g])),(7,(.d (.int .i64 (A.len c)))),(8,zi k)],[],19⟩) ⟨rfl,zc⟩ ?_;rintro k u a;dsimp only [b2A] at a;refine zs (zA (nT (zs ?_)));rcases tf (A.zlt k (A.len c)) with i | i
  ·replace a:=cT i a;refine zT (zk (nT (zs (zb (zs ?_)))));refine zB (nT (zs ?_)) { tk:=[8,10] };obtain ⟨⟨p,q⟩,r,a⟩:=a0a a;obtain ⟨v,w⟩:=gtI r;refine zH ?_;refine nT ?_;rcases tf (A.deq [.int .i64 e,.int .i64 g] [.int .i64 p,.int .i64 q]) with j | j
   ·replace a:=cT j a;refine zT (zs ?_);refine zB (nT (zr (rB (rT (rT ?_))))) { tk:=[5,17] };refine exL a ?_;rintro rfl;refine oxR ?_;replace b:=(eR (m _ b));refine rB (rT ?_);cases soI b;exact zq
   replace a:=cF j a;refine zU (zk (nB (nT ?_)));refine zB ?_ { tk:=[18] };exact nT ⟨_,(soI a).symm,rfl,zv⟩
  replace a:=cF i a;refine zU (AWp.exit (xT (xT ?_)));refine exL a ?_;rintro rfl;exact oxI ⟨rfl,b,zv⟩
 rintro _ ⟨b,rfl⟩;have h:=(eL (m _ b));refine xB (nT (zs (zA (nT (zr ?_)))));cases soI h;exact zq

theorem c3W {A:Ar} (hA:SA A) {b:List D} {c e:Int} {a:Bool} (h:N28 A b c e=some a):a0e Tryz.prog 28 [zl 2 b,.d (.agg [.int .i64 c,.int .i64 e])] [] (.d (.bool a)) []:=by
 unfold N28 at h;refine zI Tryz.func28 ?_;refine zs (zA (nT (zs (zn ?_))));obtain ⟨i,g,h⟩:=a0a h;refine zC (c4S hA g) ?_ { tk:=[8] };refine zE (nT (zr ?_)) { tk:=[8] };cases soI h;exact zq

theorem c3X {A:Ar} (hA:SA A) {c e:List D} {o:Int} (h:N62 A c e=some o):a0e Tryz.prog 62 [zl 1 c,zl 1 e] [] (zi o) []:=by
 unfold N62 at h;refine zI Tryz.func62 ?_;refine zs (zA (nT (zs (zs ?_))));refine zA (nT (zb ?_));obtain ⟨G,u,p,m,b⟩:=a0m h;refine zM 0 [0,1] [] 0 (fun τ=>p (.inl ())=some o/\τ=⟨[(0,zl 1 c),(1,zl 1 e)],[],36⟩) ?_ ?_
 ·refine zP u [0,1,9,10,11] [] 0 (fun g=>⟨[(0,zl 1 c),(1,zl 1 e),(9,zl 1 c),(10,(.d (.int .i64 (A.len c)))),(11,zi g)],[],36⟩) ⟨rfl,zc⟩ ?_;rintro g z a;dsimp only [a9h] at a;refine zs (zA (nT (zs ?_)));rcases tf (A.zlt g (A.len c)) with i | i
  ·replace a:=cT i a;refine zT (zk (nT (zs (zb (zs ?_)))));obtain ⟨w,q,a⟩:=a0a a;obtain ⟨B,C⟩:=gtI q;refine zB (nT (zs (zs ?_)));refine zB (nT ?_);rcases tf (A.zle (A.len e) g) with j | j
   ·replace a:=cT j a;refine zT (zs ?_);refine zB (nT (zr (rT (rB (rT (rT ?_))))));refine exL a ?_;rintro rfl;refine oxR ?_;replace b:=(eR (m _ b));refine rB (rT ?_);cases soI b;exact zq
   replace a:=cF j a;refine zU (zk (nT (zs ?_)));obtain ⟨y,r,a⟩:=a0a a;obtain ⟨E,F⟩:=gtI r;refine zB (nT (zs (zn ?_)));obtain ⟨v,s,a⟩:=a0a a;refine zD (c2i hA s) ?_ { tk:=[26] };refine zF (nT (zs ?_)) { tk:=[26] };refine zB (nT ?_);rcases tf (A.zeq v 0) with k | k
   ·replace a:=cT k a;refine zU (zk (nB (nT ?_)));refine zB ?_;exact nT ⟨_,(soI a).symm,rfl,zv⟩
   replace a:=cF k a;refine zT (zs ?_);refine zB (nT (zr (rB (rT (rT ?_))))) { tk:=[8,29] };refine exL a ?_;rintro rfl;refine oxR ?_;replace b:=(eR (m _ b));refine rB (rT ?_);cases soI b;exact zq
  replace a:=cF i a;refine zU (AWp.exit (xT (xT ?_)));refine exL a ?_;rintro rfl;exact oxI ⟨rfl,b,zv⟩
 rintro _ ⟨b,rfl⟩;have h:=(eL (m _ b));refine xB (nT (zs (zs (zA (nT ?_)))));rcases tf (A.zlt (A.len c) (A.len e)) with l | l
 ·replace h:=cT l h;refine zT (zs ?_);refine zB (nT (zr (rT ?_)));cases soI h;exact zq
 replace h:=cF l h;refine zU (zk (nT (zs ?_)));refine zB (nT (zr ?_));cases soI h;exact zq

theorem c4T {A:Ar} (hA:SA A) {y c p:List D} {q:Bool} (h:N48 A y c=some (p,q)):a0e Tryz.prog 48 [zl 1 y,zl 2 c] [] (.tuple [zl 2 p,.d (.bool q)]) []:=by
 unfold N48 at h;refine zI Tryz.func48 ?_;refine zs (zA (nT (zs (zn ?_))));obtain ⟨v,C,h⟩:=a0a h;refine zC (c2V hA C) ?_;refine zE (nT (zs ?_));refine zA (nT (zs (zs ?_)));refine zA (nT (zb ?_));obtain ⟨Y,K,z,u,e⟩:=a0m h;refine zM 0 [7] [] 0 (fun τ => ∃ o,z (.inl o)=some (p,q)/\τ=⟨[(7,(.own 2 o))],[],43⟩) ?_ ?_
 ·refine zP K [1,6,7,12,13,14] [] 0 (fun (m,g)=>⟨[(1,zl 2 c),(6,zl 2 v),(7,(.own 2 m)),(12,zl 2 c),(13,(.d (.int .i64 (A.len c)))),(14,zi g)],[],43⟩) ⟨rfl,zc⟩ ?_;rintro ⟨m,g⟩ O a;dsimp only [b1F] at a;refine zs (zA (nT (zs ?_)));rcases tf (A.zlt g (A.len c)) with i | i
  ·replace a:=cT i a;refine zT (zk (nT (zs (zb (zs ?_)))));obtain ⟨⟨r,s⟩,B,a⟩:=a0a a;obtain ⟨P,Q⟩:=gtI B;refine zB (nT (zs (zs ?_))) { tk:=[18] };obtain ⟨w,b,a⟩:=a0a a;refine zN [1,6,7,9,12,13,14,36] [] 0 (fun τ=>τ=⟨[(1,zl 2 c),(6,zl 2 v),(7,(.own 2 m)),(9,.iptr [.int .i64 r,.int .i64 s]),(12,zl 2 c),(13,(.d (.int .i64 (A.len c)))),(14,zi g),(36,.d (.bool w))],[],43⟩) ?_ ?_
   ·refine AWp.freezeBox 9 [.int .i64 r,.int .i64 s] rfl rfl ?_;refine zQ ?_;obtain ⟨L,E,b⟩:=a0a b;refine a0W.c0 hT hA {} rfl zu (c3W hA E) rfl rfl (lb rfl) rfl rfl ?_;rcases tf L with j | j
    ·replace b:=cT j b;rcases tf (A.zlt 0 g) with k | k
     ·replace b:=cT k b;obtain ⟨⟨M,N⟩,F,b⟩:=a0a b;obtain ⟨R,S⟩:=gtI F;obtain ⟨X,G,b⟩:=a0a b;refine a0W.c0 hT hA {} rfl zu (c3X hA G) rfl rfl (lb rfl) rfl rfl ?_;refine zJ ?_;cases soI b;exact zO
     replace b:=cF k b;refine zJ ?_;cases soI b;exact zO
    replace b:=cF j b;refine zJ ?_;cases soI b;exact zO
   rintro _ rfl;refine nT ?_;rcases tf w with l | l
   ·replace a:=cT l a;refine zT (zs ?_);refine zB (nT (zr (rT (rB (rT (rT ?_))))));refine exL a ?_;rintro rfl;refine oxR ?_;replace e:=(eR (u _ e));refine rB (rT ?_);cases soI e;exact zq
   replace a:=cF l a;refine zU (zk (nT ?_));obtain ⟨W,J,a⟩:=a0a a;obtain ⟨U,V⟩:=apI J;refine zB (nB (nT ?_)) { tk:=[7,40] };refine zB ?_;exact nT ⟨_,(soI a).symm,rfl,zv⟩
  replace a:=cF i a;refine zU (AWp.exit (xT (xT ?_)));refine exL a ?_;rintro rfl;exact oxI ⟨rfl,_,e,zv⟩
 rintro _ ⟨o,e,rfl⟩;have h:=(eL (u _ e));refine xB (nT (zs (zA (nT (zr ?_)))));cases soI h;exact zq

theorem c4U {A:Ar} (hA:SA A) {g i c:List D} {e:Int} (h:N24 A g i=some (c,e)):a0e Tryz.prog 24 [zl 1 g,zl 2 i] [] (.tuple [zl 2 c,zi e]) []:=by
 unfold N24 at h;refine zI Tryz.func24 ?_;refine zs (zA (nT (zs (zs (zn ?_)))));obtain ⟨l,j,h⟩:=a0a h;refine zC (c2f hA j) ?_;refine zE (nT ?_);rcases tf l with a | a
 ·replace h:=cT a h;refine zU (zk (nT (zs (zn ?_))));obtain ⟨⟨n,m⟩,k,h⟩:=a0a h;refine zD (c4T hA k) ?_;refine zF (nT (zs (zs ?_)));refine zB (nT ?_);rcases tf m with b | b
  ·replace h:=cT b h;refine zU (zk (nT (zs ?_)));refine zB (nT (zr ?_));cases soI h;exact zq
  replace h:=cF b h;refine zT (zs ?_);refine zB (nT (zr (rT ?_)));cases soI h;exact zq
 replace h:=cF a h;refine zT (zs ?_);refine zB (nT (zr (rT ?_)));cases soI h;exact zq

theorem c4V {A:Ar} (hA:SA A) {c p:List D} (h:N27 A c=some p):a0e Tryz.prog 27 [zl 1 c] [] (.own 2 p) []:=by
 unfold N27 at h;refine zI Tryz.func27 ?_;refine zs (zA (nT (zs ?_)));refine zA (nT (zs (zs ?_)));refine zA (nT (zb ?_));obtain ⟨P,F,v,C,k⟩:=a0m h;refine zM 0 [3] [] 0 (fun τ => ∃ o,v o=some p/\τ=⟨[(3,(.own 2 o))],[],28⟩) ?_ ?_
 ·refine zP F [3,7,8,9] [] 0 (fun (r,e)=>⟨[(3,(.own 2 r)),(7,zl 1 c),(8,(.d (.int .i64 (A.len c)))),(9,zi e)],[],28⟩) ⟨rfl,zc⟩ ?_;rintro ⟨r,e⟩ z a;dsimp only [b1H] at a;refine zs (zA (nT (zs ?_)));rcases tf (A.zlt e (A.len c)) with g | g
  ·replace a:=cT g a;refine zT (zk (nT (zs (zb (zs ?_)))));obtain ⟨q,w,a⟩:=a0a a;obtain ⟨J,K⟩:=gtI w;refine zB (nT (zs ?_));refine zB (nT (zb ?_));obtain ⟨O,E,u,B,j⟩:=a0m a;refine zM 2 [3,7,8,9] [] 0 (fun τ => ∃ m,u m=some z/\τ=⟨[(3,(.own 2 m)),(7,zl 1 c),(8,(.d (.int .i64 (A.len c)))),(9,zi e)],[],28⟩) ?_ ?_
   ·refine zP E [3,4,7,8,9,15,16] [] 0 (fun (s,l)=>⟨[(3,(.own 2 s)),(4,zi e),(7,zl 1 c),(8,(.d (.int .i64 (A.len c)))),(9,zi e),(15,(.d (.int .i64 (A.len q)))),(16,zi l)],[],28⟩) ⟨rfl,zv⟩ ?_;rintro ⟨s,l⟩ G b;dsimp only [b1G] at b;refine zs (zA (nT (zs ?_)));rcases tf (A.zlt l (A.len q)) with i | i
    ·replace b:=cT i b;refine zT (zk (nT (zs (zb (zs ?_)))));refine zB (nT ?_);obtain ⟨N,y,b⟩:=a0a b;obtain ⟨L,M⟩:=apI y;refine zB (nB (nT ?_)) { tk:=[3,24] };refine zB ?_;exact nT ⟨_,(soI b).symm,rfl,zv⟩
    replace b:=cF i b;refine zU (AWp.exit (xT (xT ?_)));refine exL b ?_;rintro rfl;exact oxI ⟨rfl,_,j,zv⟩
   rintro _ ⟨m,j,rfl⟩;have a:=(B _ j);refine xB (nB (nT (zA ?_)));exact nT ⟨_,(soI a).symm,rfl,zc⟩
  replace a:=cF g a;refine zU (AWp.exit (xT (xT ?_)));refine exL a ?_;rintro rfl;exact oxI ⟨rfl,_,k,zv⟩
 rintro _ ⟨o,k,rfl⟩;have h:=(C _ k);refine xB (nT (zs (zA (nT (zr ?_)) { tk:=[3,27] })));cases soI h;exact zq

theorem N8w {A:Ar} (hA:SA A) {b R J:List D} {K:Int} (h:N8 A b R=some (J,K)):a0e Tryz.prog 8 [zl 1 b,zl 2 R] [] (.tuple [zl 1 J,zi K]) []:=by
 unfold N8 at h;refine zI Tryz.func8 ?_;refine zs (zA (nT (zs (zn ?_))));obtain ⟨⟨l,L⟩,e3,h⟩:=a0a h;refine zC (c4U hA e3) ?_;refine zE (nT (zs (zs ?_)));obtain ⟨Q,g,h⟩:=a0a h;refine zN [0,6,7,29] [] 0 (fun τ=>τ=⟨[(0,zl 1 b),(6,zl 2 l),(7,zi L),(29,.d (.bool Q))],[],79⟩) ?_ ?_
 ·refine zn ?_;rcases tf (A.zeq L 0) with w | w
  ·replace g:=cT w g;obtain ⟨r8,e7,g⟩:=a0a g;refine zD (c4V hA e7) ?_;refine zF ?_;cases soI g;exact zO
  replace g:=cF w g;refine zF ?_;cases soI g;exact zO
 rintro _ rfl;refine nT ?_;obtain ⟨N,m,h⟩:=a0a h;refine zN [0,6,7] [] 0 (fun τ=>τ=⟨[(0,zl 1 b),(6,zl 2 l),(7,zi N)],[],79⟩) ?_ ?_
 ·rcases tf Q with q | q
  ·replace m:=cT q m;refine zT ?_;refine zB ?_;cases soI m;exact zO
  replace m:=cF q m;refine zU (zk ?_);cases soI m;exact zO
 rintro _ rfl;refine nT (zs (zs (zA (nT ?_))));rcases tf (A.zeq N 0) with v | v
 ·replace h:=cT v h;refine zU (zk (nT (zs ?_)));refine zB (nT (zs ?_));refine zB (nT (zs (zs ?_)));refine zB (nT (zb ?_));obtain ⟨k1,l0,U,j0,B⟩:=a0m h;refine zM 0 [9] [] 0 (fun τ => ∃ G,U G=some (J,K)/\τ=⟨[(9,(.own 1 G))],[],79⟩) ?_ ?_
  ·refine zP l0 [6,8,9,33,34,35] [] 0 (fun (P,p,e)=>⟨[(6,zl 2 l),(8,zi P),(9,(.own 1 p)),(33,zl 1 b),(34,(.d (.int .i64 (A.len b)))),(35,zi e)],[],79⟩) ⟨rfl,zv⟩ ?_;rintro ⟨P,p,e⟩ g0 c;dsimp only [b9u] at c;refine zs (zA (nT (zs ?_)));rcases tf (A.zlt e (A.len b)) with y | y
   ·replace c:=cT y c;refine zT (zk (nT (zs (zb (zs ?_)))));obtain ⟨k,e0,c⟩:=a0a c;obtain ⟨c1,d1⟩:=gtI e0;refine zB (nT (zs ?_));refine zB (nT (zs (zs ?_)));refine zB (nT (zb ?_));obtain ⟨j1,k0,S,i0,z⟩:=a0m c;refine zM 2 [6,8,9,12,33,34,35] [] 0 (fun τ => ∃ E F,S (E,F)=some g0/\τ=⟨[(6,zl 2 l),(8,zi E),(9,(.own 1 p)),(12,(.own 3 F)),(33,zl 1 b),(34,(.d (.int .i64 (A.len b)))),(35,zi e)],[],79⟩) ?_ ?_
    ·refine zP k0 [6,8,9,10,12,33,34,35,40,41,42] [] 0 (fun (M,C,o)=>⟨[(6,zl 2 l),(8,zi M),(9,(.own 1 p)),(10,zi e),(12,(.own 3 C)),(33,zl 1 b),(34,(.d (.int .i64 (A.len b)))),(35,zi e),(40,zl 2 k),(41,(.d (.int .i64 (A.len k)))),(42,zi o)],[],79⟩) ⟨rfl,zv⟩ ?_;rintro ⟨M,C,o⟩ q0 a;dsimp only [b7L] at a;refine zs (zA (nT (zs ?_)));rcases tf (A.zlt o (A.len k)) with r | r
     ·replace a:=cT r a;refine zT (zk (nT (zs (zb (zs ?_)))));obtain ⟨⟨V,W⟩,X,a⟩:=a0a a;obtain ⟨r0,s0⟩:=gtI X;refine zB (nT (zs ?_)) { tk:=[46] };refine zB (nT (zs (zs ?_))) { tk:=[49] };refine zB (nT ?_);obtain ⟨⟨O,n0,o0⟩,i,a⟩:=a0a a;refine zN [6,8,9,10,12,13,15,33,34,35,40,41,42] [] 0 (fun τ=>τ=⟨[(6,zl 2 l),(8,zi O),(9,(.own 1 p)),(10,zi e),(12,(.own 3 C)),(13,zi o),(15,(.lbox [zi n0,zi V,zi o0])),(33,zl 1 b),(34,(.d (.int .i64 (A.len b)))),(35,zi e),(40,zl 2 k),(41,(.d (.int .i64 (A.len k)))),(42,zi o)],[],79⟩) ?_ ?_
      ·rcases tf W with s | s
       ·replace i:=cT s i;refine zT (zs ?_);obtain ⟨_,Y,i⟩:=a0a i;have u0:=nkI Y;refine zB (nT ?_);refine zB ?_;cases soI i;exact zO
       replace i:=cF s i;refine zU (zk ?_);cases soI i;exact zO
      rintro _ rfl;refine nT (zs ?_);obtain ⟨e1,a0,a⟩:=a0a a;obtain ⟨v0,w0⟩:=apI a0;refine zB (nT (zs (zn ?_))) { tk:=[12,62] };obtain ⟨m0,b0,a⟩:=a0a a;refine zC (c3W hA b0) ?_;refine zE (nT ?_);obtain ⟨p0,j,a⟩:=a0a a;refine zN [6,8,9,10,12,33,34,35,40,41,42] [] 0 (fun τ=>τ=⟨[(6,zl 2 l),(8,zi O),(9,(.own 1 p)),(10,zi e),(12,(.own 3 p0)),(33,zl 1 b),(34,(.d (.int .i64 (A.len b)))),(35,zi e),(40,zl 2 k),(41,(.d (.int .i64 (A.len k)))),(42,zi o)],[],79⟩) ?_ ?_
      ·rcases tf m0 with u | u
       ·replace j:=cT u j;refine zT ?_;obtain ⟨g1,c0,j⟩:=a0a j;obtain ⟨y0,z0⟩:=apI c0;refine zB ?_ { tk:=[12,71] };cases soI j;exact zO
       replace j:=cF u j;refine zU (zk ?_);cases soI j;exact zO
      rintro _ rfl;refine nB (nT (zA ?_));exact nT ⟨_,(soI a).symm,rfl,zc⟩
     replace a:=cF r a;refine zU (AWp.exit (xT (xT ?_)));refine exL a ?_;rintro rfl;exact oxI ⟨rfl,_,_,z,zv⟩
    rintro _ ⟨E,F,z,rfl⟩;have c:=(i0 _ z);refine xB (nT ?_);obtain ⟨i1,d0,c⟩:=a0a c;obtain ⟨a1,b1⟩:=apI d0;refine zB (nB (nT ?_)) { tk:=[9,76] };refine zA ?_;exact nT ⟨_,(soI c).symm,rfl,zc⟩
   replace c:=cF y c;refine zU (AWp.exit (xT (xT ?_)));refine exL c ?_;rintro rfl;exact oxI ⟨rfl,_,B,zv⟩
  rintro _ ⟨G,B,rfl⟩;have h:=(j0 _ B);refine xB (nT (zs (zA (nT (zr ?_)))));cases soI h;exact zq
 replace h:=cF v h;refine zT (zs ?_);refine zB (nT (zr (rT ?_)));cases soI h;exact zq

theorem c2j {A:Ar} (hA:SA A) {c e i:Int} {g:Bool} (h:N97 A c e i=some g):a0e Tryz.prog 97 [zi c,zi e,zi i] [] (.d (.bool g)) []:=by
 unfold N97 at h;refine zI Tryz.func97 ?_;refine zs (zA (nT (zs ?_)));obtain ⟨j,a,h⟩:=a0a h;refine zN [6] [] 0 (fun τ=>τ=⟨[(6,.d (.bool j))],[],15⟩) ?_ ?_
 ·rcases tf (A.zle c e) with b | b
  ·replace a:=cT b a;refine zB ?_ { tk:=[14] };cases soI a;exact zO
  replace a:=cF b a;refine zB ?_ { tk:=[14] };cases soI a;exact zO
 rintro _ rfl;refine nT (zr ?_);cases soI h;exact zq

theorem c4W {A:Ar} (hA:SA A) {c l m:Int} {k:Bool} (h:N94 A c l m=some k):a0e Tryz.prog 94 [.d (.agg [.int .i64 c,.int .i64 l,.int .i64 m])] [] (.d (.bool k)) []:=by
 unfold N94 at h;refine zI Tryz.func94 ?_;refine zs (zA (nT (zs (zs ?_))));refine zA (nT (zb (zs ?_)));refine zA (nT ?_);rcases tf (A.zeq c 1) with i | i
 ·replace h:=cT i h;refine zT (zs ?_);obtain ⟨v,b,h⟩:=a0a h;refine zN [2] [] 0 (fun τ=>τ=⟨[(2,.d (.bool v))],[],28⟩) ?_ ?_
  ·refine zn ?_;obtain ⟨s,q,b⟩:=a0a b;refine zD (c2j hA q) ?_ { tk:=[14] };rcases tf s with j | j
   ·replace b:=cT j b;refine zF ?_ { tk:=[14] };cases soI b;exact zO
   replace b:=cF j b;refine zF ?_ { tk:=[14] };cases soI b;exact zO
  rintro _ rfl;refine nT (zr (rB (rT ?_)));cases soI h;exact zq
 replace h:=cF i h;refine zU (zs ?_);refine zB (nT ?_);rcases tf (A.zeq c 2) with e | e
 ·replace h:=cT e h;refine zT (zs ?_);obtain ⟨u,a,h⟩:=a0a h;refine zN [2] [] 0 (fun τ=>τ=⟨[(2,.d (.bool u))],[],28⟩) ?_ ?_
  ·refine zn ?_;obtain ⟨r,o,a⟩:=a0a a;refine zD (c2j hA o) ?_ { tk:=[24] };rcases tf r with g | g
   ·replace a:=cT g a;obtain ⟨w,p,a⟩:=a0a a;refine zD (c2j hA p) ?_ { tk:=[24] };refine zF ?_ { tk:=[24] };cases soI a;exact zO
   replace a:=cF g a;refine zF ?_ { tk:=[24] };cases soI a;exact zO
  rintro _ rfl;refine nT (zr (rB (rT ?_)));cases soI h;exact zq
 replace h:=cF e h;refine zU (zk (nB (nT (zs ?_))));refine zB (nT (zr ?_)) { tk:=[27] };cases soI h;exact zq

theorem c4X {A:Ar} (hA:SA A) {b c e:Int} {a:Bool} (h:N93 A b c e=some a):a0e Tryz.prog 93 [.d (.agg [.int .i64 b,.int .i64 c,.int .i64 e])] [] (.d (.bool a)) []:=by
 unfold N93 at h;refine zI Tryz.func93 ?_;refine zs (zA (nT (zs (zn ?_))));obtain ⟨i,g,h⟩:=a0a h;refine zC (c4W hA g) ?_ { tk:=[5] };refine zE (nT (zr ?_)) { tk:=[5] };cases soI h;exact zq

theorem c3c {A:Ar} (hA:SA A) {c:List D} {j:Int} (h:b9H A c=some j):a0e Tryz.prog 121 [zl 3 c,(.func 93 [] [])] [] (zi j) []:=by
 unfold b9H at h;refine zI Tryz.func121 ?_;refine zs (zA (nT (zs (zs ?_))));refine zA (nT (zb ?_));obtain ⟨z,p,l,k,b⟩:=a0m h;refine zM 0 [] [] 0 (fun τ=>l (.inl ())=some j/\τ=⟨[],[],19⟩) ?_ ?_
 ·refine zP p [0,1,7,8] [] 0 (fun i=>⟨[(0,zl 3 c),(1,(.func 93 [] [])),(7,(.d (.int .i64 (A.len c)))),(8,zi i)],[],19⟩) ⟨rfl,zc⟩ ?_;rintro i v a;dsimp only [b0f] at a;refine zs (zA (nT (zs ?_)));rcases tf (A.zlt i (A.len c)) with e | e
  ·replace a:=cT e a;refine zT (zk (nT (zs (zb (zs ?_)))));refine zB (nT (zs (zn ?_))) { tk:=[8,10] };obtain ⟨⟨r,s,u⟩,m,a⟩:=a0a a;obtain ⟨w,y⟩:=gtI m;obtain ⟨q,o,a⟩:=a0a a;refine zD (c4X hA o) ?_;refine zF (nT ?_);rcases tf q with g | g
   ·replace a:=cT g a;refine zT (zs ?_);refine zB (nT (zr (rB (rT (rT ?_))))) { tk:=[5,17] };refine exL a ?_;rintro rfl;refine oxR ?_;replace b:=(eR (k _ b));refine rB (rT ?_);cases soI b;exact zq
   replace a:=cF g a;refine zU (zk (nB (nT ?_)));refine zB ?_ { tk:=[18] };exact nT ⟨_,(soI a).symm,rfl,zv⟩
  replace a:=cF e a;refine zU (AWp.exit (xT (xT ?_)));refine exL a ?_;rintro rfl;exact oxI ⟨rfl,b,zv⟩
 rintro _ ⟨b,rfl⟩;have h:=(eL (k _ b));refine xB (nT (zs (zA (nT (zr ?_)))));cases soI h;exact zq

theorem c4Y {A:Ar} (hA:SA A) {b:List D} {a:Bool} (h:N92 A b=some a):a0e Tryz.prog 92 [zl 3 b,(.func 93 [] [])] [] (.d (.bool a)) []:=by
 unfold N92 at h;refine zI Tryz.func92 ?_;refine zs (zA (nT (zs (zn ?_))));obtain ⟨e,c,h⟩:=a0a h;refine zC (c3c hA c) ?_ { tk:=[8] };refine zE (nT (zr ?_)) { tk:=[8] };cases soI h;exact zq

theorem c4Z {A:Ar} (hA:SA A) {b c e:Int} {a:Bool} (h:N96 A b c e=some a):a0e Tryz.prog 96 [.d (.agg [.int .i64 b,.int .i64 c,.int .i64 e])] [] (.d (.bool a)) []:=by
 unfold N96 at h;refine zI Tryz.func96 ?_;refine zs (zA (nT (zs ?_)));refine zA (nT (zr ?_)) { tk:=[5] };cases soI h;exact zq

theorem c3Y {A:Ar} (hA:SA A) {b:List D} {l:Int} (h:N95 A b=some l):a0e Tryz.prog 95 [zl 3 b,(.func 96 [] [])] [] (zi l) []:=by
 unfold N95 at h;refine zI Tryz.func95 ?_;refine zs (zA (nT (zs ?_)));refine zA (nT (zs (zs ?_)));refine zA (nT (zb ?_));obtain ⟨F,s,o,r,j⟩:=a0m h;refine zM 0 [5] [] 0 (fun τ => ∃ k,o k=some l/\τ=⟨[(5,zi k)],[],21⟩) ?_ ?_
 ·refine zP s [1,5,8,9,10] [] 0 (fun (m,e)=>⟨[(1,(.func 96 [] [])),(5,zi m),(8,zl 3 b),(9,(.d (.int .i64 (A.len b)))),(10,zi e)],[],21⟩) ⟨rfl,zc⟩ ?_;rintro ⟨m,e⟩ B a;dsimp only [b2B] at a;refine zs (zA (nT (zs ?_)));rcases tf (A.zlt e (A.len b)) with g | g
  ·replace a:=cT g a;refine zT (zk (nT (zs (zb (zs ?_)))));obtain ⟨⟨w,y,z⟩,p,a⟩:=a0a a;obtain ⟨C,E⟩:=gtI p;refine zB (nT (zs (zn ?_))) { tk:=[13] };obtain ⟨u,q,a⟩:=a0a a;refine zD (c4Z hA q) ?_;refine zF (nT ?_);obtain ⟨v,c,a⟩:=a0a a;refine zN [1,5,8,9,10] [] 0 (fun τ=>τ=⟨[(1,(.func 96 [] [])),(5,zi v),(8,zl 3 b),(9,(.d (.int .i64 (A.len b)))),(10,zi e)],[],21⟩) ?_ ?_
   ·rcases tf u with i | i
    ·replace c:=cT i c;refine zT ?_;refine zB ?_ { tk:=[18] };cases soI c;exact zO
    replace c:=cF i c;refine zU (zk ?_);cases soI c;exact zO
   rintro _ rfl;refine nB (nT (zA ?_));exact nT ⟨_,(soI a).symm,rfl,zc⟩
  replace a:=cF g a;refine zU (AWp.exit (xT (xT ?_)));refine exL a ?_;rintro rfl;exact oxI ⟨rfl,_,j,zv⟩
 rintro _ ⟨k,j,rfl⟩;have h:=(r _ j);refine xB (nT (zs (zA (nT (zr ?_)) { tk:=[5,20] })));cases soI h;exact zq

theorem c5a {A:Ar} (hA:SA A) {c:List D} {r:Bool} (h:N56 A c=some r):a0e Tryz.prog 56 [zl 1 c] [] (.d (.bool r)) []:=by
 unfold N56 at h;refine zI Tryz.func56 ?_;refine zs (zA (nT (zs ?_)));refine zA (nT (zs (zs ?_)));refine zA (nT (zb ?_));obtain ⟨Q,F,w,u,g⟩:=a0m h;refine zM 0 [0,3] [] 0 (fun τ => ∃ q,w (.inl q)=some r/\τ=⟨[(0,zl 1 c),(3,zi q)],[],36⟩) ?_ ?_
 ·refine zP F [0,3,6,7,8] [] 0 (fun (p,i)=>⟨[(0,zl 1 c),(3,zi p),(6,zl 1 c),(7,(.d (.int .i64 (A.len c)))),(8,zi i)],[],36⟩) ⟨rfl,zc⟩ ?_;rintro ⟨p,i⟩ L a;dsimp only [b1I] at a;refine zs (zA (nT (zs ?_)));rcases tf (A.zlt i (A.len c)) with j | j
  ·replace a:=cT j a;refine zT (zk (nT (zs (zb (zs ?_)))));obtain ⟨s,y,a⟩:=a0a a;obtain ⟨M,N⟩:=gtI y;refine zB (nT (zs (zs ?_)));obtain ⟨v,b,a⟩:=a0a a;refine zN [0,3,5,6,7,8,23] [] 0 (fun τ=>τ=⟨[(0,zl 1 c),(3,zi p),(5,zl 3 s),(6,zl 1 c),(7,(.d (.int .i64 (A.len c)))),(8,zi i),(23,.d (.bool v))],[],36⟩) ?_ ?_
   ·refine zn ?_;rcases tf (A.zlt 7 (A.len s)) with k | k
    ·replace b:=cT k b;refine zF ?_;cases soI b;exact zO
    replace b:=cF k b;obtain ⟨G,z,b⟩:=a0a b;refine zD (c4Y hA z) ?_;rcases tf G with l | l
    ·replace b:=cT l b;refine zF ?_;cases soI b;exact zO
    replace b:=cF l b;obtain ⟨O,B,b⟩:=a0a b;refine zD (c3Y hA B) ?_;refine zF ?_;cases soI b;exact zO
   rintro _ rfl;refine nT ?_;rcases tf v with m | m
   ·replace a:=cT m a;refine zT (zs ?_);refine zB (nT (zr (rT (rB (rT (rT ?_))))));refine exL a ?_;rintro rfl;refine oxR ?_;replace g:=(eR (u _ g));refine rB (rT ?_);cases soI g;exact zq
   replace a:=cF m a;refine zU (zk (nT (zn ?_)));obtain ⟨P,C,a⟩:=a0a a;refine zD (c3Y hA C) ?_;refine zF (nB (nT ?_));refine zB ?_;exact nT ⟨_,(soI a).symm,rfl,zv⟩
  replace a:=cF j a;refine zU (AWp.exit (xT (xT ?_)));refine exL a ?_;rintro rfl;exact oxI ⟨rfl,_,g,zv⟩
 rintro _ ⟨q,g,rfl⟩;have h:=(eL (u _ g));refine xB (nT (zs ?_));obtain ⟨K,e,h⟩:=a0a h;refine zN [2] [] 0 (fun τ=>τ=⟨[(2,.d (.bool K))],[],36⟩) ?_ ?_
 ·refine zn ?_;obtain ⟨J,E,e⟩:=a0a e;refine zC (c2j hA E) ?_ { tk:=[35] };rcases tf J with o | o
  ·replace e:=cT o e;refine zF ?_ { tk:=[35] };cases soI e;exact zO
  replace e:=cF o e;refine zF ?_ { tk:=[35] };cases soI e;exact zO
 rintro _ rfl;refine nT (zr ?_);cases soI h;exact zq

theorem c5b {A:Ar} (hA:SA A) {a g:Int} (h:N57 A a=some g):a0e Tryz.prog 57 [zi a] [] (.d (.iface g)) []:=by
 unfold N57 at h;refine zI Tryz.func57 ?_;refine zs (zA (nT (zs (zs ?_))));refine zA (nT (zb (zs ?_)));refine zA (nT ?_);rcases tf (A.zeq a 1) with b | b
 ·replace h:=cT b h;refine zT (zs ?_);refine zB (nT (zr (rB (rT ?_)))) { tk:=[7] };cases soI h;exact zq
 replace h:=cF b h;refine zU (zs ?_);refine zB (nT ?_);rcases tf (A.zeq a 2) with c | c
 ·replace h:=cT c h;refine zT (zs ?_);refine zB (nT (zr (rB (rT ?_)))) { tk:=[11] };cases soI h;exact zq
 replace h:=cF c h;refine zU (zs ?_);refine zB (nT ?_);rcases tf (A.zeq a 3) with e | e
 ·replace h:=cT e h;refine zT (zs ?_);refine zB (nT (zr (rB (rT ?_)))) { tk:=[15] };cases soI h;exact zq
 replace h:=cF e h;refine zU (zk (nB (nT (zs ?_))));refine zB (nT (zr ?_));cases soI h;exact zq

theorem c5c {A:Ar} (hA:SA A) {q c l:List D} {m:Int} (h:N29 A q c=some (l,m)):a0e Tryz.prog 29 [zl 1 q,zl 1 c] [] (.tuple [zl 1 l,zi m]) []:=by
 unfold N29 at h;refine zI Tryz.func29 ?_;refine zs (zA (nT (zs (zs (zn ?_)))));obtain ⟨B,w,h⟩:=a0a h;refine zC (c5a hA w) ?_;refine zE (nT ?_);rcases tf B with i | i
 ·replace h:=cT i h;refine zU (zk (nT (zs ?_)));refine zB (nT (zs (zs ?_)));refine zB (nT (zb ?_));obtain ⟨M,y,r,o,b⟩:=a0m h;refine zM 0 [6] [] 0 (fun τ => ∃ k,r (.inl k)=some (l,m)/\τ=⟨[(6,(.own 1 k))],[],29⟩) ?_ ?_
  ·refine zP y [6,13,14,15] [] 0 (fun (p,j)=>⟨[(6,(.own 1 p)),(13,zl 1 c),(14,(.d (.int .i64 (A.len c)))),(15,zi j)],[],29⟩) ⟨rfl,zv⟩ ?_;rintro ⟨p,j⟩ E a;dsimp only [b9I] at a;refine zs (zA (nT (zs ?_)));rcases tf (A.zlt j (A.len c)) with e | e
   ·replace a:=cT e a;refine zT (zk (nT (zs (zb (zs ?_)))));obtain ⟨C,s,a⟩:=a0a a;obtain ⟨F,G⟩:=gtI s;refine zB (nT (zs (zn ?_)));obtain ⟨z,u,a⟩:=a0a a;refine zD (c5b hA u) ?_;refine zF (nT (zs (zs ?_)));refine zB (nT ?_);rcases tf (A.zlt z 0) with g | g
    ·replace a:=cT g a;refine zT (zs ?_);refine zB (nT (zr (rT (rB (rT (rT ?_))))));refine exL a ?_;rintro rfl;refine oxR ?_;replace b:=(eR (o _ b));refine rB (rT ?_);cases soI b;exact zq
    replace a:=cF g a;refine zU (zk (nT ?_));obtain ⟨L,v,a⟩:=a0a a;obtain ⟨J,K⟩:=apI v;refine zB (nB (nT ?_)) { tk:=[6,26] };refine zB ?_;exact nT ⟨_,(soI a).symm,rfl,zv⟩
   replace a:=cF e a;refine zU (AWp.exit (xT (xT ?_)));refine exL a ?_;rintro rfl;exact oxI ⟨rfl,_,b,zv⟩
  rintro _ ⟨k,b,rfl⟩;have h:=(eL (o _ b));refine xB (nT (zs (zA (nT (zr ?_)))));cases soI h;exact zq
 replace h:=cF i h;refine zT (zs ?_);refine zB (nT (zr (rT ?_)));cases soI h;exact zq

theorem c5d {A:Ar} (hA:SA A) {g c:List D} {m:Bool} (h:N58 A g c=some m):a0e Tryz.prog 58 [.d (.agg g),zl 1 c] [] (.d (.bool m)) []:=by
 unfold N58 at h;refine zI Tryz.func58 ?_;refine zs ?_;obtain ⟨_,y,h⟩:=a0a h;have L:=ckI y;refine zB (nT (zs (zs ?_))) { arr:=[2] };refine zA (nT (zb ?_));obtain ⟨W,G,q,o,e⟩:=a0m h;refine zM 0 [] [] 1 (fun τ=>q (.inl ())=some m/\τ=⟨[],[(.arr 1 g)],31⟩) ?_ ?_
 ·refine zP G [1,2,7,8] [] 1 (fun i=>⟨[(1,zl 1 c),(2,.ptr 0 0),(7,(.d (.int .i64 (A.len c)))),(8,zi i)],[(.arr 1 g)],31⟩) ⟨rfl,zc⟩ ?_;rintro i K b;dsimp only [b2C] at b;refine zs (zA (nT (zs ?_)));rcases tf (A.zlt i (A.len c)) with j | j
  ·replace b:=cT j b;refine zT (zk (nT (zs (zb (zs ?_)))));refine zB (nT (zs ?_));obtain ⟨p,a,b⟩:=a0a b;refine zN [1,2,7,8,29] [] 1 (fun τ=>τ=⟨[(1,zl 1 c),(2,.ptr 0 0),(7,(.d (.int .i64 (A.len c)))),(8,zi i),(29,.d (.bool p))],[(.arr 1 g)],31⟩) ?_ ?_
   ·obtain ⟨_,u,a⟩:=a0a a;have M:=ckI u;obtain ⟨_,v,a⟩:=a0a a;have N:=ckI v;obtain ⟨r,w,a⟩:=a0a a;have O:=gcI w;obtain ⟨s,z,a⟩:=a0a a;obtain ⟨P,Q⟩:=gtI z;obtain ⟨_,B,a⟩:=a0a a;have R:=nkI B;rcases tf (A.zeq r (A.wrp .u8 (A.zsub (A.shl .u8 1 (A.len s)) 1))) with k | k
    ·replace a:=cT k a;obtain ⟨_,C,a⟩:=a0a a;have S:=ckI C;obtain ⟨_,E,a⟩:=a0a a;have U:=ckI E;obtain ⟨J,F,a⟩:=a0a a;have V:=gcI F;refine zH ?_;cases soI a;exact zO
    replace a:=cF k a;refine zH ?_;cases soI a;exact zO
   rintro _ rfl;refine nT ?_;rcases tf p with l | l
   ·replace b:=cT l b;refine zT (zs ?_);refine zB (nT (zr (rB (rT (rT ?_)))));refine exL b ?_;rintro rfl;refine oxR ?_;replace e:=(eR (o _ e));refine rB (rT ?_);cases soI e;exact zq
   replace b:=cF l b;refine zU (zk (nB (nT ?_)));refine zB ?_;exact nT ⟨_,(soI b).symm,rfl,zv⟩
  replace b:=cF j b;refine zU (AWp.exit (xT (xT ?_)));refine exL b ?_;rintro rfl;exact oxI ⟨rfl,e,zv⟩
 rintro _ ⟨e,rfl⟩;have h:=(eL (o _ e));refine xB (nT (zs (zA (nT (zr ?_)))));cases soI h;exact zq
end Go.Am
