import Derived.Test.YtlljehkmemajkaaGenw3
set_option maxRecDepth 100000
set_option maxHeartbeats 2000000
set_option linter.unusedVariables false
set_option linter.unusedSimpArgs false
namespace Go.Am
open Go Go.Proofs
theorem b5J {A:Ar} (hA:SA A) : ∀ (n:Nat) {a:List D} {b c e g:Int} {i j k m l:List D},a4W A n a b c e g i j k m=some l->a0h Try.prog 102 [.ptr 0 0,.gref 10 1] [.cells [zl 1 a,zi b,.gref 1 1,.gref 4 1,.gref 7 1,zi c,zi e,zi g],(.jag 1 i none),.dead,.dead,(.jag 1 j none),.dead,.dead,(.jag 2 k none),.dead,.dead,.gro 1 m,.dead,.dead] (.fresh 1 l) [.cells [zl 1 a,zi b,.gref 1 1,.gref 4 1,.gref 7 1,zi c,zi e,zi g],(.jag 1 i none),.dead,.dead,(.jag 1 j none),.dead,.dead,(.jag 2 k none),.dead,.dead,.dead,.dead,.dead]
 | 0,_,_,_,_,_,_,_,_,_,_,h=>by cases h
 | n+1,_,_,_,_,_,_,_,_,_,_,h=>b8H hA (fun h=>b5J hA n h) h

theorem c0R {A:Ar} (hA:SA A) {a:List D} {b c e g:Int} {i j k m l:List D} (h:c0x A a b c e g i j k m=some l):a0h Try.prog 102 [.ptr 0 0,.gref 10 1] [.cells [zl 1 a,zi b,.gref 1 1,.gref 4 1,.gref 7 1,zi c,zi e,zi g],(.jag 1 i none),.dead,.dead,(.jag 1 j none),.dead,.dead,(.jag 2 k none),.dead,.dead,.gro 1 m,.dead,.dead] (.fresh 1 l) [.cells [zl 1 a,zi b,.gref 1 1,.gref 4 1,.gref 7 1,zi c,zi e,zi g],(.jag 1 i none),.dead,.dead,(.jag 1 j none),.dead,.dead,(.jag 2 k none),.dead,.dead,.dead,.dead,.dead]:=b5J hA fuel h

theorem c1D {A:Ar} (hA:SA A) {b:List D} {c:Int} {a:List D} (h:M58 A b c=some a):a0h Try.prog 58 [zl 1 b,zi c] [] (zl 1 a) []:=by
 unfold M58 at h;refine zI Try.func58 ?_;refine zs (zA (nT (zs (zn ?_))));obtain ⟨⟨j,k,l,m,n⟩,e,h⟩:=a0a h;refine zC (c0L hA e) ?_ { tk:=[8] };obtain ⟨i,g,h⟩:=a0a h;refine a1f.cG hT hA { tk:=[8] } 1 1 zc (lb rfl) (c0R hA g) rfl rfl (fun _=>rfl) rfl rfl rfl rfl rfl (lb rfl) rfl rfl ?_;refine a1f.weak (Wk.settleS 8 rfl (lb rfl)) ?_;refine zE (nT ?_) { tk:=[8] };refine AWp.weak (Wk.freezeS 4 rfl rfl) ?_;refine AWp.weak (Wk.ren [] [4] rfl rfl) ?_;refine zr ?_;cases soI h;exact zq

theorem c1E {A:Ar} (hA:SA A) {e:List D} {g c:Int} (h:M57 A e g=some c):a0h Try.prog 57 [zl 1 e,zi g] [] (zi c) []:=by
 unfold M57 at h;refine zI Try.func57 ?_;refine zs (zA (nT (zs (zs (zn ?_)))));obtain ⟨k,i,h⟩:=a0a h;refine zC (c1N hA i) ?_;refine zE (nT ?_);rcases tf k with a | a
 ·replace h:=cT a h;refine zU (zk (nT (zs (zs (zn ?_)))));obtain ⟨l,j,h⟩:=a0a h;refine zD (b8A hA j) ?_;refine zF (nT ?_);rcases tf l with b | b
  ·replace h:=cT b h;refine zU (zk (nT (zs ?_)));refine zB (nT (zr ?_));cases soI h;exact zq
  replace h:=cF b h;refine zT (zs ?_);refine zB (nT (zr (rT ?_)));cases soI h;exact zq
 replace h:=cF a h;refine zT (zs ?_);refine zB (nT (zr (rT ?_)));cases soI h;exact zq

theorem c2e {A:Ar} (hA:SA A) {r:List D} {s u:Int} {p:List D} {q:Int} (h:M27 A r s u=some (p,q)):a0h Try.prog 27 [zl 1 r,zi s,zi u] [] (.tuple [zl 1 p,zi q]) []:=by
 unfold M27 at h;refine zI Try.func27 ?_;refine zs (zA (nT (zs (zn ?_))));obtain ⟨O,G,h⟩:=a0a h;refine zC (c1E hA G) ?_;refine zE (nT (zs (zs ?_)));refine zA (nT ?_);obtain ⟨y,b,h⟩:=a0a h;refine zN [0,1,2,8] [] 0 (fun τ=>τ=⟨[(0,zl 1 r),(1,zi s),(2,zi u),(8,zi y)],[],51⟩) ?_ ?_
 ·rcases tf (A.zeq O 0) with k | k
  ·replace b:=cT k b;refine zT (zn ?_);obtain ⟨Y,K,b⟩:=a0a b;refine zD (c1E hA K) ?_;refine zF ?_;cases soI b;exact zO
  replace b:=cF k b;refine zU (zk ?_);cases soI b;exact zO
 rintro _ rfl;refine nT (zs (zs (zA (nT ?_))));rcases tf (A.zeq y 0) with g | g
 ·replace h:=cT g h;refine zU (zk (nT (zs (zn ?_))));obtain ⟨m,B,h⟩:=a0a h;refine zD (c1D hA B) ?_;obtain ⟨v,C,h⟩:=a0a h;refine zD (c1D hA C) ?_;refine zF (nT (zs ?_));refine zB (nT (zs (zs ?_)));refine zB (nT (zb ?_));obtain ⟨a0,M,z,L,l⟩:=a0Q h;refine zM 0 [11] [] 0 (fun τ => ∃ o,z o=some (p,q)/\τ=⟨[(11,(.own 1 o))],[],51⟩) ?_ ?_
  ·refine zP M [9,10,11,12] [] 0 (fun (w,e)=>⟨[(9,zl 1 m),(10,zl 1 v),(11,(.own 1 w)),(12,zi e)],[],51⟩) ⟨rfl,zv⟩ ?_;rintro ⟨w,e⟩ R a;dsimp only [b1g] at a;refine zs (zs (zA (nT ?_)));rcases tf (A.zlt e (A.len m)) with i | i
   ·replace a:=cT i a;refine zT (zk (nT (zs (zb (zs (zn ?_))))));obtain ⟨Q,E,a⟩:=a0a a;obtain ⟨S,U⟩:=gtI E;obtain ⟨N,F,a⟩:=a0a a;refine zD (c2c hA F) ?_;refine zF (nT ?_);obtain ⟨P,c,a⟩:=a0a a;refine zN [9,10,11,12] [] 0 (fun τ=>τ=⟨[(9,zl 1 m),(10,zl 1 v),(11,(.own 1 P)),(12,zi e)],[],51⟩) ?_ ?_
    ·rcases tf N with j | j
     ·replace c:=cT j c;refine zU (zk ?_);cases soI c;exact zO
     replace c:=cF j c;refine zT ?_;obtain ⟨X,J,c⟩:=a0a c;obtain ⟨V,W⟩:=apI J;refine zB ?_ { tk:=[11,49] };cases soI c;exact zO
    rintro _ rfl;refine nB (nT (zA ?_));exact nT ⟨_,(soI a).symm,rfl,zc⟩
   replace a:=cF i a;refine zU (AWp.exit (xT (xT ?_)));refine exL a ?_;rintro rfl;exact oxI ⟨rfl,_,l,zv⟩
  rintro _ ⟨o,l,rfl⟩;have h:=(L _ l);refine xB (nT (zs (zA (nT (zr ?_)))));cases soI h;exact zq
 replace h:=cF g h;refine zT (zs ?_);refine zB (nT (zr (rT ?_)));cases soI h;exact zq

theorem M4w {A:Ar} (hA:SA A) {j:List D} {k l:Int} {i:Bool} (h:M4 A j k l=some i):a0h Try.prog 4 [zl 1 j,zi k,zi l] [] (.d (.bool i)) []:=by
 unfold M4 at h;refine zI Try.func4 ?_;refine zs (zA (nT (zs (zs (zn ?_)))));obtain ⟨y,q,h⟩:=a0a h;refine zC (c1L hA q) ?_;refine zE (nT ?_);rcases tf y with a | a
 ·replace h:=cT a h;refine zT ?_ (hb:=(by first | rfl | simp only [a,zqa,zqb,zqc,zqd]))
  refine zs (zn ?_);obtain ⟨F,r,h⟩:=a0a h;refine zC (c1B hA r) ?_ { tk:=[13] } (h:=(by (repeat (cbv;simp only [a]));try cbv))
  refine zE ?_ { tk:=[13] } (h:=(by (repeat (cbv;simp only [a]));try cbv))
  refine nT (zr (rT ?_));cases soI h;exact zq
 replace h:=cF a h;refine zU ?_ (hb:=(by first | rfl | simp only [a,zqa,zqb,zqc,zqd]))
 refine zk (nT (zs (zn ?_)));obtain ⟨⟨B,u⟩,s,h⟩:=a0a h;refine zC (c2b hA s) ?_ (h:=(by (repeat (cbv;simp only [a]));try cbv))
 refine zE ?_ (h:=(by (repeat (cbv;simp only [a]));try cbv))
 refine nT (zs (zn ?_));obtain ⟨⟨C,v⟩,m,h⟩:=a0a h;refine zC (c2e hA m) ?_ (h:=(by (repeat (cbv;simp only [a]));try cbv))
 refine zE ?_ (h:=(by (repeat (cbv;simp only [a]));try cbv))
 refine nT (zs ?_);obtain ⟨z,b,h⟩:=a0a h;refine zN [6] [] 0 (fun τ=>τ=⟨[(6,.d (.bool z))],[],39⟩) ?_ ?_
 ·refine zn ?_;obtain ⟨w,o,b⟩:=a0a b;refine zC (c2d hA o) ?_ { tk:=[38] } (h:=(by (repeat (cbv;simp only [a]));try cbv))
  rcases tf w with c | c
  ·replace b:=cT c b;rcases tf (A.zeq u v) with e | e
   ·replace b:=cT e b;obtain ⟨E,p,b⟩:=a0a b;refine zC (c1B hA p) ?_ { tk:=[38] } (h:=(by (repeat (cbv;simp only [a,c,e]));try cbv))
    refine zE ?_ { tk:=[38] } (h:=(by (repeat (cbv;simp only [a,c,e]));try cbv))
    cases soI b;exact (zO (g:=(by first | (cbv;done) | ((repeat (cbv;simp only [a,c,e]));try cbv))))
   replace b:=cF e b;refine zE ?_ { tk:=[38] } (h:=(by (repeat (cbv;simp only [a,c,e]));try cbv))
   cases soI b;exact (zO (g:=(by first | (cbv;done) | ((repeat (cbv;simp only [a,c,e]));try cbv))))
  replace b:=cF c b;refine zE ?_ { tk:=[38] } (h:=(by (repeat (cbv;simp only [a,c]));try cbv))
  cases soI b;exact (zO (g:=(by first | (cbv;done) | ((repeat (cbv;simp only [a,c]));try cbv))))
 rintro _ rfl;refine nT (zr ?_);cases soI h;exact zq
end Go.Am
