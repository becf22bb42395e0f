import Derived.Test.YtlljehkmemajkaaGreatGenp1
import Derived.Test.YtlljehkmemajkaaGreatAmLaw
import Derived.Test.YtlljehkmemajkaaGreatAmLaw
import Derived.Test.YtlljehkmemajkaaGreatAmLaw
import Derived.Test.YtlljehkmemajkaaGreatAmLaw
import Derived.Test.YtlljehkmemajkaaGreatAmKeys
import Derived.Test.YtlljehkmemajkaaGreatAmKeys
import Derived.Test.YtlljehkmemajkaaGreatAmKeys
import Derived.Test.YtlljehkmemajkaaGreatAmKeys
import Derived.Test.YtlljehkmemajkaaGreatAmKeys
import Derived.Test.YtlljehkmemajkaaGreatAmLaw
import Derived.Test.YtlljehkmemajkaaGreatAmLaw
import Derived.Test.YtlljehkmemajkaaGreatAmKeys
import Derived.Test.YtlljehkmemajkaaGreatN1T
import Derived.Test.YtlljehkmemajkaaGreatAmSortO
import Derived.Test.YtlljehkmemajkaaGreatN1S
set_option maxRecDepth 100000
set_option maxHeartbeats 2000000
set_option linter.unusedVariables false
set_option linter.unusedSimpArgs false
namespace Go.Am
open Go Go.Proofs
theorem zqa : (!true) = false := rfl
theorem zqb : (!false) = true := rfl
theorem zqc {α : Type} {a b : α} : cond true a b = a := rfl
theorem zqd {α : Type} {a b : α} : cond false a b = b := rfl
def SA (A:Ar):Prop:=A=Ar.std
section
variable {p:Prop} {A:Ar} {m k t:Nat} {Q:Exit->St->Prop} {K R:St->Prop} {σ σ':St} {ops:Array Oper} {id:Nat} {c x y:Code} {ts sf:List Nat} {b:Bool} {l rest:List Oper} {f:FuncId} {fn:Func} {args:List AV} {o:Oper} {σ1:St} {H Hr H':List Obj} {r:AV} {d:Nat} {xs xs1:List Rec}
theorem zv (h:p:=by first|(cbv;done)|((repeat (cbv;simp only [*]));try cbv)):p:=h
theorem zu (h:p:=by (repeat (cbv;simp only [*]));try cbv):p:=h
theorem zc (h:p:=by cbv):p:=h
theorem zH {xs:List Rec} (k:Q .normal σ') (an:Ann:={}) (hA:SA A:=by assumption) (h:a8B A T an ops.toList ops.toList σ []=.done σ' xs:=by (repeat (cbv;simp only [*]));try cbv) (hok:a2y ops.toList (xs.map Rec.foot)=true:=by kernel_rfl) (hm:m<=σ.heap.length:=by exact lb rfl):AWp Tryz.prog m (.region id ops true) Q σ:=AWp.rd hT hA an rfl h hok hm k
theorem zJ {xs xs':List Rec} {K:St->Prop} (k:K σ') (an:Ann:={}) (hA:SA A:=by assumption) (h:a8B A T an ops.toList l σ xs=.done σ' xs':=by (repeat (cbv;simp only [*]));try cbv) (hok:a2y ops.toList (xs'.map Rec.foot)=true:=by kernel_rfl) (hl:l=ops.toList.drop xs.length:=by exact rfl):a0W Tryz.prog m ops l xs K σ:=a0W.cd hT hA an hl h hok k
theorem zN (ts sf:List Nat) (k:Nat) (R:St->Prop) (h:AWp Tryz.prog m c (AExit.onN ts sf k R Q) σ) (h2:∀τ,R τ->Q .normal τ) (hm:m<=k:=by exact lb rfl):AWp Tryz.prog m c Q σ:=AWp.cutN ts sf k hm R h h2
theorem zM (j:Nat) (ts sf:List Nat) (k:Nat) (R:St->Prop) (h:AWp Tryz.prog m c (AExit.onX j ts sf k R Q) σ) (h2:∀τ,R τ->Q (.exit j) τ) (hm:m<=k:=by exact lb rfl):AWp Tryz.prog m c Q σ:=AWp.cutX j ts sf k hm R h h2
theorem zP {S X:Type} {step:S->Option (S⊕X)} {s0:S} {x:X} (hx:iter step s0=some x) (ts sf:List Nat) (k:Nat) (F:S->St) (hf:σ.fits ts k=true/\σ.fitS ts sf k=F s0) (h:∀s e,step s=some e->AWp Tryz.prog m c (AExit.then (fun σ'=>∃s',e=.inl s'/\σ'.fits ts k=true/\σ'.fitS ts sf k=F s') (fun ex σ'=>∃x',e=.inr x'/\(x'=x->Q ex σ'))) (F s)) (hm:m<=k:=by exact lb rfl):AWp Tryz.prog m (.loop c) Q σ:=AWp.iter hx ts sf k hm F hf h
theorem zQ (h:a0W Tryz.prog m ops ops.toList [] (Q .normal) σ) (hm:m<=σ.heap.length:=by exact lb rfl):AWp Tryz.prog m (.region id ops true) Q σ:=AWp.regionDraw rfl hm h
theorem tfh:True:=trivial
theorem zq (h:p:=by exact ⟨rfl,rfl,rfl,lb rfl,_,rfl⟩):p:=h
theorem zA (k:Q .normal σ') (an:Ann:={}) (hA:SA A:=by assumption) (h:a7m A T an ops.toList ops.toList σ=.done σ':=by cbv) (hm:m<=σ.heap.length:=by exact lb rfl):AWp Tryz.prog m (.region id ops false) Q σ:=AWp.rg hT hA an h hm k
theorem zB (k:Q .normal σ') (an:Ann:={}) (hA:SA A:=by assumption) (h:a7m A T an ops.toList ops.toList σ=.done σ':=by (repeat (cbv;simp only [*]));try cbv) (hm:m<=σ.heap.length:=by exact lb rfl):AWp Tryz.prog m (.region id ops false) Q σ:=AWp.rg hT hA an h hm k
theorem zC (hc:a0e Tryz.prog f args H r H') (k:a1D Tryz.prog m ops rest Q {σ1 with env:=a2A σ1.env d r,heap:=H'++Hr}) (an:Ann:={}) (hA:SA A:=by assumption) (h:a7m A T an ops.toList l σ=.call f args o rest σ1:=by cbv) (hm:m<=σ.heap.length:=by exact lb rfl) (hH:σ1.heap=H++Hr:=by exact rfl) (hr:Hr=[]\/H'.length=H.length:=by first|exact .inl rfl|exact .inr rfl) (hi:a0s H.length H=true:=by exact rfl) (ha:a3k H.length args=true:=by exact rfl) (hd:o.dst=some d:=by exact rfl) (hl:d<σ1.n:=by exact lb rfl) (hb:(σ1.get d).isBox=false:=by exact rfl) (hf:args.all AV.free=true:=by exact rfl):a1D Tryz.prog m ops l Q σ:=a1D.cc hT hA an h hm hc hH hr hi ha hd hl hb hf k
theorem zD (hc:a0e Tryz.prog f args H r H') (k:a1D Tryz.prog m ops rest Q {σ1 with env:=a2A σ1.env d r,heap:=H'++Hr}) (an:Ann:={}) (hA:SA A:=by assumption) (h:a7m A T an ops.toList l σ=.call f args o rest σ1:=by (repeat (cbv;simp only [*]));try cbv) (hm:m<=σ.heap.length:=by exact lb rfl) (hH:σ1.heap=H++Hr:=by exact rfl) (hr:Hr=[]\/H'.length=H.length:=by first|exact .inl rfl|exact .inr rfl) (hi:a0s H.length H=true:=by exact rfl) (ha:a3k H.length args=true:=by exact rfl) (hd:o.dst=some d:=by exact rfl) (hl:d<σ1.n:=by exact lb rfl) (hb:(σ1.get d).isBox=false:=by exact rfl) (hf:args.all AV.free=true:=by exact rfl):a1D Tryz.prog m ops l Q σ:=a1D.cc hT hA an h hm hc hH hr hi ha hd hl hb hf k
theorem zE (k:Q .normal σ') (an:Ann:={}) (hA:SA A:=by assumption) (h:a7m A T an ops.toList l σ=.done σ':=by cbv) (hm:m<=σ.heap.length:=by exact lb rfl):a1D Tryz.prog m ops l Q σ:=a1D.cd hT hA an h hm k
theorem zF (k:Q .normal σ') (an:Ann:={}) (hA:SA A:=by assumption) (h:a7m A T an ops.toList l σ=.done σ':=by (repeat (cbv;simp only [*]));try cbv) (hm:m<=σ.heap.length:=by exact lb rfl):a1D Tryz.prog m ops l Q σ:=a1D.cd hT hA an h hm k
theorem zT (h:AWp Tryz.prog m x Q σ) (hc:σ.get t=.d (.bool b):=by exact rfl) (hb:b=true:=by first|exact rfl|simp only [*,zqa,zqb,zqc,zqd]):AWp Tryz.prog m (.cond (.tmp t) x y) Q σ:=AWp.cdT hc hb h
theorem zU (h:AWp Tryz.prog m y Q σ) (hc:σ.get t=.d (.bool b):=by exact rfl) (hb:b=false:=by first|exact rfl|simp only [*,zqa,zqb,zqc,zqd]):AWp Tryz.prog m (.cond (.tmp t) x y) Q σ:=AWp.cdF hc hb h
theorem zO (h:σ.fits ts k=true:=by exact rfl) (g:R (σ.fitS ts sf k):=by first|(cbv;done)|((repeat (cbv;simp only [*]));try cbv)):AExit.onN ts sf k R Q .normal σ:=⟨h,g⟩
theorem zR (sel:List (Option Nat)) (ts:List Nat) (hm:a9Y m sel 0=true:=by exact rfl) (h:σ.ren sel ts=some σ':=by first|(cbv;done)|((repeat (cbv;simp only [*]));try cbv)):Wk m σ σ':=Wk.ren sel ts hm h
theorem zI (hf:Tryz.prog.funcs[f]?=some fn) (h:AWp Tryz.prog H.length c (a8w T fn H.length r H') {env:=a7l 0 args,heap:=H,n:=fn.ntmps}) (hb:fn.body=some c:=by exact rfl) (hn:fn.name≠"runtime.NumGoroutine":=by decide) (ha:args.length<=fn.ntmps:=by exact lb rfl) (hr:args.all AV.free=true:=by exact rfl) (h1:r.isLocal=false:=by exact rfl) (h2:r.inb H'.length=true:=by exact rfl) (h3:a0s H'.length H'=true:=by exact rfl) (h4:H.length<=H'.length:=by exact lb rfl):a0e Tryz.prog f args H r H':=a0e.enter hT hf hb hn ha hr h1 h2 h3 h4 h
end
abbrev zs := @AWp.seq
abbrev zg := @AWp.rg
abbrev zr := @AWp.ret
abbrev zt := @AWp.cdT
abbrev zf := @AWp.cdF
abbrev zn := @AWp.region
abbrev zk := @AWp.skip
abbrev zb := @AWp.block
abbrev zi (x : Int) : AV := .d (.int .i64 x)
abbrev zl (k : Nat) (x : List D) : AV := .d (.list k x)
abbrev zy0:List (Option Nat):=[some 0,some 1,some 2,some 10,some 11,some 12,some 7,some 8,some 9]
abbrev zy1:List (Option Nat):=[some 0,some 1,some 2,some 3,some 4,some 5,some 6,some 10,some 11,some 12]
abbrev zy2:List (Option Nat):=[some 0,some 1,some 2,some 3,some 4,some 5,some 6,some 7,some 8,some 9,some 10]
abbrev zy3:List (Option Nat):=[some 0,some 1,some 2,some 3,some 4,some 5,some 6,some 7,some 8,some 9]
abbrev zy4:List (Option Nat):=[some 0,some 1,some 2,some 3,some 4,some 5,some 6,some 7,some 8]
abbrev zy5:List (Option Nat):=[some 0,some 1,some 2,some 3,some 4,some 5,some 6,some 7]
abbrev zy6:List (Option Nat):=[some 0,some 1,some 2,some 3,some 4,some 5,some 7,some 8,some 9]
abbrev zy7:List (Option Nat):=[some 0,some 1,some 2,some 3,some 4]
noncomputable def a1J:Code:=cAt (Tryz.f23.body.getD .skip) [1,1,1,0,1,0,0]

noncomputable def a1K:Code:=cAt (Tryz.f23.body.getD .skip) [1,1,1,0,1,0,1]

noncomputable def a0p:Code:=cAt (Tryz.f26.body.getD .skip) [1,1,0,1,0,0]

noncomputable def a0q:Code:=cAt (Tryz.f26.body.getD .skip) [1,1,0,1,0,1]

theorem c4l {A:Ar} (hA:SA A) {b:List D} {i:Bool} (h:N21 A b=some i):a0e Tryz.prog 21 [zl 1 b] [] (.d (.bool i)) []:=by
 unfold N21 at h;refine zI Tryz.func21 ?_;refine zs (zA (nT (zs (zs ?_))));refine zA (nT (zb ?_));obtain ⟨u,p,l,k,c⟩:=a0m h;refine zM 0 [0] [] 0 (fun τ=>l (.inl ())=some i/\τ=⟨[(0,zl 1 b)],[],18⟩) ?_ ?_
 ·refine zP p [0,5,6,7] [] 0 (fun j=>⟨[(0,zl 1 b),(5,zl 1 b),(6,(.d (.int .i64 (A.len b)))),(7,zi j)],[],18⟩) ⟨rfl,zc⟩ ?_;rintro j q a;dsimp only [b2o] at a;refine zs (zA (nT (zs ?_)));rcases tf (A.zlt j (A.len b)) with g | g
  ·replace a:=cT g a;refine zT (zk (nT (zs (zb (zs ?_)))));obtain ⟨m,o,a⟩:=a0a a;obtain ⟨r,s⟩:=gtI o;refine zB (nT (zs ?_));refine zB (nT ?_);rcases tf (A.zlt 20 (A.len m)) with e | e
   ·replace a:=cT e a;refine zT (zs ?_);refine zB (nT (zr (rB (rT (rT ?_)))));refine exL a ?_;rintro rfl;refine oxR ?_;replace c:=(eR (k _ c));refine rB (rT ?_);cases soI c;exact zq
   replace a:=cF e a;refine zU (zk (nB (nT ?_)));refine zB ?_;exact nT ⟨_,(soI a).symm,rfl,zv⟩
  replace a:=cF g a;refine zU (AWp.exit (xT (xT ?_)));refine exL a ?_;rintro rfl;exact oxI ⟨rfl,c,zv⟩
 rintro _ ⟨c,rfl⟩;have h:=(eL (k _ c));refine xB (nT (zs (zA (nT (zr ?_)) { tk:=[17] })));cases soI h;exact zq

theorem c2B {A:Ar} (hA:SA A) {a:List D} {w:Bool} (h:N22 A a=some w):a0e Tryz.prog 22 [zl 1 a] [] (.d (.bool w)) []:=by
 unfold N22 at h;refine zI Tryz.func22 ?_;refine zs (zA (nT (zs (zs ?_))));refine zA (nT (zb ?_));obtain ⟨V,L,C,v,e⟩:=a0m h;refine zM 0 [0] [] 0 (fun τ=>C (.inl ())=some w/\τ=⟨[(0,zl 1 a)],[],40⟩) ?_ ?_
 ·refine zP L [0,7,8,9] [] 0 (fun l=>⟨[(0,zl 1 a),(7,zl 1 a),(8,(.d (.int .i64 (A.len a)))),(9,zi l)],[],40⟩) ⟨rfl,zc⟩ ?_;rintro l J c;dsimp only [b2q] at c;refine zs (zA (nT (zs ?_)));rcases tf (A.zlt l (A.len a)) with o | o
  ·replace c:=cT o c;refine zT (zk (nT (zs (zb (zs ?_)))));obtain ⟨g,F,c⟩:=a0a c;obtain ⟨P,Q⟩:=gtI F;refine zB (nT (zs (zs ?_)));refine zB (nT ?_);rcases tf (A.zlt 4 (A.len g)) with p | p
   ·replace c:=cT p c;refine zT (zs ?_);refine zB (nT (zr (rT (rB (rT (rT ?_))))));refine exL c ?_;rintro rfl;refine oxR ?_;replace e:=(eR (v _ e));refine rB (rT ?_);cases soI e;exact zq
   replace c:=cF p c;refine zU (zk (nT (zs ?_)));refine zB (nT (zb ?_));obtain ⟨U,K,B,y,i⟩:=a0m c;refine zM 2 [0,7,8,9] [] 0 (fun τ=>B (.inl ())=some J/\τ=⟨[(0,zl 1 a),(7,zl 1 a),(8,(.d (.int .i64 (A.len a)))),(9,zi l)],[],40⟩) ?_ ?_
   ·refine zP K [0,7,8,9,16,17,18] [] 0 (fun m=>⟨[(0,zl 1 a),(7,zl 1 a),(8,(.d (.int .i64 (A.len a)))),(9,zi l),(16,zl 2 g),(17,(.d (.int .i64 (A.len g)))),(18,zi m)],[],40⟩) ⟨rfl,zv⟩ ?_;rintro m O b;dsimp only [b2p] at b;refine zs (zA (nT (zs ?_)));rcases tf (A.zlt m (A.len g)) with q | q
    ·replace b:=cT q b;refine zT (zk (nT (zs (zb (zs ?_)))));obtain ⟨⟨E,N⟩,G,b⟩:=a0a b;obtain ⟨R,S⟩:=gtI G;refine zB (nT (zs ?_)) { tk:=[21] };obtain ⟨z,j,b⟩:=a0a b;refine zN [0,7,8,9,16,17,18,29] [] 0 (fun τ=>τ=⟨[(0,zl 1 a),(7,zl 1 a),(8,(.d (.int .i64 (A.len a)))),(9,zi l),(16,zl 2 g),(17,(.d (.int .i64 (A.len g)))),(18,zi m),(29,.d (.bool z))],[],40⟩) ?_ ?_
     ·rcases tf (A.zlt E 0) with r | r
      ·replace j:=cT r j;refine zB ?_;cases soI j;exact zO
      replace j:=cF r j;refine zB ?_;cases soI j;exact zO
     rintro _ rfl;refine nT ?_;rcases tf z with s | s
     ·replace b:=cT s b;refine zT (zs ?_);refine zB (nT (zr (rB (rT (rT ?_)))));refine exL b ?_;rintro rfl;refine oxR ?_;replace i:=(eR (y _ i));refine rB (rB (rT (rT ?_)));refine exL i ?_;rintro rfl;refine oxR ?_;replace e:=(eR (v _ e));refine rB (rT ?_);cases soI e;exact zq
     replace b:=cF s b;refine zU (zk (nB (nT ?_)));refine zB ?_;exact nT ⟨_,(soI b).symm,rfl,zv⟩
    replace b:=cF q b;refine zU (AWp.exit (xT (xT ?_)));refine exL b ?_;rintro rfl;exact oxI ⟨rfl,i,zv⟩
   rintro _ ⟨i,rfl⟩;have c:=(eL (y _ i));refine xB (nB (nT (zA ?_)));exact nT ⟨_,(soI c).symm,rfl,zc⟩
  replace c:=cF o c;refine zU (AWp.exit (xT (xT ?_)));refine exL c ?_;rintro rfl;exact oxI ⟨rfl,e,zv⟩
 rintro _ ⟨e,rfl⟩;have h:=(eL (v _ e));refine xB (nT (zs ?_));obtain ⟨M,k,h⟩:=a0a h;refine zN [2] [] 0 (fun τ=>τ=⟨[(2,.d (.bool M))],[],40⟩) ?_ ?_
 ·rcases tf (A.zle 1 (A.len a)) with u | u
  ·replace k:=cT u k;refine zB ?_ { tk:=[39] };cases soI k;exact zO
  replace k:=cF u k;refine zB ?_ { tk:=[39] };cases soI k;exact zO
 rintro _ rfl;refine nT (zr ?_);cases soI h;exact zq

theorem N5w {A:Ar} (hA:SA A) {c:List D} {e:Int} {o:Bool} (h:N5 A c e=some o):a0e Tryz.prog 5 [zl 1 c,zi e] [] (.d (.bool o)) []:=by
 unfold N5 at h;refine zI Tryz.func5 ?_;refine zs (zA (nT (zs (zs ?_))));obtain ⟨q,a,h⟩:=a0a h;refine zN [0,1,14] [] 0 (fun τ=>τ=⟨[(0,zl 1 c),(1,zi e),(14,.d (.bool q))],[],29⟩) ?_ ?_
 ·refine zn ?_;obtain ⟨z,u,a⟩:=a0a a;refine zC (c4l hA u) ?_;rcases tf z with j | j
  ·replace a:=cT j a;refine zF ?_;cases soI a;exact zO
  replace a:=cF j a;obtain ⟨G,v,a⟩:=a0a a;refine zD (c2B hA v) ?_;refine zF ?_;cases soI a;exact zO
 rintro _ rfl;refine nT ?_;rcases tf q with g | g
 ·replace h:=cT g h;refine zT (zs ?_);refine zB (nT (zr (rT ?_)));cases soI h;exact zq
 replace h:=cF g h;refine zU (zk (nT (zs ?_)));refine zB (nT (zs (zs ?_)));refine zB (nT (zb ?_));obtain ⟨J,y,r,w,k⟩:=a0m h;refine zM 0 [1,5] [] 0 (fun τ => ∃ m,r m=some o/\τ=⟨[(1,zi e),(5,zi m)],[],29⟩) ?_ ?_
 ·refine zP y [1,5,15,16,17] [] 0 (fun (p,l)=>⟨[(1,zi e),(5,zi p),(15,zl 1 c),(16,(.d (.int .i64 (A.len c)))),(17,zi l)],[],29⟩) ⟨rfl,zv⟩ ?_;rintro ⟨p,l⟩ C b;dsimp only [b9p] at b;refine zs (zA (nT (zs ?_)));rcases tf (A.zlt l (A.len c)) with i | i
  ·replace b:=cT i b;refine zT (zk (nT (zs (zb (zs ?_)))));obtain ⟨B,s,b⟩:=a0a b;obtain ⟨E,F⟩:=gtI s;refine zB (nT ?_);refine zB (nB (nT ?_));refine zB ?_;exact nT ⟨_,(soI b).symm,rfl,zv⟩
  replace b:=cF i b;refine zU (AWp.exit (xT (xT ?_)));refine exL b ?_;rintro rfl;exact oxI ⟨rfl,_,k,zv⟩
 rintro _ ⟨m,k,rfl⟩;have h:=(w _ k);refine xB (nT (zs (zA (nT (zr ?_)) { tk:=[28] })));cases soI h;exact zq

theorem c2C {A:Ar} (hA:SA A) {g c:List D} {w:Bool} (h:N11 A g c=some w):a0e Tryz.prog 11 [zl 1 g,zl 1 c] [] (.d (.bool w)) []:=by
 unfold N11 at h;refine zI Tryz.func11 ?_;refine zs (zA (nT (zs (zs ?_))));refine zA (nT ?_);rcases tf (A.zeq (A.len c) (A.len g)) with o | o
 ·replace h:=cT o h;refine zU (zk (nT (zs (zs ?_))));refine zB (nT (zb ?_));obtain ⟨X,N,C,v,e⟩:=a0m h;refine zM 0 [] [] 0 (fun τ=>C (.inl ())=some w/\τ=⟨[],[],45⟩) ?_ ?_
  ·refine zP N [0,14,15,16] [] 0 (fun l=>⟨[(0,zl 1 g),(14,zl 1 c),(15,(.d (.int .i64 (A.len c)))),(16,zi l)],[],45⟩) ⟨rfl,zv⟩ ?_;rintro l L a;dsimp only [a9f] at a;refine zs (zA (nT (zs ?_)));rcases tf (A.zlt l (A.len c)) with p | p
   ·replace a:=cT p a;refine zT (zk (nT (zs (zb (zs ?_)))));obtain ⟨i,G,a⟩:=a0a a;obtain ⟨P,Q⟩:=gtI G;refine zB (nT (zs (zs ?_)));obtain ⟨E,J,a⟩:=a0a a;obtain ⟨R,S⟩:=gtI J;refine zB (nT ?_);rcases tf (A.zeq (A.len i) (A.zmax (A.wrp .i64 (A.zsub (A.len E) 1)) 0)) with q | q
    ·replace a:=cT q a;refine zU (zk (nT (zs ?_)));refine zB (nT (zb ?_));obtain ⟨W,M,B,y,j⟩:=a0m a;refine zM 2 [0,14,15,16] [] 0 (fun τ=>B (.inl ())=some L/\τ=⟨[(0,zl 1 g),(14,zl 1 c),(15,(.d (.int .i64 (A.len c)))),(16,zi l)],[],45⟩) ?_ ?_
     ·refine zP M [0,14,15,16,31,32,33] [] 0 (fun m=>⟨[(0,zl 1 g),(14,zl 1 c),(15,(.d (.int .i64 (A.len c)))),(16,zi l),(31,zl 1 i),(32,(.d (.int .i64 (A.len i)))),(33,zi m)],[],45⟩) ⟨rfl,zv⟩ ?_;rintro m O b;dsimp only [b1k] at b;refine zs (zA (nT (zs ?_)));rcases tf (A.zlt m (A.len i)) with r | r
      ·replace b:=cT r b;refine zT (zk (nT (zs (zb (zs ?_)))));obtain ⟨F,K,b⟩:=a0a b;obtain ⟨U,V⟩:=gtI K;refine zB (nT (zs ?_));obtain ⟨z,k,b⟩:=a0a b;refine zN [0,14,15,16,31,32,33,42] [] 0 (fun τ=>τ=⟨[(0,zl 1 g),(14,zl 1 c),(15,(.d (.int .i64 (A.len c)))),(16,zi l),(31,zl 1 i),(32,(.d (.int .i64 (A.len i)))),(33,zi m),(42,.d (.bool z))],[],45⟩) ?_ ?_
       ·rcases tf (A.zlt F 1) with s | s
        ·replace k:=cT s k;refine zB ?_;cases soI k;exact zO
        replace k:=cF s k;refine zB ?_;cases soI k;exact zO
       rintro _ rfl;refine nT ?_;rcases tf z with u | u
       ·replace b:=cT u b;refine zT (zs ?_);refine zB (nT (zr (rB (rT (rT ?_)))));refine exL b ?_;rintro rfl;refine oxR ?_;replace j:=(eR (y _ j));refine rB (rB (rT (rT ?_)));refine exL j ?_;rintro rfl;refine oxR ?_;replace e:=(eR (v _ e));refine rB (rT ?_);cases soI e;exact zq
       replace b:=cF u b;refine zU (zk (nB (nT ?_)));refine zB ?_;exact nT ⟨_,(soI b).symm,rfl,zv⟩
      replace b:=cF r b;refine zU (AWp.exit (xT (xT ?_)));refine exL b ?_;rintro rfl;exact oxI ⟨rfl,j,zv⟩
     rintro _ ⟨j,rfl⟩;have a:=(eL (y _ j));refine xB (nB (nT (zA ?_)));exact nT ⟨_,(soI a).symm,rfl,zc⟩
    replace a:=cF q a;refine zT (zs ?_);refine zB (nT (zr (rT (rB (rT (rT ?_))))));refine exL a ?_;rintro rfl;refine oxR ?_;replace e:=(eR (v _ e));refine rB (rT ?_);cases soI e;exact zq
   replace a:=cF p a;refine zU (AWp.exit (xT (xT ?_)));refine exL a ?_;rintro rfl;exact oxI ⟨rfl,e,zv⟩
  rintro _ ⟨e,rfl⟩;have h:=(eL (v _ e));refine xB (nT (zs (zA (nT (zr ?_)))));cases soI h;exact zq
 replace h:=cF o h;refine zT (zs ?_);refine zB (nT (zr (rT ?_)));cases soI h;exact zq

theorem b9N {A:Ar} (hA:SA A) {c e i:Int} {g:Bool} (h:N72 A c e i=some g):a0e Tryz.prog 72 [zi c,zi e,zi i] [] (.d (.bool g)) []:=by
 unfold N72 at h;refine zI Tryz.func72 ?_;refine zs (zA (nT (zs ?_)));obtain ⟨j,a,h⟩:=a0a h;refine zN [6] [] 0 (fun τ=>τ=⟨[(6,.d (.bool j))],[],15⟩) ?_ ?_
 ·rcases tf (A.zle c e) with b | b
  ·replace a:=cT b a;refine zB ?_ { tk:=[14] };cases soI a;exact zO
  replace a:=cF b a;refine zB ?_ { tk:=[14] };cases soI a;exact zO
 rintro _ rfl;refine nT (zr ?_);cases soI h;exact zq

theorem c4m {A:Ar} (hA:SA A) {b:Int} {c a:Bool} (h:N76 A b c=some a):a0e Tryz.prog 76 [.d (.agg [.int .i64 b,.bool c])] [] (.d (.bool a)) []:=by
 unfold N76 at h;refine zI Tryz.func76 ?_;refine zs (zA (nT (zs (zn ?_))));obtain ⟨g,e,h⟩:=a0a h;refine zC (b9N hA e) ?_ { tk:=[6] };refine zE (nT (zr ?_)) { tk:=[6] };cases soI h;exact zq

theorem c2D {A:Ar} (hA:SA A) {c:List D} {j:Int} (h:c1Q A c=some j):a0e Tryz.prog 112 [zl 2 c,(.func 76 [] [])] [] (zi j) []:=by
 unfold c1Q at h;refine zI Tryz.func112 ?_;refine zs (zA (nT (zs (zs ?_))));refine zA (nT (zb ?_));obtain ⟨y,p,l,k,b⟩:=a0m h;refine zM 0 [] [] 0 (fun τ=>l (.inl ())=some j/\τ=⟨[],[],19⟩) ?_ ?_
 ·refine zP p [0,1,7,8] [] 0 (fun i=>⟨[(0,zl 2 c),(1,(.func 76 [] [])),(7,(.d (.int .i64 (A.len c)))),(8,zi i)],[],19⟩) ⟨rfl,zc⟩ ?_;rintro i u a;dsimp only [a7M] at a;refine zs (zA (nT (zs ?_)));rcases tf (A.zlt i (A.len c)) with e | e
  ·replace a:=cT e a;refine zT (zk (nT (zs (zb (zs ?_)))));refine zB (nT (zs (zn ?_))) { tk:=[8,10] };obtain ⟨⟨r,s⟩,m,a⟩:=a0a a;obtain ⟨v,w⟩:=gtI m;obtain ⟨q,o,a⟩:=a0a a;refine zD (c4m hA o) ?_;refine zF (nT ?_);rcases tf q with g | g
   ·replace a:=cT g a;refine zT (zs ?_);refine zB (nT (zr (rB (rT (rT ?_))))) { tk:=[5,17] };refine exL a ?_;rintro rfl;refine oxR ?_;replace b:=(eR (k _ b));refine rB (rT ?_);cases soI b;exact zq
   replace a:=cF g a;refine zU (zk (nB (nT ?_)));refine zB ?_ { tk:=[18] };exact nT ⟨_,(soI a).symm,rfl,zv⟩
  replace a:=cF e a;refine zU (AWp.exit (xT (xT ?_)));refine exL a ?_;rintro rfl;exact oxI ⟨rfl,b,zv⟩
 rintro _ ⟨b,rfl⟩;have h:=(eL (k _ b));refine xB (nT (zs (zA (nT (zr ?_)))));cases soI h;exact zq

theorem c4n {A:Ar} (hA:SA A) {b:List D} {a:Bool} (h:N75 A b=some a):a0e Tryz.prog 75 [zl 2 b,(.func 76 [] [])] [] (.d (.bool a)) []:=by
 unfold N75 at h;refine zI Tryz.func75 ?_;refine zs (zA (nT (zs (zn ?_))));obtain ⟨e,c,h⟩:=a0a h;refine zC (c2D hA c) ?_ { tk:=[8] };refine zE (nT (zr ?_)) { tk:=[8] };cases soI h;exact zq

theorem c4o {A:Ar} (hA:SA A) {c:List D} {e:Bool} (h:N74 A c=some e):a0e Tryz.prog 74 [zl 2 c] [] (.d (.bool e)) []:=by
 unfold N74 at h;refine zI Tryz.func74 ?_;refine zs (zA (nT (zs ?_)));obtain ⟨i,a,h⟩:=a0a h;refine zN [2] [] 0 (fun τ=>τ=⟨[(2,.d (.bool i))],[],10⟩) ?_ ?_
 ·refine zn ?_;rcases tf (A.zlt 4 (A.len c)) with b | b
  ·replace a:=cT b a;refine zF ?_ { tk:=[9] };cases soI a;exact zO
  replace a:=cF b a;obtain ⟨j,g,a⟩:=a0a a;refine zD (c4n hA g) ?_ { tk:=[9] };refine zF ?_ { tk:=[9] };cases soI a;exact zO
 rintro _ rfl;refine nT (zr ?_);cases soI h;exact zq

theorem c2E {A:Ar} (hA:SA A) {c:List D} {j:Int} (h:c1R A c=some j):a0e Tryz.prog 111 [zl 1 c,(.func 74 [] [])] [] (zi j) []:=by
 unfold c1R at h;refine zI Tryz.func111 ?_;refine zs (zA (nT (zs (zs ?_))));refine zA (nT (zb ?_));obtain ⟨w,p,l,k,b⟩:=a0m h;refine zM 0 [] [] 0 (fun τ=>l (.inl ())=some j/\τ=⟨[],[],19⟩) ?_ ?_
 ·refine zP p [0,1,7,8] [] 0 (fun i=>⟨[(0,zl 1 c),(1,(.func 74 [] [])),(7,(.d (.int .i64 (A.len c)))),(8,zi i)],[],19⟩) ⟨rfl,zc⟩ ?_;rintro i s a;dsimp only [a7N] at a;refine zs (zA (nT (zs ?_)));rcases tf (A.zlt i (A.len c)) with e | e
  ·replace a:=cT e a;refine zT (zk (nT (zs (zb (zs ?_)))));refine zB (nT (zs (zn ?_))) { tk:=[8,10] };obtain ⟨r,m,a⟩:=a0a a;obtain ⟨u,v⟩:=gtI m;obtain ⟨q,o,a⟩:=a0a a;refine zD (c4o hA o) ?_;refine zF (nT ?_);rcases tf q with g | g
   ·replace a:=cT g a;refine zT (zs ?_);refine zB (nT (zr (rB (rT (rT ?_))))) { tk:=[5,17] };refine exL a ?_;rintro rfl;refine oxR ?_;replace b:=(eR (k _ b));refine rB (rT ?_);cases soI b;exact zq
   replace a:=cF g a;refine zU (zk (nB (nT ?_)));refine zB ?_ { tk:=[18] };exact nT ⟨_,(soI a).symm,rfl,zv⟩
  replace a:=cF e a;refine zU (AWp.exit (xT (xT ?_)));refine exL a ?_;rintro rfl;exact oxI ⟨rfl,b,zv⟩
 rintro _ ⟨b,rfl⟩;have h:=(eL (k _ b));refine xB (nT (zs (zA (nT (zr ?_)))));cases soI h;exact zq

theorem c4p {A:Ar} (hA:SA A) {b:List D} {a:Bool} (h:N73 A b=some a):a0e Tryz.prog 73 [zl 1 b,(.func 74 [] [])] [] (.d (.bool a)) []:=by
 unfold N73 at h;refine zI Tryz.func73 ?_;refine zs (zA (nT (zs (zn ?_))));obtain ⟨e,c,h⟩:=a0a h;refine zC (c2E hA c) ?_ { tk:=[8] };refine zE (nT (zr ?_)) { tk:=[8] };cases soI h;exact zq

theorem c2f {A:Ar} (hA:SA A) {e:List D} {c:Bool} (h:N39 A e=some c):a0e Tryz.prog 39 [zl 1 e] [] (.d (.bool c)) []:=by
 unfold N39 at h;refine zI Tryz.func39 ?_;refine zs (zA (nT (zs ?_)));obtain ⟨k,a,h⟩:=a0a h;refine zN [2] [] 0 (fun τ=>τ=⟨[(2,.d (.bool k))],[],11⟩) ?_ ?_
 ·refine zn ?_;obtain ⟨j,g,a⟩:=a0a a;refine zC (b9N hA g) ?_ { tk:=[10] };rcases tf j with b | b
  ·replace a:=cT b a;obtain ⟨l,i,a⟩:=a0a a;refine zD (c4p hA i) ?_ { tk:=[10] };refine zF ?_ { tk:=[10] };cases soI a;exact zO
  replace a:=cF b a;refine zF ?_ { tk:=[10] };cases soI a;exact zO
 rintro _ rfl;refine nT (zr ?_);cases soI h;exact zq

theorem b9O {A:Ar} (hA:SA A) {c e g a b:Int} (h:N85 A c e g=some (a,b)):a0e Tryz.prog 85 [.d (.agg [.int .i64 c,.int .i64 e,.int .i64 g])] [] (.d (.agg [.int .i64 a,.int .i64 b])) []:=by
 unfold N85 at h;refine zI Tryz.func85 ?_;refine zs (zA (nT (zs ?_)));refine zA (nT (zr ?_)) { tk:=[7] };cases soI h;exact zq

theorem b9P {A:Ar} (hA:SA A) {e:List D} {g i:Int} {c:Bool} (h:b9q A e g i=some c):a0e Tryz.prog 120 [zl 1 e,.d (.agg [.int .i64 g,.int .i64 i])] [] (.d (.bool c)) []:=by
 unfold b9q at h;refine zI Tryz.func120 ?_;refine zs (zA (nT (zs ?_)));obtain ⟨o,a,h⟩:=a0a h;refine zN [4] [] 0 (fun τ=>τ=⟨[(4,.d (.bool o))],[],23⟩) ?_ ?_
 ·refine zQ ?_;obtain ⟨m,k,a⟩:=a0a a;refine a0W.c0 hT hA { tk:=[22] } rfl zc (b9N hA k) rfl rfl (lb rfl) rfl rfl ?_;rcases tf m with b | b
  ·replace a:=cT b a;obtain ⟨p,l,a⟩:=a0a a;obtain ⟨r,q⟩:=gtI l;obtain ⟨s,j,a⟩:=a0a a;refine a0W.c0 hT hA { tk:=[22] } rfl zu (b9N hA j) rfl rfl (lb rfl) rfl rfl ?_;refine zJ ?_ { tk:=[22] };cases soI a;exact zO
  replace a:=cF b a;refine zJ ?_ { tk:=[22] };cases soI a;exact zO
 rintro _ rfl;refine nT (zr ?_);cases soI h;exact zq

theorem b9Q {A:Ar} (hA:SA A) {c e g a b:Int} (h:N84 A c e g=some (a,b)):a0e Tryz.prog 84 [.d (.agg [.int .i64 c,.int .i64 e,.int .i64 g])] [] (.d (.agg [.int .i64 a,.int .i64 b])) []:=by
 unfold N84 at h;refine zI Tryz.func84 ?_;refine zs (zA (nT (zs ?_)));refine zA (nT (zr ?_)) { tk:=[7] };cases soI h;exact zq

theorem b5c {A:Ar} (hA:SA A) {c:List D} {e g a:Int} {b:Bool} (h:b6D A c e g=some (a,b)):a0e Tryz.prog 118 [zl 1 c,.d (.agg [.int .i64 e,.int .i64 g])] [] (.d (.agg [.int .i64 a,.bool b])) []:=by
 unfold b6D at h;refine zI Tryz.func118 ?_;refine zs (zA (nT (zs ?_)));obtain ⟨k,j,h⟩:=a0a h;obtain ⟨p,q⟩:=gtI j;obtain ⟨⟨l,m⟩,i,h⟩:=a0a h;obtain ⟨n,o⟩:=gtI i;refine zH ?_ { tk:=[13] };refine nT (zr ?_);cases soI h;exact zq

theorem c2F {A:Ar} (hA:SA A) {k:List D} {l g i:Int} {j:Bool} (h:N91 A k l g i=some j):a0e Tryz.prog 91 [zl 1 k,.d (.agg [.int .i64 l,.int .i64 g,.int .i64 i])] [] (.d (.bool j)) []:=by
 unfold N91 at h;refine zI Tryz.func91 ?_;refine zs (zA (nT (zs ?_)));obtain ⟨z,a,h⟩:=a0a h;refine zN [4] [] 0 (fun τ=>τ=⟨[(4,.d (.bool z))],[],35⟩) ?_ ?_
 ·refine zQ ?_;rcases tf (A.zlt g i) with e | e
  ·replace a:=cT e a;obtain ⟨⟨O,P⟩,u,a⟩:=a0a a;refine a0W.c0 hT hA { tk:=[34] } rfl zu (b9O hA u) rfl rfl (lb rfl) rfl rfl ?_;obtain ⟨w,v,a⟩:=a0a a;refine a0W.c0 hT hA { tk:=[34] } rfl zu (b9P hA v) rfl rfl (lb rfl) rfl rfl ?_;rcases tf w with b | b
   ·replace a:=cT b a;obtain ⟨⟨B,C⟩,m,a⟩:=a0a a;refine a0W.c0 hT hA { tk:=[34] } rfl zu (b9Q hA m) rfl rfl (lb rfl) rfl rfl ?_;obtain ⟨y,o,a⟩:=a0a a;refine a0W.c0 hT hA { tk:=[34] } rfl zu (b9P hA o) rfl rfl (lb rfl) rfl rfl ?_;rcases tf y with c | c
    ·replace a:=cT c a;obtain ⟨⟨E,F⟩,p,a⟩:=a0a a;refine a0W.c0 hT hA { tk:=[34] } rfl zu (b9O hA p) rfl rfl (lb rfl) rfl rfl ?_;obtain ⟨⟨G,J⟩,q,a⟩:=a0a a;refine a0W.c0 hT hA { tk:=[34] } rfl zu (b5c hA q) rfl rfl (lb rfl) rfl rfl ?_;obtain ⟨⟨K,L⟩,r,a⟩:=a0a a;refine a0W.c0 hT hA { tk:=[34] } rfl zu (b9Q hA r) rfl rfl (lb rfl) rfl rfl ?_;obtain ⟨⟨M,N⟩,s,a⟩:=a0a a;refine a0W.c0 hT hA { tk:=[34] } rfl zu (b5c hA s) rfl rfl (lb rfl) rfl rfl ?_;refine zJ ?_ { tk:=[34] };cases soI a;exact zO
    replace a:=cF c a;refine zJ ?_ { tk:=[34] };cases soI a;exact zO
   replace a:=cF b a;refine zJ ?_ { tk:=[34] };cases soI a;exact zO
  replace a:=cF e a;refine zJ ?_ { tk:=[34] };cases soI a;exact zO
 rintro _ rfl;refine nT (zr ?_);cases soI h;exact zq

theorem b9w {A:Ar} (hA:SA A) {a E:List D} (h:N80 A a=some E):a0e Tryz.prog 80 [zl 1 a] [] (.own 3 E) []:=by
 unfold N80 at h;refine zI Tryz.func80 ?_;refine zs (zA (nT (zs ?_)));refine zA (nT (zs (zs ?_)));refine zA (nT (zb ?_));obtain ⟨m0,Y,M,V,w⟩:=a0m h;refine zM 0 [3] [] 0 (fun τ => ∃ C,M C=some E/\τ=⟨[(3,(.own 3 C))],[],47⟩) ?_ ?_
 ·refine zP Y [0,3,9,10,11] [] 0 (fun (G,b)=>⟨[(0,zl 1 a),(3,(.own 3 G)),(9,zl 1 a),(10,(.d (.int .i64 (A.len a)))),(11,zi b)],[],47⟩) ⟨rfl,zc⟩ ?_;rintro ⟨G,b⟩ R i;dsimp only [b1n] at i;refine zs (zA (nT (zs ?_)));rcases tf (A.zlt b (A.len a)) with r | r
  ·replace i:=cT r i;refine zT (zk (nT (zs (zb (zs ?_)))));obtain ⟨c,P,i⟩:=a0a i;obtain ⟨e0,g0⟩:=gtI P;refine zB (nT (zs ?_));refine zB (nT (zb ?_));obtain ⟨l0,X,L,U,v⟩:=a0m i;refine zM 2 [0,3,9,10,11] [] 0 (fun τ => ∃ B,L B=some R/\τ=⟨[(0,zl 1 a),(3,(.own 3 B)),(9,zl 1 a),(10,(.d (.int .i64 (A.len a)))),(11,zi b)],[],47⟩) ?_ ?_
   ·refine zP X [0,3,4,5,9,10,11,17,18] [] 0 (fun (J,e)=>⟨[(0,zl 1 a),(3,(.own 3 J)),(4,zi b),(5,zl 2 c),(9,zl 1 a),(10,(.d (.int .i64 (A.len a)))),(11,zi b),(17,(.d (.int .i64 (A.len c)))),(18,zi e)],[],47⟩) ⟨rfl,zv⟩ ?_;rintro ⟨J,e⟩ Q j;dsimp only [b1m] at j;refine zs (zA (nT (zs ?_)));rcases tf (A.zlt e (A.len c)) with s | s
    ·replace j:=cT s j;refine zT (zk (nT (zs (zb (zs ?_)))));refine zB (nT (zs ?_));refine zB (nT (zb ?_));obtain ⟨k0,W,K,S,u⟩:=a0m j;refine zM 4 [0,3,4,5,9,10,11,17,18] [] 0 (fun τ => ∃ z,K z=some Q/\τ=⟨[(0,zl 1 a),(3,(.own 3 z)),(4,zi b),(5,zl 2 c),(9,zl 1 a),(10,(.d (.int .i64 (A.len a)))),(11,zi b),(17,(.d (.int .i64 (A.len c)))),(18,zi e)],[],47⟩) ?_ ?_
     ·refine zP W [0,3,4,5,6,7,9,10,11,17,18] [] 0 (fun (y,m)=>⟨[(0,zl 1 a),(3,(.own 3 y)),(4,zi b),(5,zl 2 c),(6,zi e),(7,zi m),(9,zl 1 a),(10,(.d (.int .i64 (A.len a)))),(11,zi b),(17,(.d (.int .i64 (A.len c)))),(18,zi e)],[],47⟩) ⟨rfl,zv⟩ ?_;rintro ⟨y,m⟩ b0 g;dsimp only [b1l] at g;refine zs (zs (zA (nT ?_)));rcases tf (A.zlt m (A.len c)) with o | o
      ·replace g:=cT o g;refine zT (zk (nT (zs (zb (zs ?_)))));refine zB (nT (zs ?_)) { tk:=[31] };obtain ⟨F,k,g⟩:=a0a g;refine zN [0,3,4,5,6,7,8,9,10,11,17,18,39] [] 0 (fun τ=>τ=⟨[(0,zl 1 a),(3,(.own 3 y)),(4,zi b),(5,zl 2 c),(6,zi e),(7,zi m),(8,(.lbox [zi b,zi e,zi m])),(9,zl 1 a),(10,(.d (.int .i64 (A.len a)))),(11,zi b),(17,(.d (.int .i64 (A.len c)))),(18,zi e),(39,.d (.bool F))],[],47⟩) ?_ ?_
       ·refine zn ?_;rcases tf (A.zeq e m) with p | p
        ·replace k:=cT p k;refine zF ?_;cases soI k;exact zO
        replace k:=cF p k;obtain ⟨j0,N,k⟩:=a0a k;refine zD (c2F hA N) ?_;refine zF ?_;cases soI k;exact zO
       rintro _ rfl;refine nT ?_;obtain ⟨a0,l,g⟩:=a0a g;refine zN [0,3,4,5,6,7,9,10,11,17,18] [] 0 (fun τ=>τ=⟨[(0,zl 1 a),(3,(.own 3 a0)),(4,zi b),(5,zl 2 c),(6,zi e),(7,zi m),(9,zl 1 a),(10,(.d (.int .i64 (A.len a)))),(11,zi b),(17,(.d (.int .i64 (A.len c)))),(18,zi e)],[],47⟩) ?_ ?_
       ·rcases tf F with q | q
        ·replace l:=cT q l;refine zT ?_;obtain ⟨i0,O,l⟩:=a0a l;obtain ⟨c0,d0⟩:=apI O;refine zB ?_ { tk:=[3,43] };cases soI l;exact zO
        replace l:=cF q l;refine zU (zk ?_);cases soI l;exact zO
       rintro _ rfl;refine nB (nT (zA ?_));exact nT ⟨_,(soI g).symm,rfl,zc⟩
      replace g:=cF o g;refine zU (AWp.exit (xT (xT ?_)));refine exL g ?_;rintro rfl;exact oxI ⟨rfl,_,u,zv⟩
     rintro _ ⟨z,u,rfl⟩;have j:=(S _ u);refine xB (nB (nT (zA ?_)));exact nT ⟨_,(soI j).symm,rfl,zc⟩
    replace j:=cF s j;refine zU (AWp.exit (xT (xT ?_)));refine exL j ?_;rintro rfl;exact oxI ⟨rfl,_,v,zv⟩
   rintro _ ⟨B,v,rfl⟩;have i:=(U _ v);refine xB (nB (nT (zA ?_)));exact nT ⟨_,(soI i).symm,rfl,zc⟩
  replace i:=cF r i;refine zU (AWp.exit (xT (xT ?_)));refine exL i ?_;rintro rfl;exact oxI ⟨rfl,_,w,zv⟩
 rintro _ ⟨C,w,rfl⟩;have h:=(V _ w);refine xB (nT (zs (zA (nT (zr ?_)) { tk:=[3,46] })));cases soI h;exact zq

theorem b7N {A:Ar} (hA:SA A) {k:List D} {g l i m:Int} {j:Bool} (h:b4S A k g l i m=some j):a0e Tryz.prog 83 [zl 1 k,.d (.agg [.int .i64 g,.int .i64 l]),.d (.agg [.int .i64 i,.int .i64 m])] [] (.d (.bool j)) []:=by
 unfold b4S at h;refine zI Tryz.func83 ?_;refine zs (zA (nT (zs ?_)));refine zQ ?_;obtain ⟨⟨r,s⟩,o,h⟩:=a0a h;refine a0W.c0 hT hA { tk:=[11,14] } rfl zc (b5c hA o) rfl rfl (lb rfl) rfl rfl ?_;obtain ⟨⟨q,v⟩,p,h⟩:=a0a h;refine a0W.c0 hT hA { tk:=[11,14] } rfl zc (b5c hA p) rfl rfl (lb rfl) rfl rfl ?_;refine a0W.cd hT hA { tk:=[11,14] } rfl zc (by kernel_rfl) ?_;refine nT (zs ?_);obtain ⟨u,a,h⟩:=a0a h;refine zN [6] [] 0 (fun τ=>τ=⟨[(6,.d (.bool u))],[],35⟩) ?_ ?_
 ·rcases tf (A.zeq g i) with b | b
  ·replace a:=cT b a;refine zB ?_ { tk:=[34] };cases soI a;exact zO
  replace a:=cF b a;rcases tf (A.zeq r q) with c | c
  ·replace a:=cT c a;rcases tf s with e | e
   ·replace a:=cT e a;refine zB ?_ { tk:=[34] };cases soI a;exact zO
   replace a:=cF e a;refine zB ?_ { tk:=[34] };cases soI a;exact zO
  replace a:=cF c a;refine zB ?_ { tk:=[34] };cases soI a;exact zO
 rintro _ rfl;refine nT (zr ?_);cases soI h;exact zq

theorem b9R {A:Ar} (hA:SA A) {g i j a b c:Int} {e:Bool} (h:b7H A g i j a b c=some e):a0e Tryz.prog 117 [.d (.agg [.int .i64 g,.int .i64 i,.int .i64 j]),.ptr 0 0] [.cells [zi a,zi b,zi c]] (.d (.bool e)) [.cells [zi a,zi b,zi c]]:=by
 unfold b7H at h;refine zI Tryz.func117 ?_;refine zs (zA (nT (zs ?_)));refine zA (nT (zr ?_)) { tk:=[8] };cases soI h;exact zq

theorem c2G {A:Ar} (hA:SA A) {c:List D} {e g i m:Int} (h:c1S A c e g i=some m):a0e Tryz.prog 86 [zl 3 c,(.func 117 [] [.ptr 0 0])] [.cells [zi e,zi g,zi i]] (zi m) [.cells [zi e,zi g,zi i]]:=by
 unfold c1S at h;refine zI Tryz.func86 ?_;refine zs (zA (nT (zs (zs ?_))));refine zA (nT (zb ?_));obtain ⟨E,s,p,o,b⟩:=a0m h;refine zM 0 [] [] 1 (fun τ=>p (.inl ())=some m/\τ=⟨[],[.cells [zi e,zi g,zi i]],19⟩) ?_ ?_
 ·refine zP s [0,1,7,8] [] 1 (fun l=>⟨[(0,zl 3 c),(1,(.func 117 [] [.ptr 0 0])),(7,(.d (.int .i64 (A.len c)))),(8,zi l)],[.cells [zi e,zi g,zi i]],19⟩) ⟨rfl,zc⟩ ?_;rintro l z a;dsimp only [a7O] at a;refine zs (zA (nT (zs ?_)));rcases tf (A.zlt l (A.len c)) with j | j
  ·replace a:=cT j a;refine zT (zk (nT (zs (zb (zs ?_)))));refine zB (nT (zs (zn ?_))) { tk:=[8,10] };obtain ⟨⟨v,w,y⟩,q,a⟩:=a0a a;obtain ⟨B,C⟩:=gtI q;obtain ⟨u,r,a⟩:=a0a a;refine zD (b9R hA r) ?_;refine zF (nT ?_);rcases tf u with k | k
   ·replace a:=cT k a;refine zT (zs ?_);refine zB (nT (zr (rB (rT (rT ?_))))) { tk:=[5,17] };refine exL a ?_;rintro rfl;refine oxR ?_;replace b:=(eR (o _ b));refine rB (rT ?_);cases soI b;exact zq
   replace a:=cF k a;refine zU (zk (nB (nT ?_)));refine zB ?_ { tk:=[18] };exact nT ⟨_,(soI a).symm,rfl,zv⟩
  replace a:=cF j a;refine zU (AWp.exit (xT (xT ?_)));refine exL a ?_;rintro rfl;exact oxI ⟨rfl,b,zv⟩
 rintro _ ⟨b,rfl⟩;have h:=(eL (o _ b));refine xB (nT (zs (zA (nT (zr ?_)))));cases soI h;exact zq

theorem c2H {A:Ar} (hA:SA A) {g:List D} {a b c:Int} {e:Bool} (h:b9r A g a b c=some e):a0e Tryz.prog 49 [zl 3 g,(.func 117 [] [.ptr 0 0])] [.cells [zi a,zi b,zi c]] (.d (.bool e)) [.cells [zi a,zi b,zi c]]:=by
 unfold b9r at h;refine zI Tryz.func49 ?_;refine zs (zA (nT (zs (zn ?_))));obtain ⟨j,i,h⟩:=a0a h;refine zC (c2G hA i) ?_ { tk:=[8] };refine zE (nT (zr ?_)) { tk:=[8] };cases soI h;exact zq

theorem b9S {A:Ar} (hA:SA A) {j c:List D} {r:Bool} (h:b6E A j c=some r):a0e Tryz.prog 82 [zl 1 j,zl 3 c] [] (.d (.bool r)) []:=by
 unfold b6E at h;refine zI Tryz.func82 ?_;refine zs (zA (nT (zs ?_)));refine zA (nT (zs (zs ?_)));refine zA (nT (zb ?_));obtain ⟨p0,N,z,w,g⟩:=a0m h;refine zM 0 [5] [] 0 (fun τ => ∃ q,z (.inl q)=some r/\τ=⟨[(5,.d (.bool q))],[],46⟩) ?_ ?_
 ·refine zP N [0,1,5,9,10,11] [] 0 (fun (k,i)=>⟨[(0,zl 1 j),(1,zl 3 c),(5,.d (.bool k)),(9,zl 3 c),(10,(.d (.int .i64 (A.len c)))),(11,zi i)],[],46⟩) ⟨rfl,zc⟩ ?_;rintro ⟨k,i⟩ U a;dsimp only [a5r] at a;refine zs (zA (nT (zs ?_)));rcases tf (A.zlt i (A.len c)) with l | l
  ·replace a:=cT l a;refine zT (zk (nT (zs (zb (zs ?_)))));obtain ⟨⟨s,u,v⟩,B,a⟩:=a0a a;obtain ⟨V,W⟩:=gtI B;refine zB (nT (zs ?_)) { tk:=[15],esc:=[7] };obtain ⟨_,C,a⟩:=a0a a;have X:=nkI C;obtain ⟨⟨Q,R,S⟩,E,a⟩:=a0a a;obtain ⟨Y,a0⟩:=gtI E;refine zB (nT (zs (zs ?_))) { tk:=[23] };obtain ⟨y,b,a⟩:=a0a a;refine zN [0,1,5,7,9,10,11,37] [] 1 (fun τ=>τ=⟨[(0,zl 1 j),(1,zl 3 c),(5,.d (.bool k)),(7,.ptr 0 0),(9,zl 3 c),(10,(.d (.int .i64 (A.len c)))),(11,zi i),(37,.d (.bool y))],[.cells [zi s,zi u,zi v]],46⟩) ?_ ?_
   ·refine zQ ?_;obtain ⟨⟨j0,k0⟩,F,b⟩:=a0a b;refine a0W.c0 hT hA {} rfl zu (b9Q hA F) rfl rfl (lb rfl) rfl rfl ?_;obtain ⟨⟨l0,m0⟩,G,b⟩:=a0a b;refine a0W.c0 hT hA {} rfl zu (b9O hA G) rfl rfl (lb rfl) rfl rfl ?_;obtain ⟨O,J,b⟩:=a0a b;refine a0W.c0 hT hA {} rfl zu (b7N hA J) rfl rfl (lb rfl) rfl rfl ?_;rcases tf O with m | m
    ·replace b:=cT m b;obtain ⟨i0,K,b⟩:=a0a b;obtain ⟨b0,d0,e0,g0⟩:=slI K;obtain ⟨n0,L,b⟩:=a0a b;refine a0W.cp hT hA {} rfl zu (c2H hA L) rfl rfl rfl rfl (lb rfl) rfl rfl ?_;refine zJ ?_;cases soI b;exact zO
    replace b:=cF m b;refine zJ ?_;cases soI b;exact zO
   rintro _ rfl;refine nT ?_;rcases tf y with o | o
   ·replace a:=cT o a;refine zT (zs ?_);refine zB (nT (zr (rT (rB (rT (rT ?_))))));refine exL a ?_;rintro rfl;refine oxR ?_;replace g:=(eR (w _ g));refine rB (rT ?_);cases soI g;exact zq
   replace a:=cF o a;refine zU (zk (nT ?_));obtain ⟨P,e,a⟩:=a0a a;refine zN [0,1,5,9,10,11] [] 1 (fun τ=>τ=⟨[(0,zl 1 j),(1,zl 3 c),(5,.d (.bool P)),(9,zl 3 c),(10,(.d (.int .i64 (A.len c)))),(11,zi i)],[.cells [zi s,zi u,zi v]],46⟩) ?_ ?_
   ·refine zn ?_;rcases tf k with p | p
    ·replace e:=cT p e;refine zF ?_ { tk:=[43] };cases soI e;exact zO
    replace e:=cF p e;obtain ⟨o0,M,e⟩:=a0a e;refine zD (c2F hA M) ?_ { tk:=[43] };refine zF ?_ { tk:=[43] };cases soI e;exact zO
   rintro _ rfl;refine nB (nT (zA ?_));exact nT ⟨_,(soI a).symm,rfl,zc⟩
  replace a:=cF l a;refine zU (AWp.exit (xT (xT ?_)));refine exL a ?_;rintro rfl;exact oxI ⟨rfl,_,g,zv⟩
 rintro _ ⟨q,g,rfl⟩;have h:=(eL (w _ g));refine xB (nT (zs (zA (nT (zr ?_)) { tk:=[5,45] })));cases soI h;exact zq

theorem c2I {A:Ar} (hA:SA A) {self23:List D->Int->List D->List D->(Option (Bool×Int))} (j0 : ∀ {i:List D} {k:Int} {g b:List D} {G:Bool} {J:Int},self23 i k g b=some (G,J)->a0e Tryz.prog 81 [zl 3 i,.ptr 2 0,.ptr 3 0,.ptr 4 0,.ptr 5 0] [.cells [zi k],(.loop { st := .ready,pending:=none,env:=[(4,.ptr 0 0)],n:=14,params := #[10],assign:=a1J,body:=a1K }),.cells [zl 1 g],(.cells [(.yield 1)]),(.cells [(.own 3 b)]),(.cells [(.func 81 [] [.ptr 2 0,.ptr 3 0,.ptr 4 0,.ptr 5 0])])] (.d (.bool G)) [.cells [zi J],(.loop { st := .ready,pending:=none,env:=[(4,.ptr 0 0)],n:=14,params := #[10],assign:=a1J,body:=a1K }),.cells [zl 1 g],(.cells [(.yield 1)]),(.cells [(.own 3 b)]),(.cells [(.func 81 [] [.ptr 2 0,.ptr 3 0,.ptr 4 0,.ptr 5 0])])]) {i:List D} {k:Int} {g b:List D} {y:Bool} {B:Int} (h:b7I A self23 i k g b=some (y,B)):a0e Tryz.prog 81 [zl 3 i,.ptr 2 0,.ptr 3 0,.ptr 4 0,.ptr 5 0] [.cells [zi k],(.loop { st := .ready,pending:=none,env:=[(4,.ptr 0 0)],n:=14,params := #[10],assign:=a1J,body:=a1K }),.cells [zl 1 g],(.cells [(.yield 1)]),(.cells [(.own 3 b)]),(.cells [(.func 81 [] [.ptr 2 0,.ptr 3 0,.ptr 4 0,.ptr 5 0])])] (.d (.bool y)) [.cells [zi B],(.loop { st := .ready,pending:=none,env:=[(4,.ptr 0 0)],n:=14,params := #[10],assign:=a1J,body:=a1K }),.cells [zl 1 g],(.cells [(.yield 1)]),(.cells [(.own 3 b)]),(.cells [(.func 81 [] [.ptr 2 0,.ptr 3 0,.ptr 4 0,.ptr 5 0])])]:=by
 unfold b7I at h;refine zI Tryz.func81 ?_;refine zs (zA (nT (zs (zs ?_))));obtain ⟨n0,c,h⟩:=a0a h;refine zN [0,1,3,4,22] [] 6 (fun τ=>τ=⟨[(0,zl 3 i),(1,.ptr 2 0),(3,.ptr 4 0),(4,.ptr 5 0),(22,.d (.bool false))],[.cells [zi n0],(.loop { st := .ready,pending:=none,env:=[(4,.ptr 0 0)],n:=14,params := #[10],assign:=a1J,body:=a1K }),.cells [zl 1 g],(.cells [(.yield 1)]),(.cells [(.own 3 b)]),(.cells [(.func 81 [] [.ptr 2 0,.ptr 3 0,.ptr 4 0,.ptr 5 0])])],62⟩) ?_ ?_
 ·refine zn ?_;rcases tf (A.zle 2 (A.len i)) with p | p
  ·replace c:=cT p c;obtain ⟨r7,P,c⟩:=a0a c;refine zD (b9S hA P) ?_;rcases tf r7 with s | s
   ·replace c:=cT s c;obtain ⟨k0,g0,c⟩:=a0a c;obtain ⟨m0,e0⟩ : ∃ z,z=k0:=⟨_,rfl⟩;subst e0;have o0:a7p Tryz.prog 1 [zl 3 i] [.cells [zi k],(.loop { st := .ready,pending:=none,env:=[(4,.ptr 0 0)],n:=14,params := #[10],assign:=a1J,body:=a1K }),.cells [zl 1 g],(.cells [(.yield 1)]),(.cells [(.own 3 b)]),(.cells [(.func 81 [] [.ptr 2 0,.ptr 3 0,.ptr 4 0,.ptr 5 0])])] (.d (.bool true)) [.cells [zi m0],(.loop { st := .ready,pending:=none,env:=[(4,.ptr 0 0)],n:=14,params := #[10],assign:=a1J,body:=a1K }),.cells [zl 1 g],(.cells [(.yield 1)]),(.cells [(.own 3 b)]),(.cells [(.func 81 [] [.ptr 2 0,.ptr 3 0,.ptr 4 0,.ptr 5 0])])]:=by
     refine a7p.mk rfl rfl rfl rfl rfl rfl (lb rfl) ?_;dsimp only [a1J,a1K,cAt,Tryz.f23,Option.getD];refine zk ?_;refine ⟨rfl,rfl,?_⟩;refine zb (zA (nB ?_) { tk:=[12] });cases soI g0;exact ⟨rfl,rfl,_,rfl⟩
    refine a1D.cy hT hA {} zu (lb rfl) o0 rfl (.inl rfl) rfl rfl rfl (lb rfl) rfl rfl ?_;refine zF ?_;cases soI c;exact zO
   replace c:=cF s c;refine zF ?_;cases soI c;exact zO
  replace c:=cF p c;refine zF ?_;cases soI c;exact zO
 rintro _ rfl;refine nT (zU (zk (nT (zs (zs ?_)))));refine zA (nT ?_);rcases tf (A.zeq (A.len i) 3) with o | o
 ·replace h:=cT o h;refine zT (zs ?_);refine zB (nT (zr (rT ?_)));cases soI h;exact zq
 replace h:=cF o h;refine zU (zk (nT (zs (zs ?_))));refine zB (nT (zb ?_));obtain ⟨p1,i0,L,E,j⟩:=a0m h;refine zM 0 [] [] 6 (fun τ => ∃ w,L (.inl w)=some (y,B)/\τ=⟨[],[.cells [zi w],(.loop { st := .ready,pending:=none,env:=[(4,.ptr 0 0)],n:=14,params := #[10],assign:=a1J,body:=a1K }),.cells [zl 1 g],(.cells [(.yield 1)]),(.cells [(.own 3 b)]),(.cells [(.func 81 [] [.ptr 2 0,.ptr 3 0,.ptr 4 0,.ptr 5 0])])],62⟩) ?_ ?_
 ·refine zP i0 [0,1,4,26,27,28] [] 6 (fun (l,C)=>⟨[(0,zl 3 i),(1,.ptr 2 0),(4,.ptr 5 0),(26,zl 3 b),(27,(.d (.int .i64 (A.len b)))),(28,zi l)],[.cells [zi C],(.loop { st := .ready,pending:=none,env:=[(4,.ptr 0 0)],n:=14,params := #[10],assign:=a1J,body:=a1K }),.cells [zl 1 g],(.cells [(.yield 1)]),(.cells [(.own 3 b)]),(.cells [(.func 81 [] [.ptr 2 0,.ptr 3 0,.ptr 4 0,.ptr 5 0])])],62⟩) ⟨rfl,zv⟩ ?_;rintro ⟨l,C⟩ b0 a;dsimp only [b1o] at a;refine zs (zA (nT (zs ?_)));rcases tf (A.zlt l (A.len b)) with q | q
  ·replace a:=cT q a;refine zT (zk (nT (zs ?_)));obtain ⟨K,d0,a⟩:=jnI a;refine zN [0,1,4,26,27,28] [] 6 (fun τ => ∃ v,K v=some b0/\τ=⟨[(0,zl 3 i),(1,.ptr 2 0),(4,.ptr 5 0),(26,zl 3 b),(27,(.d (.int .i64 (A.len b)))),(28,zi l)],[.cells [zi v],(.loop { st := .ready,pending:=none,env:=[(4,.ptr 0 0)],n:=14,params := #[10],assign:=a1J,body:=a1K }),.cells [zl 1 g],(.cells [(.yield 1)]),(.cells [(.own 3 b)]),(.cells [(.func 81 [] [.ptr 2 0,.ptr 3 0,.ptr 4 0,.ptr 5 0])])],62⟩) ?_ ?_
   ·refine zb (zs ?_);obtain ⟨⟨M,N,O⟩,Q,a⟩:=a0a a;obtain ⟨s0,u0⟩:=gtI Q;refine zB (nT (zs (zs ?_))) { tk:=[31] };obtain ⟨F,e,a⟩:=a0a a;refine zN [0,1,4,8,26,27,28,48] [] 6 (fun τ=>τ=⟨[(0,zl 3 i),(1,.ptr 2 0),(4,.ptr 5 0),(8,(.lbox [zi M,zi N,zi O])),(26,zl 3 b),(27,(.d (.int .i64 (A.len b)))),(28,zi l),(48,.d (.bool F))],[.cells [zi C],(.loop { st := .ready,pending:=none,env:=[(4,.ptr 0 0)],n:=14,params := #[10],assign:=a1J,body:=a1K }),.cells [zl 1 g],(.cells [(.yield 1)]),(.cells [(.own 3 b)]),(.cells [(.func 81 [] [.ptr 2 0,.ptr 3 0,.ptr 4 0,.ptr 5 0])])],62⟩) ?_ ?_
    ·refine zQ ?_;rcases tf (A.zlt 0 (A.len i)) with r | r
     ·replace e:=cT r e;obtain ⟨⟨p0,q0,r0⟩,R,e⟩:=a0a e;obtain ⟨v0,w0⟩:=gtI R;obtain ⟨⟨k1,l1⟩,S,e⟩:=a0a e;refine a0W.c0 hT hA {} rfl zu (b9Q hA S) rfl rfl (lb rfl) rfl rfl ?_;obtain ⟨⟨m1,n1⟩,U,e⟩:=a0a e;refine a0W.c0 hT hA {} rfl zu (b9O hA U) rfl rfl (lb rfl) rfl rfl ?_;obtain ⟨o1,V,e⟩:=a0a e;refine a0W.c0 hT hA {} rfl zu (b7N hA V) rfl rfl (lb rfl) rfl rfl ?_;refine zJ ?_;cases soI e;exact zO
     replace e:=cF r e;refine zJ ?_;cases soI e;exact zO
    rintro _ rfl;refine nT ?_;rcases tf F with u | u
    ·replace a:=cT u a;refine zT (AWp.exit (xT (xB ?_)));exact oNi ⟨rfl,_,a,zv⟩
    replace a:=cF u a;refine zU (zk (nT (zs ?_)));refine zQ ?_;obtain ⟨g1,W,a⟩:=a0a a;obtain ⟨y0,z0,a1,b1⟩:=slI W;obtain ⟨_,X,a⟩:=a0a a;have c1:=ckI X;obtain ⟨i1,Y,a⟩:=a0a a;obtain ⟨d1,e1⟩:=apI Y;obtain ⟨⟨l0,j1⟩,a0,a⟩:=a0a a;refine a0W.cl hT hA {} rfl zu (j0 a0) rfl rfl rfl rfl rfl (lb rfl) rfl rfl ?_;refine zJ ?_;refine nT ?_;rcases tf l0 with m | m
    ·replace a:=cT m a;refine zU (zk (nB ?_));exact oNi ⟨rfl,_,a,zv⟩
    replace a:=cF m a;refine zT (zs ?_);refine zB (nT (zr (rB ?_)));refine oNr ?_;refine rT (rT ?_);refine exL a ?_;rintro rfl;refine oxR ?_;replace j:=(eR (E _ j));refine rB (rT ?_);cases soI j;exact zq
   rintro _ ⟨v,a,rfl⟩;replace a:=d0 _ a;refine nT (zA ?_);exact nT ⟨_,(soI a).symm,rfl,zc⟩
  replace a:=cF q a;refine zU (AWp.exit (xT (xT ?_)));refine exL a ?_;rintro rfl;exact oxI ⟨rfl,_,j,zv⟩
 rintro _ ⟨w,j,rfl⟩;have h:=(eL (E _ j));refine xB (nT (zs (zA (nT (zr ?_)))));cases soI h;exact zq
end Go.Am
