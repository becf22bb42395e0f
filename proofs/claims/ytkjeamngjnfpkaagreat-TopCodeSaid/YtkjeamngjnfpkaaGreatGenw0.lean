import Derived.Test.YtkjeamngjnfpkaaGreatGenp1
import Derived.Test.YtkjeamngjnfpkaaGreatAmLaw
import Derived.Test.YtkjeamngjnfpkaaGreatAmLaw
import Derived.Test.YtkjeamngjnfpkaaGreatAmLaw
import Derived.Test.YtkjeamngjnfpkaaGreatAmLaw
import Derived.Test.YtkjeamngjnfpkaaGreatAmThw
import Derived.Test.YtkjeamngjnfpkaaGreatAmThw
import Derived.Test.YtkjeamngjnfpkaaGreatAmThw
import Derived.Test.YtkjeamngjnfpkaaGreatAmThw
import Derived.Test.YtkjeamngjnfpkaaGreatAmThw
import Derived.Test.YtkjeamngjnfpkaaGreatAmLaw
import Derived.Test.YtkjeamngjnfpkaaGreatZ1T
import Derived.Test.YtkjeamngjnfpkaaGreatAmSortO
import Derived.Test.YtkjeamngjnfpkaaGreatZ1S
set_option maxRecDepth 100000
set_option maxHeartbeats 2000000
set_option linter.unusedVariables false
set_option linter.unusedSimpArgs false
namespace Go.Am
open Go Go.Proofs
theorem zqa : (!true) = false := rfl
theorem zqb : (!false) = true := rfl
theorem zqc {α : Type} {a b : α} : cond true a b = a := rfl
theorem zqd {α : Type} {a b : α} : cond false a b = b := rfl
def SA (A:Ar):Prop:=A=Ar.std
section
variable {p:Prop} {A:Ar} {m k t:Nat} {Q:Exit->St->Prop} {K R:St->Prop} {σ σ':St} {ops:Array Oper} {id:Nat} {c x y:Code} {ts sf:List Nat} {b:Bool} {l rest:List Oper} {f:FuncId} {fn:Func} {args:List AV} {o:Oper} {σ1:St} {H Hr H':List Obj} {r:AV} {d:Nat} {xs xs1:List Rec}
theorem zv (h:p:=by first|(cbv;done)|((repeat (cbv;simp only [*]));try cbv)):p:=h
theorem zu (h:p:=by (repeat (cbv;simp only [*]));try cbv):p:=h
theorem zc (h:p:=by cbv):p:=h
theorem zH {xs:List Rec} (k:Q .normal σ') (an:Ann:={}) (hA:SA A:=by assumption) (h:a9z A T an ops.toList ops.toList σ []=.done σ' xs:=by (repeat (cbv;simp only [*]));try cbv) (hok:a2J ops.toList (xs.map Rec.foot)=true:=by kernel_rfl) (hm:m<=σ.heap.length:=by exact lb rfl):AWp Tryz.prog m (.region id ops true) Q σ:=AWp.rd hT hA an rfl h hok hm k
theorem zJ {xs xs':List Rec} {K:St->Prop} (k:K σ') (an:Ann:={}) (hA:SA A:=by assumption) (h:a9z A T an ops.toList l σ xs=.done σ' xs':=by (repeat (cbv;simp only [*]));try cbv) (hok:a2J ops.toList (xs'.map Rec.foot)=true:=by kernel_rfl) (hl:l=ops.toList.drop xs.length:=by exact rfl):a1h Tryz.prog m ops l xs K σ:=a1h.cd hT hA an hl h hok k
theorem zN (ts sf:List Nat) (k:Nat) (R:St->Prop) (h:AWp Tryz.prog m c (AExit.onN ts sf k R Q) σ) (h2:∀τ,R τ->Q .normal τ) (hm:m<=k:=by exact lb rfl):AWp Tryz.prog m c Q σ:=AWp.cutN ts sf k hm R h h2
theorem zM (j:Nat) (ts sf:List Nat) (k:Nat) (R:St->Prop) (h:AWp Tryz.prog m c (AExit.onX j ts sf k R Q) σ) (h2:∀τ,R τ->Q (.exit j) τ) (hm:m<=k:=by exact lb rfl):AWp Tryz.prog m c Q σ:=AWp.cutX j ts sf k hm R h h2
theorem zP {S X:Type} {step:S->Option (S⊕X)} {s0:S} {x:X} (hx:iter step s0=some x) (ts sf:List Nat) (k:Nat) (F:S->St) (hf:σ.fits ts k=true/\σ.fitS ts sf k=F s0) (h:∀s e,step s=some e->AWp Tryz.prog m c (AExit.then (fun σ'=>∃s',e=.inl s'/\σ'.fits ts k=true/\σ'.fitS ts sf k=F s') (fun ex σ'=>∃x',e=.inr x'/\(x'=x->Q ex σ'))) (F s)) (hm:m<=k:=by exact lb rfl):AWp Tryz.prog m (.loop c) Q σ:=AWp.iter hx ts sf k hm F hf h
theorem zQ (h:a1h Tryz.prog m ops ops.toList [] (Q .normal) σ) (hm:m<=σ.heap.length:=by exact lb rfl):AWp Tryz.prog m (.region id ops true) Q σ:=AWp.regionDraw rfl hm h
theorem tfh:True:=trivial
theorem zq (h:p:=by exact ⟨rfl,rfl,rfl,lb rfl,_,rfl⟩):p:=h
theorem zA (k:Q .normal σ') (an:Ann:={}) (hA:SA A:=by assumption) (h:a9v A T an ops.toList ops.toList σ=.done σ':=by cbv) (hm:m<=σ.heap.length:=by exact lb rfl):AWp Tryz.prog m (.region id ops false) Q σ:=AWp.rg hT hA an h hm k
theorem zB (k:Q .normal σ') (an:Ann:={}) (hA:SA A:=by assumption) (h:a9v A T an ops.toList ops.toList σ=.done σ':=by (repeat (cbv;simp only [*]));try cbv) (hm:m<=σ.heap.length:=by exact lb rfl):AWp Tryz.prog m (.region id ops false) Q σ:=AWp.rg hT hA an h hm k
theorem zC (hc:a0c Tryz.prog f args H r H') (k:a2u Tryz.prog m ops rest Q {σ1 with env:=a3d σ1.env d r,heap:=H'++Hr}) (an:Ann:={}) (hA:SA A:=by assumption) (h:a9v A T an ops.toList l σ=.call f args o rest σ1:=by cbv) (hm:m<=σ.heap.length:=by exact lb rfl) (hH:σ1.heap=H++Hr:=by exact rfl) (hr:Hr=[]\/H'.length=H.length:=by first|exact .inl rfl|exact .inr rfl) (hi:a0s H.length H=true:=by exact rfl) (ha:a3L H.length args=true:=by exact rfl) (hd:o.dst=some d:=by exact rfl) (hl:d<σ1.n:=by exact lb rfl) (hb:(σ1.get d).isBox=false:=by exact rfl) (hf:args.all AV.free=true:=by exact rfl):a2u Tryz.prog m ops l Q σ:=a2u.cc hT hA an h hm hc hH hr hi ha hd hl hb hf k
theorem zD (hc:a0c Tryz.prog f args H r H') (k:a2u Tryz.prog m ops rest Q {σ1 with env:=a3d σ1.env d r,heap:=H'++Hr}) (an:Ann:={}) (hA:SA A:=by assumption) (h:a9v A T an ops.toList l σ=.call f args o rest σ1:=by (repeat (cbv;simp only [*]));try cbv) (hm:m<=σ.heap.length:=by exact lb rfl) (hH:σ1.heap=H++Hr:=by exact rfl) (hr:Hr=[]\/H'.length=H.length:=by first|exact .inl rfl|exact .inr rfl) (hi:a0s H.length H=true:=by exact rfl) (ha:a3L H.length args=true:=by exact rfl) (hd:o.dst=some d:=by exact rfl) (hl:d<σ1.n:=by exact lb rfl) (hb:(σ1.get d).isBox=false:=by exact rfl) (hf:args.all AV.free=true:=by exact rfl):a2u Tryz.prog m ops l Q σ:=a2u.cc hT hA an h hm hc hH hr hi ha hd hl hb hf k
theorem zE (k:Q .normal σ') (an:Ann:={}) (hA:SA A:=by assumption) (h:a9v A T an ops.toList l σ=.done σ':=by cbv) (hm:m<=σ.heap.length:=by exact lb rfl):a2u Tryz.prog m ops l Q σ:=a2u.cd hT hA an h hm k
theorem zF (k:Q .normal σ') (an:Ann:={}) (hA:SA A:=by assumption) (h:a9v A T an ops.toList l σ=.done σ':=by (repeat (cbv;simp only [*]));try cbv) (hm:m<=σ.heap.length:=by exact lb rfl):a2u Tryz.prog m ops l Q σ:=a2u.cd hT hA an h hm k
theorem zT (h:AWp Tryz.prog m x Q σ) (hc:σ.get t=.d (.bool b):=by exact rfl) (hb:b=true:=by first|exact rfl|simp only [*,zqa,zqb,zqc,zqd]):AWp Tryz.prog m (.cond (.tmp t) x y) Q σ:=AWp.cdT hc hb h
theorem zU (h:AWp Tryz.prog m y Q σ) (hc:σ.get t=.d (.bool b):=by exact rfl) (hb:b=false:=by first|exact rfl|simp only [*,zqa,zqb,zqc,zqd]):AWp Tryz.prog m (.cond (.tmp t) x y) Q σ:=AWp.cdF hc hb h
theorem zO (h:σ.fits ts k=true:=by exact rfl) (g:R (σ.fitS ts sf k):=by first|(cbv;done)|((repeat (cbv;simp only [*]));try cbv)):AExit.onN ts sf k R Q .normal σ:=⟨h,g⟩
theorem zR (sel:List (Option Nat)) (ts:List Nat) (hm:b0Q m sel 0=true:=by exact rfl) (h:σ.ren sel ts=some σ':=by first|(cbv;done)|((repeat (cbv;simp only [*]));try cbv)):Wk m σ σ':=Wk.ren sel ts hm h
theorem zI (hf:Tryz.prog.funcs[f]?=some fn) (h:AWp Tryz.prog H.length c (a7I T fn H.length r H') {env:=a7u 0 args,heap:=H,n:=fn.ntmps}) (hb:fn.body=some c:=by exact rfl) (hn:fn.name≠"runtime.NumGoroutine":=by decide) (ha:args.length<=fn.ntmps:=by exact lb rfl) (hr:args.all AV.free=true:=by exact rfl) (h1:r.isLocal=false:=by exact rfl) (h2:r.inb H'.length=true:=by exact rfl) (h3:a0s H'.length H'=true:=by exact rfl) (h4:H.length<=H'.length:=by exact lb rfl):a0c Tryz.prog f args H r H':=a0c.enter hT hf hb hn ha hr h1 h2 h3 h4 h
end
abbrev zs := @AWp.seq
abbrev zg := @AWp.rg
abbrev zr := @AWp.ret
abbrev zt := @AWp.cdT
abbrev zf := @AWp.cdF
abbrev zn := @AWp.region
abbrev zk := @AWp.skip
abbrev zb := @AWp.block
abbrev zi (x : Int) : AV := .d (.int .i64 x)
abbrev zl (k : Nat) (x : List D) : AV := .d (.list k x)
noncomputable def a2c:Code:=cAt (Tryz.f163.body.getD .skip) [1,1,1,1,0,1,0,0]

noncomputable def a2d:Code:=cAt (Tryz.f163.body.getD .skip) [1,1,1,1,0,1,0,1]

theorem c5t {A:Ar} (hA:SA A) {g:List D} {F:Bool} (h:Z59 A g=some F):a0c Tryz.prog 59 [zl 4 g] [] (.d (.bool F)) []:=by
 unfold Z59 at h;refine zI Tryz.func59 ?_;refine zs (zA (nT (zs (zs ?_))));refine zA (nT (zb ?_));obtain ⟨l0,X,O,r,e⟩:=a0z h;refine zM 0 [0] [] 0 (fun τ=>O (.inl ())=some F/\τ=⟨[(0,zl 4 g)],[],58⟩) ?_ ?_
 ·refine zP X [0,3] [] 0 (fun i=>⟨[(0,zl 4 g),(3,zi i)],[],58⟩) ⟨rfl,zc⟩ ?_;rintro i G a;dsimp only [b2L] at a;refine zs (zs (zA (nT ?_)));rcases tf (A.zlt i (A.len g)) with s | s
  ·replace a:=cT s a;refine zT (zk (nT (zs (zb (zs ?_)))));obtain ⟨⟨p,q,j,o⟩,R,a⟩:=a0a a;obtain ⟨b0,c0⟩:=gtI R;refine zB (nT (zs (zs ?_))) { tk:=[16] };obtain ⟨L,m,a⟩:=a0a a;refine zN [0,3,4,26] [] 0 (fun τ=>τ=⟨[(0,zl 4 g),(3,zi i),(4,(.lbox [zi p,zi q,zl 1 j,zl 1 o])),(26,.d (.bool L))],[],58⟩) ?_ ?_
   ·rcases tf (A.zlt 20 (A.len j)) with u | u
    ·replace m:=cT u m;refine zB ?_;cases soI m;exact zO
    replace m:=cF u m;refine zB ?_;cases soI m;exact zO
   rintro _ rfl;refine nT ?_;rcases tf L with v | v
   ·replace a:=cT v a;refine zT (zs ?_);refine zB (nT (zr (rT (rB (rT (rT ?_))))));refine exL a ?_;rintro rfl;refine oxR ?_;replace e:=(eR (r _ e));refine rB (rT ?_);cases soI e;exact zq
   replace a:=cF v a;refine zU (zk (nT (zs (zs ?_))));refine zB (nT (zb ?_));obtain ⟨j0,V,M,J,k⟩:=a0z a;refine zM 2 [0,3,4] [] 0 (fun τ=>M (.inl ())=some G/\τ=⟨[(0,zl 4 g),(3,zi i),(4,(.lbox [zi p,zi q,zl 1 j,zl 1 o]))],[],58⟩) ?_ ?_
   ·refine zP V [0,3,4,5] [] 0 (fun C=>⟨[(0,zl 4 g),(3,zi i),(4,(.lbox [zi p,zi q,zl 1 j,zl 1 o])),(5,zi C)],[],58⟩) ⟨rfl,zv⟩ ?_;rintro C Y b;dsimp only [b2K] at b;refine zs (zs (zA (nT ?_)));rcases tf (A.zlt C (A.len j)) with w | w
    ·replace b:=cT w b;refine zT (zk (nT (zs (zb (zs ?_)))));obtain ⟨P,S,b⟩:=a0a b;obtain ⟨d0,e0⟩:=gtI S;refine zB (nT ?_);rcases tf (A.zlt 20 (A.len P)) with y | y
     ·replace b:=cT y b;refine zT (zs ?_);refine zB (nT (zr (rB (rT (rT ?_)))));refine exL b ?_;rintro rfl;refine oxR ?_;replace k:=(eR (J _ k));refine rB (rT (rB (rT (rT ?_))));refine exL k ?_;rintro rfl;refine oxR ?_;replace e:=(eR (r _ e));refine rB (rT ?_);cases soI e;exact zq
     replace b:=cF y b;refine zU (zk (nB (nT ?_)));refine zB ?_;exact nT ⟨_,(soI b).symm,rfl,zv⟩
    replace b:=cF w b;refine zU (AWp.exit (xT (xT ?_)));refine exL b ?_;rintro rfl;exact oxI ⟨rfl,k,zv⟩
   rintro _ ⟨k,rfl⟩;have a:=(eL (J _ k));refine xB (nT (zs (zA (nT (zb ?_)))));obtain ⟨k0,W,N,K,l⟩:=a0z a;refine zM 4 [0,3] [] 0 (fun τ=>N (.inl ())=some G/\τ=⟨[(0,zl 4 g),(3,zi i)],[],58⟩) ?_ ?_
   ·refine zP W [0,3,4,6] [] 0 (fun E=>⟨[(0,zl 4 g),(3,zi i),(4,(.lbox [zi p,zi q,zl 1 j,zl 1 o])),(6,zi E)],[],58⟩) ⟨rfl,zc⟩ ?_;rintro E a0 c;dsimp only [b7K] at c;refine zs (zs (zA (nT ?_)));rcases tf (A.zlt E (A.len o)) with z | z
    ·replace c:=cT z c;refine zT (zk (nT (zs (zb (zs ?_)))));obtain ⟨Q,U,c⟩:=a0a c;obtain ⟨g0,i0⟩:=gtI U;refine zB (nT ?_);rcases tf (A.zlt 20 (A.len Q)) with B | B
     ·replace c:=cT B c;refine zT (zs ?_);refine zB (nT (zr (rB (rT (rT ?_)))));refine exL c ?_;rintro rfl;refine oxR ?_;replace l:=(eR (K _ l));refine rB (rB (rT (rT ?_)));refine exL l ?_;rintro rfl;refine oxR ?_;replace e:=(eR (r _ e));refine rB (rT ?_);cases soI e;exact zq
     replace c:=cF B c;refine zU (zk (nB (nT ?_)));refine zB ?_;exact nT ⟨_,(soI c).symm,rfl,zv⟩
    replace c:=cF z c;refine zU (AWp.exit (xT (xT ?_)));refine exL c ?_;rintro rfl;exact oxI ⟨rfl,l,zv⟩
   rintro _ ⟨l,rfl⟩;have a:=(eL (K _ l));refine xB (nB (nT (zA ?_)));exact nT ⟨_,(soI a).symm,rfl,zc⟩
  replace a:=cF s a;refine zU (AWp.exit (xT (xT ?_)));refine exL a ?_;rintro rfl;exact oxI ⟨rfl,e,zv⟩
 rintro _ ⟨e,rfl⟩;have h:=(eL (r _ e));refine xB (nT (zs (zA (nT (zr ?_)) { tk:=[57] })));cases soI h;exact zq

theorem c5u {A:Ar} (hA:SA A) {k l:Int} {m o e g:List D} {p:Bool} (h:Z18 A k l m o e g=some p):a0c Tryz.prog 18 [.d (.agg [.int .i64 k,.int .i64 l,.list 1 m,.list 1 o,.list 1 e,.list 1 g])] [] (.d (.bool p)) []:=by
 unfold Z18 at h;refine zI Tryz.func18 ?_;refine zs (zA (nT (zs (zs ?_))));refine zA (nT (zb ?_));obtain ⟨Y,N,E,B,i⟩:=a0z h;refine zM 0 [1] [] 0 (fun τ=>E (.inl ())=some p/\τ=⟨[(1,(.lbox [zi k,zi l,zl 1 m,zl 1 o,zl 1 e,zl 1 g]))],[],49⟩) ?_ ?_
 ·refine zP N [1,3] [] 0 (fun y=>⟨[(1,(.lbox [zi k,zi l,zl 1 m,zl 1 o,zl 1 e,zl 1 g])),(3,zi y)],[],49⟩) ⟨rfl,zc⟩ ?_;rintro y R a;dsimp only [b2M] at a;refine zs (zs (zA (nT ?_)));rcases tf (A.zlt y (A.len e)) with q | q
  ·replace a:=cT q a;refine zT (zk (nT (zs (zb (zs ?_)))));obtain ⟨G,K,a⟩:=a0a a;obtain ⟨U,V⟩:=gtI K;refine zB (nT ?_);rcases tf (A.zlt 30 (A.len G)) with r | r
   ·replace a:=cT r a;refine zT (zs ?_);refine zB (nT (zr (rB (rT (rT ?_)))));refine exL a ?_;rintro rfl;refine oxR ?_;replace i:=(eR (B _ i));refine rB (rT ?_);cases soI i;exact zq
   replace a:=cF r a;refine zU (zk (nB (nT ?_)));refine zB ?_;exact nT ⟨_,(soI a).symm,rfl,zv⟩
  replace a:=cF q a;refine zU (AWp.exit (xT (xT ?_)));refine exL a ?_;rintro rfl;exact oxI ⟨rfl,i,zv⟩
 rintro _ ⟨i,rfl⟩;have h:=(eL (B _ i));refine xB (nT (zs (zs (zA (nT (zb ?_))))));obtain ⟨a0,O,F,C,j⟩:=a0z h;refine zM 2 [1] [] 0 (fun τ=>F (.inl ())=some p/\τ=⟨[(1,(.lbox [zi k,zi l,zl 1 m,zl 1 o,zl 1 e,zl 1 g]))],[],49⟩) ?_ ?_
 ·refine zP O [1,4] [] 0 (fun z=>⟨[(1,(.lbox [zi k,zi l,zl 1 m,zl 1 o,zl 1 e,zl 1 g])),(4,zi z)],[],49⟩) ⟨rfl,zc⟩ ?_;rintro z S b;dsimp only [b2N] at b;refine zs (zs (zA (nT ?_)));rcases tf (A.zlt z (A.len g)) with s | s
  ·replace b:=cT s b;refine zT (zk (nT (zs (zb (zs ?_)))));obtain ⟨J,L,b⟩:=a0a b;obtain ⟨W,X⟩:=gtI L;refine zB (nT ?_);rcases tf (A.zlt 20 (A.len J)) with u | u
   ·replace b:=cT u b;refine zT (zs ?_);refine zB (nT (zr (rB (rT (rT ?_)))));refine exL b ?_;rintro rfl;refine oxR ?_;replace j:=(eR (C _ j));refine rB (rT ?_);cases soI j;exact zq
   replace b:=cF u b;refine zU (zk (nB (nT ?_)));refine zB ?_;exact nT ⟨_,(soI b).symm,rfl,zv⟩
  replace b:=cF s b;refine zU (AWp.exit (xT (xT ?_)));refine exL b ?_;rintro rfl;exact oxI ⟨rfl,j,zv⟩
 rintro _ ⟨j,rfl⟩;have h:=(eL (C _ j));refine xB (nT (zs ?_));obtain ⟨Q,c,h⟩:=a0a h;refine zN [2] [] 0 (fun τ=>τ=⟨[(2,.d (.bool Q))],[],49⟩) ?_ ?_
 ·refine zn ?_;obtain ⟨P,M,c⟩:=a0a c;refine zC (c5t hA M) ?_ { tk:=[48] };rcases tf P with v | v
  ·replace c:=cT v c;refine zF ?_ { tk:=[48] };cases soI c;exact zO
  replace c:=cF v c;rcases tf (A.zlt 10 (A.len e)) with w | w
  ·replace c:=cT w c;refine zF ?_ { tk:=[48] };cases soI c;exact zO
  replace c:=cF w c;refine zF ?_ { tk:=[48] };cases soI c;exact zO
 rintro _ rfl;refine nT (zr ?_);cases soI h;exact zq

theorem b1Z {A:Ar} (hA:SA A) {c e i:Int} {g:Bool} (h:Z82 A c e i=some g):a0c Tryz.prog 82 [zi c,zi e,zi i] [] (.d (.bool g)) []:=by
 unfold Z82 at h;refine zI Tryz.func82 ?_;refine zs (zA (nT (zs ?_)));obtain ⟨j,a,h⟩:=a0a h;refine zN [6] [] 0 (fun τ=>τ=⟨[(6,.d (.bool j))],[],15⟩) ?_ ?_
 ·rcases tf (A.zle c e) with b | b
  ·replace a:=cT b a;refine zB ?_ { tk:=[14] };cases soI a;exact zO
  replace a:=cF b a;refine zB ?_ { tk:=[14] };cases soI a;exact zO
 rintro _ rfl;refine nT (zr ?_);cases soI h;exact zq

theorem c3f {A:Ar} (hA:SA A) {b:Int} {a:Bool} (h:b9v A b=some a):a0c Tryz.prog 199 [zi b] [] (.d (.bool a)) []:=by
 unfold b9v at h;refine zI Tryz.func199 ?_;refine zs (zA (nT (zs (zn ?_))));obtain ⟨e,c,h⟩:=a0a h;refine zC (b1Z hA c) ?_ { tk:=[5] };refine zE (nT (zr ?_)) { tk:=[5] };cases soI h;exact zq

theorem c3g {A:Ar} (hA:SA A) {c:List D} {j:Int} (h:c2m A c=some j):a0c Tryz.prog 189 [zl 1 c,(.func 199 [] [])] [] (zi j) []:=by
 unfold c2m at h;refine zI Tryz.func189 ?_;refine zs (zA (nT (zs (zs ?_))));refine zA (nT (zb ?_));obtain ⟨w,p,l,k,b⟩:=a0z h;refine zM 0 [] [] 0 (fun τ=>l (.inl ())=some j/\τ=⟨[],[],19⟩) ?_ ?_
 ·refine zP p [0,1,7,8] [] 0 (fun i=>⟨[(0,zl 1 c),(1,(.func 199 [] [])),(7,(.d (.int .i64 (A.len c)))),(8,zi i)],[],19⟩) ⟨rfl,zc⟩ ?_;rintro i s a;dsimp only [a8Q] at a;refine zs (zA (nT (zs ?_)));rcases tf (A.zlt i (A.len c)) with e | e
  ·replace a:=cT e a;refine zT (zk (nT (zs (zb (zs ?_)))));refine zB (nT (zs (zn ?_))) { tk:=[8,10] };obtain ⟨r,m,a⟩:=a0a a;obtain ⟨u,v⟩:=gtI m;obtain ⟨q,o,a⟩:=a0a a;refine zD (c3f hA o) ?_;refine zF (nT ?_);rcases tf q with g | g
   ·replace a:=cT g a;refine zT (zs ?_);refine zB (nT (zr (rB (rT (rT ?_))))) { tk:=[5,17] };refine exL a ?_;rintro rfl;refine oxR ?_;replace b:=(eR (k _ b));refine rB (rT ?_);cases soI b;exact zq
   replace a:=cF g a;refine zU (zk (nB (nT ?_)));refine zB ?_ { tk:=[18] };exact nT ⟨_,(soI a).symm,rfl,zv⟩
  replace a:=cF e a;refine zU (AWp.exit (xT (xT ?_)));refine exL a ?_;rintro rfl;exact oxI ⟨rfl,b,zv⟩
 rintro _ ⟨b,rfl⟩;have h:=(eL (k _ b));refine xB (nT (zs (zA (nT (zr ?_)))));cases soI h;exact zq

theorem c3h {A:Ar} (hA:SA A) {b:List D} {a:Bool} (h:c2n A b=some a):a0c Tryz.prog 158 [zl 1 b,(.func 199 [] [])] [] (.d (.bool a)) []:=by
 unfold c2n at h;refine zI Tryz.func158 ?_;refine zs (zA (nT (zs (zn ?_))));obtain ⟨e,c,h⟩:=a0a h;refine zC (c3g hA c) ?_ { tk:=[8] };refine zE (nT (zr ?_)) { tk:=[8] };cases soI h;exact zq

theorem b0m {A:Ar} (hA:SA A) {b:List D} {a:Bool} (h:b0X A b=some a):a0c Tryz.prog 187 [zl 1 b] [] (.d (.bool a)) []:=by
 unfold b0X at h;refine zI Tryz.func187 ?_;refine zs (zA (nT (zs (zn ?_))));obtain ⟨e,c,h⟩:=a0a h;refine zC (c3h hA c) ?_ { tk:=[5] };refine zE (nT (zr ?_)) { tk:=[5] };cases soI h;exact zq

theorem b7R {A:Ar} (hA:SA A) {b:Int} {a:Bool} (h:b7L A b=some a):a0c Tryz.prog 188 [zi b] [] (.d (.bool a)) []:=by
 unfold b7L at h;refine zI Tryz.func188 ?_;refine zs (zA (nT (zs (zn ?_))));obtain ⟨e,c,h⟩:=a0a h;refine zC (b1Z hA c) ?_ { tk:=[4] };refine zE (nT (zr ?_)) { tk:=[4] };cases soI h;exact zq

theorem c3i {A:Ar} (hA:SA A) {j L J M N:Int} {K:Bool} (h:b9w A j L J M N=some K):a0c Tryz.prog 156 [.d (.agg [.int .i64 j,.int .i64 L,.int .i64 J,.int .i64 M]),zi N] [] (.d (.bool K)) []:=by
 unfold b9w at h;refine zI Tryz.func156 ?_;refine zs (zA (nT (zs (zs ?_))));refine zA (nT (zb (zs ?_)));refine zA (nT ?_);rcases tf (A.zeq j 1) with F | F
 ·replace h:=cT F h;refine zT (zs ?_);obtain ⟨m0,a,h⟩:=a0a h;refine zN [4] [] 0 (fun τ=>τ=⟨[(4,.d (.bool m0))],[],112⟩) ?_ ?_
  ·refine zn ?_;obtain ⟨r8,e7,a⟩:=a0a a;refine zD (b0m hA e7) ?_ { tk:=[22] };rcases tf r8 with G | G
   ·replace a:=cT G a;obtain ⟨b0,O,a⟩:=a0a a;refine zD (b7R hA O) ?_ { tk:=[22] };rcases tf b0 with k | k
    ·replace a:=cT k a;refine zF ?_ { tk:=[22] };cases soI a;exact zO
    replace a:=cF k a;refine zF ?_ { tk:=[22] };cases soI a;exact zO
   replace a:=cF G a;refine zF ?_ { tk:=[22] };cases soI a;exact zO
  rintro _ rfl;refine nT (zr (rB (rT ?_)));cases soI h;exact zq
 replace h:=cF F h;refine zU (zs ?_);refine zB (nT ?_);rcases tf (A.zeq j 2) with l | l
 ·replace h:=cT l h;refine zT (zs ?_);obtain ⟨n0,b,h⟩:=a0a h;refine zN [4] [] 0 (fun τ=>τ=⟨[(4,.d (.bool n0))],[],112⟩) ?_ ?_
  ·refine zn ?_;obtain ⟨c0,P,b⟩:=a0a b;refine zD (b7R hA P) ?_ { tk:=[38] };rcases tf c0 with m | m
   ·replace b:=cT m b;obtain ⟨d0,Q,b⟩:=a0a b;refine zD (b0m hA Q) ?_ { tk:=[38] };rcases tf d0 with o | o
    ·replace b:=cT o b;refine zF ?_ { tk:=[38] };cases soI b;exact zO
    replace b:=cF o b;refine zF ?_ { tk:=[38] };cases soI b;exact zO
   replace b:=cF m b;refine zF ?_ { tk:=[38] };cases soI b;exact zO
  rintro _ rfl;refine nT (zr (rB (rT ?_)));cases soI h;exact zq
 replace h:=cF l h;refine zU (zs ?_);refine zB (nT ?_);rcases tf (A.zeq j 3) with p | p
 ·replace h:=cT p h;refine zT (zs ?_);obtain ⟨o0,i,h⟩:=a0a h;refine zN [4] [] 0 (fun τ=>τ=⟨[(4,.d (.bool o0))],[],112⟩) ?_ ?_
  ·refine zn ?_;obtain ⟨e0,R,i⟩:=a0a i;refine zD (b7R hA R) ?_ { tk:=[51] };rcases tf e0 with q | q
   ·replace i:=cT q i;obtain ⟨s0,S,i⟩:=a0a i;refine zD (b0m hA S) ?_ { tk:=[51] };refine zF ?_ { tk:=[51] };cases soI i;exact zO
   replace i:=cF q i;refine zF ?_ { tk:=[51] };cases soI i;exact zO
  rintro _ rfl;refine nT (zr (rB (rT ?_)));cases soI h;exact zq
 replace h:=cF p h;refine zU (zs ?_);refine zB (nT ?_);rcases tf (A.zeq j 4) with r | r
 ·replace h:=cT r h;refine zT (zs ?_);obtain ⟨p0,c,h⟩:=a0a h;refine zN [4] [] 0 (fun τ=>τ=⟨[(4,.d (.bool p0))],[],112⟩) ?_ ?_
  ·refine zn ?_;obtain ⟨g0,U,c⟩:=a0a c;refine zD (b0m hA U) ?_ { tk:=[67] };rcases tf g0 with s | s
   ·replace c:=cT s c;obtain ⟨i0,V,c⟩:=a0a c;refine zD (b1Z hA V) ?_ { tk:=[67] };rcases tf i0 with u | u
    ·replace c:=cT u c;refine zF ?_ { tk:=[67] };cases soI c;exact zO
    replace c:=cF u c;refine zF ?_ { tk:=[67] };cases soI c;exact zO
   replace c:=cF s c;refine zF ?_ { tk:=[67] };cases soI c;exact zO
  rintro _ rfl;refine nT (zr (rB (rT ?_)));cases soI h;exact zq
 replace h:=cF r h;refine zU (zs ?_);refine zB (nT ?_);rcases tf (A.zeq j 5) with v | v
 ·replace h:=cT v h;refine zT (zs (zn ?_));obtain ⟨u0,W,h⟩:=a0a h;refine zD (b0m hA W) ?_ { tk:=[77] };refine zF (nT (zr (rB (rT ?_)))) { tk:=[77] };cases soI h;exact zq
 replace h:=cF v h;refine zU (zs ?_);refine zB (nT ?_);rcases tf (A.zeq j 6) with w | w
 ·replace h:=cT w h;refine zT (zs ?_);obtain ⟨q0,e,h⟩:=a0a h;refine zN [4] [] 0 (fun τ=>τ=⟨[(4,.d (.bool q0))],[],112⟩) ?_ ?_
  ·refine zn ?_;obtain ⟨j0,X,e⟩:=a0a e;refine zD (b0m hA X) ?_ { tk:=[95] };rcases tf j0 with y | y
   ·replace e:=cT y e;obtain ⟨k0,Y,e⟩:=a0a e;refine zD (b1Z hA Y) ?_ { tk:=[95] };rcases tf k0 with z | z
    ·replace e:=cT z e;refine zF ?_ { tk:=[95] };cases soI e;exact zO
    replace e:=cF z e;refine zF ?_ { tk:=[95] };cases soI e;exact zO
   replace e:=cF y e;refine zF ?_ { tk:=[95] };cases soI e;exact zO
  rintro _ rfl;refine nT (zr (rB (rT ?_)));cases soI h;exact zq
 replace h:=cF w h;refine zU (zs ?_);refine zB (nT ?_);rcases tf (A.zeq j 7) with B | B
 ·replace h:=cT B h;refine zT (zs ?_);obtain ⟨r0,g,h⟩:=a0a h;refine zN [4] [] 0 (fun τ=>τ=⟨[(4,.d (.bool r0))],[],112⟩) ?_ ?_
  ·refine zn ?_;obtain ⟨l0,a0,g⟩:=a0a g;refine zD (b0m hA a0) ?_ { tk:=[111] };rcases tf l0 with C | C
   ·replace g:=cT C g;rcases tf (A.zeq J 0) with E | E
    ·replace g:=cT E g;refine zF ?_ { tk:=[111] };cases soI g;exact zO
    replace g:=cF E g;refine zF ?_ { tk:=[111] };cases soI g;exact zO
   replace g:=cF C g;refine zF ?_ { tk:=[111] };cases soI g;exact zO
  rintro _ rfl;refine nT (zr (rB (rT ?_)));cases soI h;exact zq
 replace h:=cF B h;refine zU (zk (nB (nT (zs ?_))));refine zB (nT (zr ?_));cases soI h;exact zq

theorem c3j {A:Ar} (hA:SA A) {b c e g:Int} {i:List D} {a:Bool} (h:b9x A b c e g i=some a):a0c Tryz.prog 155 [.d (.agg [.int .i64 b,.int .i64 c,.int .i64 e,.int .i64 g]),.iptr [.list 4 i]] [] (.d (.bool a)) []:=by
 unfold b9x at h;refine zI Tryz.func155 ?_;refine zs (zA (nT (zs (zn ?_))));obtain ⟨k,j,h⟩:=a0a h;refine zC (c3i hA j) ?_ { tk:=[8] };refine zE (nT (zr ?_)) { tk:=[8] };cases soI h;exact zq

theorem c3k {A:Ar} (hA:SA A) {c k:List D} {j:Int} (h:c2o A c k=some j):a0c Tryz.prog 186 [zl 4 c,(.func 155 [] [.iptr [.list 4 k]])] [] (zi j) []:=by
 unfold c2o at h;refine zI Tryz.func186 ?_;refine zs (zA (nT (zs (zs ?_))));refine zA (nT (zb ?_));obtain ⟨C,q,m,l,b⟩:=a0z h;refine zM 0 [] [] 0 (fun τ=>m (.inl ())=some j/\τ=⟨[],[],19⟩) ?_ ?_
 ·refine zP q [0,1,7,8] [] 0 (fun i=>⟨[(0,zl 4 c),(1,(.func 155 [] [.iptr [.list 4 k]])),(7,(.d (.int .i64 (A.len c)))),(8,zi i)],[],19⟩) ⟨rfl,zc⟩ ?_;rintro i y a;dsimp only [a8R] at a;refine zs (zA (nT (zs ?_)));rcases tf (A.zlt i (A.len c)) with e | e
  ·replace a:=cT e a;refine zT (zk (nT (zs (zb (zs ?_)))));refine zB (nT (zs (zn ?_))) { tk:=[8,10] };obtain ⟨⟨s,u,v,w⟩,o,a⟩:=a0a a;obtain ⟨z,B⟩:=gtI o;obtain ⟨r,p,a⟩:=a0a a;refine zD (c3j hA p) ?_;refine zF (nT ?_);rcases tf r with g | g
   ·replace a:=cT g a;refine zT (zs ?_);refine zB (nT (zr (rB (rT (rT ?_))))) { tk:=[5,17] };refine exL a ?_;rintro rfl;refine oxR ?_;replace b:=(eR (l _ b));refine rB (rT ?_);cases soI b;exact zq
   replace a:=cF g a;refine zU (zk (nB (nT ?_)));refine zB ?_ { tk:=[18] };exact nT ⟨_,(soI a).symm,rfl,zv⟩
  replace a:=cF e a;refine zU (AWp.exit (xT (xT ?_)));refine exL a ?_;rintro rfl;exact oxI ⟨rfl,b,zv⟩
 rintro _ ⟨b,rfl⟩;have h:=(eL (l _ b));refine xB (nT (zs (zA (nT (zr ?_)))));cases soI h;exact zq

theorem c3l {A:Ar} (hA:SA A) {b c:List D} {a:Bool} (h:b9y A b c=some a):a0c Tryz.prog 154 [zl 4 b,(.func 155 [] [.iptr [.list 4 c]])] [] (.d (.bool a)) []:=by
 unfold b9y at h;refine zI Tryz.func154 ?_;refine zs (zA (nT (zs (zn ?_))));obtain ⟨g,e,h⟩:=a0a h;refine zC (c3k hA e) ?_ { tk:=[8] };refine zE (nT (zr ?_)) { tk:=[8] };cases soI h;exact zq

theorem c3m {A:Ar} (hA:SA A) {e:List D} {g:Bool} (h:b9z A e=some g):a0c Tryz.prog 114 [zl 4 e] [] (.d (.bool g)) []:=by
 unfold b9z at h;refine zI Tryz.func114 ?_;refine zs (zA (nT ?_));refine AWp.freezeBox 1 [.list 4 e] rfl rfl ?_;refine zs ?_;obtain ⟨o,a,h⟩:=a0a h;refine zN [2] [] 0 (fun τ=>τ=⟨[(2,.d (.bool o))],[],22⟩) ?_ ?_
 ·refine zn ?_;obtain ⟨l,j,a⟩:=a0a a;refine zC (b1Z hA j) ?_ { tk:=[21] };rcases tf l with b | b
  ·replace a:=cT b a;obtain ⟨m,k,a⟩:=a0a a;refine zD (c3l hA k) ?_ { tk:=[21] };rcases tf m with c | c
   ·replace a:=cT c a;refine zF ?_ { tk:=[21] };cases soI a;exact zO
   replace a:=cF c a;obtain ⟨⟨r,s,p,q⟩,i,a⟩:=a0a a;obtain ⟨u,v⟩:=gtI i;refine zF ?_ { tk:=[21] };cases soI a;exact zO
  replace a:=cF b a;refine zF ?_ { tk:=[21] };cases soI a;exact zO
 rintro _ rfl;refine nT (zr ?_);cases soI h;exact zq

theorem c3n {A:Ar} (hA:SA A) {b:List D} {a:Bool} (h:c2p A b=some a):a0c Tryz.prog 113 [zl 4 b] [] (.d (.bool a)) []:=by
 unfold c2p at h;refine zI Tryz.func113 ?_;refine zs (zA (nT (zs (zn ?_))));obtain ⟨e,c,h⟩:=a0a h;refine zC (c3m hA c) ?_ { tk:=[5] };refine zE (nT (zr ?_)) { tk:=[5] };cases soI h;exact zq

theorem c3o {A:Ar} (hA:SA A) {c:List D} {j:Int} (h:c2q A c=some j):a0c Tryz.prog 153 [zl 1 c,(.func 113 [] [])] [] (zi j) []:=by
 unfold c2q at h;refine zI Tryz.func153 ?_;refine zs (zA (nT (zs (zs ?_))));refine zA (nT (zb ?_));obtain ⟨w,p,l,k,b⟩:=a0z h;refine zM 0 [] [] 0 (fun τ=>l (.inl ())=some j/\τ=⟨[],[],19⟩) ?_ ?_
 ·refine zP p [0,1,7,8] [] 0 (fun i=>⟨[(0,zl 1 c),(1,(.func 113 [] [])),(7,(.d (.int .i64 (A.len c)))),(8,zi i)],[],19⟩) ⟨rfl,zc⟩ ?_;rintro i s a;dsimp only [a8S] at a;refine zs (zA (nT (zs ?_)));rcases tf (A.zlt i (A.len c)) with e | e
  ·replace a:=cT e a;refine zT (zk (nT (zs (zb (zs ?_)))));refine zB (nT (zs (zn ?_))) { tk:=[8,10] };obtain ⟨r,m,a⟩:=a0a a;obtain ⟨u,v⟩:=gtI m;obtain ⟨q,o,a⟩:=a0a a;refine zD (c3n hA o) ?_;refine zF (nT ?_);rcases tf q with g | g
   ·replace a:=cT g a;refine zT (zs ?_);refine zB (nT (zr (rB (rT (rT ?_))))) { tk:=[5,17] };refine exL a ?_;rintro rfl;refine oxR ?_;replace b:=(eR (k _ b));refine rB (rT ?_);cases soI b;exact zq
   replace a:=cF g a;refine zU (zk (nB (nT ?_)));refine zB ?_ { tk:=[18] };exact nT ⟨_,(soI a).symm,rfl,zv⟩
  replace a:=cF e a;refine zU (AWp.exit (xT (xT ?_)));refine exL a ?_;rintro rfl;exact oxI ⟨rfl,b,zv⟩
 rintro _ ⟨b,rfl⟩;have h:=(eL (k _ b));refine xB (nT (zs (zA (nT (zr ?_)))));cases soI h;exact zq

theorem c3p {A:Ar} (hA:SA A) {b:List D} {a:Bool} (h:c2r A b=some a):a0c Tryz.prog 112 [zl 1 b,(.func 113 [] [])] [] (.d (.bool a)) []:=by
 unfold c2r at h;refine zI Tryz.func112 ?_;refine zs (zA (nT (zs (zn ?_))));obtain ⟨e,c,h⟩:=a0a h;refine zC (c3o hA c) ?_ { tk:=[8] };refine zE (nT (zr ?_)) { tk:=[8] };cases soI h;exact zq

theorem c4V {A:Ar} (hA:SA A) {e:List D} {c:Bool} (h:Z80 A e=some c):a0c Tryz.prog 80 [zl 1 e] [] (.d (.bool c)) []:=by
 unfold Z80 at h;refine zI Tryz.func80 ?_;refine zs (zA (nT (zs ?_)));obtain ⟨k,a,h⟩:=a0a h;refine zN [2] [] 0 (fun τ=>τ=⟨[(2,.d (.bool k))],[],11⟩) ?_ ?_
 ·refine zn ?_;obtain ⟨j,g,a⟩:=a0a a;refine zC (b1Z hA g) ?_ { tk:=[10] };rcases tf j with b | b
  ·replace a:=cT b a;obtain ⟨l,i,a⟩:=a0a a;refine zD (c3p hA i) ?_ { tk:=[10] };refine zF ?_ { tk:=[10] };cases soI a;exact zO
  replace a:=cF b a;refine zF ?_ { tk:=[10] };cases soI a;exact zO
 rintro _ rfl;refine nT (zr ?_);cases soI h;exact zq

theorem c3q {A:Ar} (hA:SA A) {b:Int} {c:List D} {a:Bool} (h:b9A A b c=some a):a0c Tryz.prog 165 [zi b,.iptr [.list 1 c]] [] (.d (.bool a)) []:=by
 unfold b9A at h;refine zI Tryz.func165 ?_;refine zs (zA (nT (zs (zn ?_))));obtain ⟨g,e,h⟩:=a0a h;refine zC (b1Z hA e) ?_ { tk:=[9] };refine zE (nT (zr ?_)) { tk:=[9] };cases soI h;exact zq

theorem b9W {A:Ar} (hA:SA A) {c k:List D} {j:Int} (h:b5l A c k=some j):a0c Tryz.prog 189 [zl 1 c,(.func 165 [] [.iptr [.list 1 k]])] [] (zi j) []:=by
 unfold b5l at h;refine zI Tryz.func189 ?_;refine zs (zA (nT (zs (zs ?_))));refine zA (nT (zb ?_));obtain ⟨y,q,m,l,b⟩:=a0z h;refine zM 0 [] [] 0 (fun τ=>m (.inl ())=some j/\τ=⟨[],[],19⟩) ?_ ?_
 ·refine zP q [0,1,7,8] [] 0 (fun i=>⟨[(0,zl 1 c),(1,(.func 165 [] [.iptr [.list 1 k]])),(7,(.d (.int .i64 (A.len c)))),(8,zi i)],[],19⟩) ⟨rfl,zc⟩ ?_;rintro i u a;dsimp only [a6k] at a;refine zs (zA (nT (zs ?_)));rcases tf (A.zlt i (A.len c)) with e | e
  ·replace a:=cT e a;refine zT (zk (nT (zs (zb (zs ?_)))));refine zB (nT (zs (zn ?_))) { tk:=[8,10] };obtain ⟨s,o,a⟩:=a0a a;obtain ⟨v,w⟩:=gtI o;obtain ⟨r,p,a⟩:=a0a a;refine zD (c3q hA p) ?_;refine zF (nT ?_);rcases tf r with g | g
   ·replace a:=cT g a;refine zT (zs ?_);refine zB (nT (zr (rB (rT (rT ?_))))) { tk:=[5,17] };refine exL a ?_;rintro rfl;refine oxR ?_;replace b:=(eR (l _ b));refine rB (rT ?_);cases soI b;exact zq
   replace a:=cF g a;refine zU (zk (nB (nT ?_)));refine zB ?_ { tk:=[18] };exact nT ⟨_,(soI a).symm,rfl,zv⟩
  replace a:=cF e a;refine zU (AWp.exit (xT (xT ?_)));refine exL a ?_;rintro rfl;exact oxI ⟨rfl,b,zv⟩
 rintro _ ⟨b,rfl⟩;have h:=(eL (l _ b));refine xB (nT (zs (zA (nT (zr ?_)))));cases soI h;exact zq

theorem b9X {A:Ar} (hA:SA A) {b c:List D} {a:Bool} (h:b5m A b c=some a):a0c Tryz.prog 158 [zl 1 b,(.func 165 [] [.iptr [.list 1 c]])] [] (.d (.bool a)) []:=by
 unfold b5m at h;refine zI Tryz.func158 ?_;refine zs (zA (nT (zs (zn ?_))));obtain ⟨g,e,h⟩:=a0a h;refine zC (b9W hA e) ?_ { tk:=[8] };refine zE (nT (zr ?_)) { tk:=[8] };cases soI h;exact zq

theorem c3r {A:Ar} (hA:SA A) {c e:List D} {g:Bool} (h:b9B A c e=some g):a0c Tryz.prog 124 [zl 1 c,zl 1 e] [] (.d (.bool g)) []:=by
 unfold b9B at h;refine zI Tryz.func124 ?_;refine zs (zA (nT ?_));refine AWp.freezeBox 2 [.list 1 c] rfl rfl ?_;refine zs ?_;obtain ⟨j,a,h⟩:=a0a h;refine zN [4] [] 0 (fun τ=>τ=⟨[(4,.d (.bool j))],[],14⟩) ?_ ?_
 ·refine zn ?_;rcases tf (A.zle (A.len e) 3) with b | b
  ·replace a:=cT b a;obtain ⟨k,i,a⟩:=a0a a;refine zD (b9X hA i) ?_ { tk:=[13] };refine zF ?_ { tk:=[13] };cases soI a;exact zO
  replace a:=cF b a;refine zF ?_ { tk:=[13] };cases soI a;exact zO
 rintro _ rfl;refine nT (zr ?_);cases soI h;exact zq

theorem c3s {A:Ar} (hA:SA A) {b c:List D} {a:Bool} (h:c2s A b c=some a):a0c Tryz.prog 123 [zl 1 b,.iptr [.list 1 c]] [] (.d (.bool a)) []:=by
 unfold c2s at h;refine zI Tryz.func123 ?_;refine zs (zA (nT (zs (zn ?_))));obtain ⟨g,e,h⟩:=a0a h;refine zC (c3r hA e) ?_ { tk:=[7] };refine zE (nT (zr ?_)) { tk:=[7] };cases soI h;exact zq

theorem c3t {A:Ar} (hA:SA A) {c k:List D} {j:Int} (h:c2t A c k=some j):a0c Tryz.prog 164 [zl 1 c,(.func 123 [] [.iptr [.list 1 k]])] [] (zi j) []:=by
 unfold c2t at h;refine zI Tryz.func164 ?_;refine zs (zA (nT (zs (zs ?_))));refine zA (nT (zb ?_));obtain ⟨y,q,m,l,b⟩:=a0z h;refine zM 0 [] [] 0 (fun τ=>m (.inl ())=some j/\τ=⟨[],[],19⟩) ?_ ?_
 ·refine zP q [0,1,7,8] [] 0 (fun i=>⟨[(0,zl 1 c),(1,(.func 123 [] [.iptr [.list 1 k]])),(7,(.d (.int .i64 (A.len c)))),(8,zi i)],[],19⟩) ⟨rfl,zc⟩ ?_;rintro i u a;dsimp only [a8T] at a;refine zs (zA (nT (zs ?_)));rcases tf (A.zlt i (A.len c)) with e | e
  ·replace a:=cT e a;refine zT (zk (nT (zs (zb (zs ?_)))));refine zB (nT (zs (zn ?_))) { tk:=[8,10] };obtain ⟨s,o,a⟩:=a0a a;obtain ⟨v,w⟩:=gtI o;obtain ⟨r,p,a⟩:=a0a a;refine zD (c3s hA p) ?_;refine zF (nT ?_);rcases tf r with g | g
   ·replace a:=cT g a;refine zT (zs ?_);refine zB (nT (zr (rB (rT (rT ?_))))) { tk:=[5,17] };refine exL a ?_;rintro rfl;refine oxR ?_;replace b:=(eR (l _ b));refine rB (rT ?_);cases soI b;exact zq
   replace a:=cF g a;refine zU (zk (nB (nT ?_)));refine zB ?_ { tk:=[18] };exact nT ⟨_,(soI a).symm,rfl,zv⟩
  replace a:=cF e a;refine zU (AWp.exit (xT (xT ?_)));refine exL a ?_;rintro rfl;exact oxI ⟨rfl,b,zv⟩
 rintro _ ⟨b,rfl⟩;have h:=(eL (l _ b));refine xB (nT (zs (zA (nT (zr ?_)))));cases soI h;exact zq

theorem c3u {A:Ar} (hA:SA A) {b c:List D} {a:Bool} (h:c2u A b c=some a):a0c Tryz.prog 122 [zl 1 b,(.func 123 [] [.iptr [.list 1 c]])] [] (.d (.bool a)) []:=by
 unfold c2u at h;refine zI Tryz.func122 ?_;refine zs (zA (nT (zs (zn ?_))));obtain ⟨g,e,h⟩:=a0a h;refine zC (c3t hA e) ?_ { tk:=[8] };refine zE (nT (zr ?_)) { tk:=[8] };cases soI h;exact zq

theorem c5v {A:Ar} (hA:SA A) {c g:List D} {e:Bool} (h:Z86 A c g=some e):a0c Tryz.prog 86 [zl 1 c,zl 1 g] [] (.d (.bool e)) []:=by
 unfold Z86 at h;refine zI Tryz.func86 ?_;refine zs (zA (nT ?_));refine AWp.freezeBox 2 [.list 1 c] rfl rfl ?_;refine zs ?_;obtain ⟨l,a,h⟩:=a0a h;refine zN [4] [] 0 (fun τ=>τ=⟨[(4,.d (.bool l))],[],14⟩) ?_ ?_
 ·refine zn ?_;obtain ⟨k,i,a⟩:=a0a a;refine zC (b1Z hA i) ?_ { tk:=[13] };rcases tf k with b | b
  ·replace a:=cT b a;obtain ⟨m,j,a⟩:=a0a a;refine zD (c3u hA j) ?_ { tk:=[13] };refine zF ?_ { tk:=[13] };cases soI a;exact zO
  replace a:=cF b a;refine zF ?_ { tk:=[13] };cases soI a;exact zO
 rintro _ rfl;refine nT (zr ?_);cases soI h;exact zq

theorem b9Y {A:Ar} (hA:SA A) {e g:List D} {c:Int} (h:Z40 A e g=some c):a0c Tryz.prog 40 [zl 1 e,zl 1 g] [] (zi c) []:=by
 unfold Z40 at h;refine zI Tryz.func40 ?_;refine zs (zA (nT (zs (zb (zs (zn ?_))))));obtain ⟨k,i,h⟩:=a0a h;refine zC (c4V hA i) ?_;refine zE (nT ?_);rcases tf k with a | a
 ·replace h:=cT a h;refine zU (zs (zn ?_));obtain ⟨l,j,h⟩:=a0a h;refine zD (c5v hA j) ?_;refine zF (nT ?_);rcases tf l with b | b
  ·replace h:=cT b h;refine zU (zk (nB (nT (zs ?_))));refine zB (nT (zr ?_));cases soI h;exact zq
  replace h:=cF b h;refine zT (zs ?_);refine zB (nT (zr (rB (rT ?_))));cases soI h;exact zq
 replace h:=cF a h;refine zT (zs ?_);refine zB (nT (zr (rB (rT ?_))));cases soI h;exact zq

theorem b9Z {A:Ar} (hA:SA A) {c e a b:List D} (h:Z35 A c e=some (a,b)):a0c Tryz.prog 35 [zl 1 c,zl 1 e] [] (.agg [zl 1 a,zl 1 b,zi 0,zi 0,zi 0,zi 0,zi 0,zi 0,zi 0,zi 0,zi 0,zi 0,zi 0,zi 0,zi 0,zi 0,zi 0,zi 0,zi 0,zi 0,.gref 0 6,.gref 3 1]) [.gro 6 [],.dead,.dead,.gro 1 [],.dead,.dead]:=by
 unfold Z35 at h;refine zI Tryz.func35 ?_;refine zs (zA (nT ?_) { esc:=[4] });refine AWp.weak (Wk.settle 0 20 rfl rfl rfl) ?_;refine AWp.weak (Wk.settle 0 21 rfl rfl rfl) ?_;refine zs (zA (nT ?_) { tk:=[7],nl:=[7] });refine AWp.weak (Wk.settle 0 20 rfl rfl rfl) ?_;refine AWp.weak (Wk.settle 0 21 rfl rfl rfl) ?_;refine AWp.weak (Wk.ren [some 7,some 8,some 9,some 10,some 11,some 12,some 0] [4] rfl rfl) ?_;refine zr ?_;cases soI h;exact zq

theorem c5w {A:Ar} (hA:SA A) {g:Int} {u B:List D} {C E F G J K i j k l m o p q r s v w:Int} {y z:List D} {R:Bool} (h:Z94 A g u B C E F G J K i j k l m o p q r s v w y z=some R):a0c Tryz.prog 94 [.ptr 0 0,zi g] [.cells [zl 1 u,zl 1 B,zi C,zi E,zi F,zi G,zi J,zi K,zi i,zi j,zi k,zi l,zi m,zi o,zi p,zi q,zi r,zi s,zi v,zi w,.gref 1 6,.gref 4 1],.gro 6 y,.dead,.dead,.gro 1 z,.dead,.dead] (.d (.bool R)) [.cells [zl 1 u,zl 1 B,zi C,zi E,zi F,zi G,zi J,zi K,zi i,zi j,zi k,zi l,zi m,zi o,zi p,zi q,zi r,zi s,zi v,zi w,.gref 1 6,.gref 4 1],.gro 6 y,.dead,.dead,.gro 1 z,.dead,.dead]:=by
 unfold Z94 at h;refine zI Tryz.func94 ?_;refine zs (zA (nT (zs ?_)));obtain ⟨g0,a,h⟩:=a0a h;refine AWp.cutW (fun τ=>τ=⟨[(4,.d (.bool g0))],[.cells [zl 1 u,zl 1 B,zi C,zi E,zi F,zi G,zi J,zi K,zi i,zi j,zi k,zi l,zi m,zi o,zi p,zi q,zi r,zi s,zi v,zi w,.gref 1 6,.gref 4 1],.gro 6 y,.dead,.dead,.gro 1 z,.dead,.dead],31⟩) ?_ ?_
 ·refine zQ ?_;obtain ⟨e0,S,a⟩:=a0a a;refine a1h.c0 hT hA { tk:=[30] } rfl zc (b1Z hA S) rfl rfl (lb rfl) rfl rfl ?_;rcases tf e0 with b | b
  ·replace a:=cT b a;rcases tf (A.zeq g 0) with c | c
   ·replace a:=cT c a;obtain ⟨W,X,L⟩:=ixF hA (n:=2) c (by decide);obtain ⟨i0,U,a⟩:=a0a a;obtain ⟨Y,M⟩:=gtI U;have N:=M;rw [L] at N;refine zJ ?_ { tk:=[30] } (h:=(by (repeat (cbv;simp only [b,W,X,L,N,Y,M]));try cbv))
    cases soI a;exact oWi ⟨_,(zR [some 0,some 1,some 2,some 3,some 4,some 5,some 6] [4] (h:=(by first | (cbv;done) | ((repeat (cbv;simp only [b]));try cbv)))),rfl⟩
   replace a:=cF c a;rcases tf (A.zeq g 1) with e | e
   ·replace a:=cT e a;obtain ⟨a0,b0,O⟩:=ixF hA (n:=2) e (by decide);obtain ⟨j0,V,a⟩:=a0a a;obtain ⟨d0,P⟩:=gtI V;have Q:=P;rw [O] at Q;refine zJ ?_ { tk:=[30] } (h:=(by (repeat (cbv;simp only [b,a0,b0,O,Q,d0,P]));try cbv))
    cases soI a;exact oWi ⟨_,(zR [some 0,some 1,some 2,some 3,some 4,some 5,some 6] [4] (h:=(by first | (cbv;done) | ((repeat (cbv;simp only [b]));try cbv)))),rfl⟩
   replace a:=cF e a;cases a
  replace a:=cF b a;refine zJ ?_ { tk:=[30] } (h:=(by (repeat (cbv;simp only [b]));try cbv))
  cases soI a;exact oWi ⟨_,(zR [some 0,some 1,some 2,some 3,some 4,some 5,some 6] [4] (h:=(by first | (cbv;done) | ((repeat (cbv;simp only [b]));try cbv)))),rfl⟩
 rintro _ rfl;refine nT (zr ?_);cases soI h;exact zq

theorem c3v {A:Ar} (hA:SA A) {c i j k l m e:Int} {g:Bool} (h:b9C A c i j k l m e=some g):a0c Tryz.prog 161 [.d (.agg [.int .i64 c,.int .i64 i,.int .i64 j,.int .i64 k,.int .i64 l,.int .i64 m]),.iptr [.int .i64 e]] [] (.d (.bool g)) []:=by
 unfold b9C at h;refine zI Tryz.func161 ?_;refine zs (zA (nT (zs ?_)));obtain ⟨o,a,h⟩:=a0a h;refine zN [3] [] 0 (fun τ=>τ=⟨[(3,.d (.bool o))],[],13⟩) ?_ ?_
 ·rcases tf (A.zeq c e) with b | b
  ·replace a:=cT b a;refine zB ?_ { tk:=[12] };cases soI a;exact zO
  replace a:=cF b a;refine zB ?_ { tk:=[12] };cases soI a;exact zO
 rintro _ rfl;refine nT (zr ?_);cases soI h;exact zq

theorem c3w {A:Ar} (hA:SA A) {M:Int} {r w:List D} {y z B C E F e g i j k l m o p q s u:Int} {b v:List D} {L:Int} (h:c2v A M r w y z B C E F e g i j k l m o p q s u b v=some L):a0c Tryz.prog 190 [.gref 1 6,(.func 161 [] [.iptr [.int .i64 M]])] [.cells [zl 1 r,zl 1 w,zi y,zi z,zi B,zi C,zi E,zi F,zi e,zi g,zi i,zi j,zi k,zi l,zi m,zi o,zi p,zi q,zi s,zi u,.gref 1 6,.gref 4 1],.gro 6 b,.dead,.dead,.gro 1 v,.dead,.dead] (zi L) [.cells [zl 1 r,zl 1 w,zi y,zi z,zi B,zi C,zi E,zi F,zi e,zi g,zi i,zi j,zi k,zi l,zi m,zi o,zi p,zi q,zi s,zi u,.gref 1 6,.gref 4 1],.gro 6 b,.dead,.dead,.gro 1 v,.dead,.dead]:=by
 unfold c2v at h;refine zI Tryz.func190 ?_;refine zs (zA (nT (zs (zs ?_))));refine zA (nT (zb ?_));obtain ⟨j0,U,O,N,c⟩:=a0z h;refine AWp.cutXW 0 (fun τ=>O (.inl ())=some L/\τ=⟨[],[.cells [zl 1 r,zl 1 w,zi y,zi z,zi B,zi C,zi E,zi F,zi e,zi g,zi i,zi j,zi k,zi l,zi m,zi o,zi p,zi q,zi s,zi u,.gref 1 6,.gref 4 1],.gro 6 b,.dead,.dead,.gro 1 v,.dead,.dead],19⟩) ?_ ?_
 ·refine AWp.iterW U (fun K=>⟨[(0,.gref 1 6),(1,(.func 161 [] [.iptr [.int .i64 M]])),(7,(.d (.int .i64 (A.len b)))),(8,zi K)],[.cells [zl 1 r,zl 1 w,zi y,zi z,zi B,zi C,zi E,zi F,zi e,zi g,zi i,zi j,zi k,zi l,zi m,zi o,zi p,zi q,zi s,zi u,.gref 1 6,.gref 4 1],.gro 6 b,.dead,.dead,.gro 1 v,.dead,.dead],19⟩) ⟨_,zR [some 0,some 1,some 2,some 3,some 4,some 5,some 6] [0,1,7,8],rfl⟩ ?_;rintro K d0 a;dsimp only [a8U] at a;refine zs (zA (nT (zs ?_)));rcases tf (A.zlt K (A.len b)) with G | G
  ·replace a:=cT G a;refine zT (zk (nT (zs (zb (zs ?_)))));refine zB (nT (zs (zn ?_))) { tk:=[8,10] };obtain ⟨_,P,a⟩:=a0a a;have e0:=ckI P;obtain ⟨_,Q,a⟩:=a0a a;have g0:=ckI Q;obtain ⟨⟨W,X,Y,a0,b0,c0⟩,R,a⟩:=a0a a;have i0:=gcI R;obtain ⟨V,S,a⟩:=a0a a;refine zD (c3v hA S) ?_;refine zF (nT ?_);rcases tf V with J | J
   ·replace a:=cT J a;refine zT (zs ?_);refine zB (nT (zr (rB (rT (rT ?_))))) { tk:=[5,17] };refine exL a ?_;rintro rfl;refine c5r ?_;replace c:=(eR (N _ c));refine rB (rT ?_);cases soI c;exact zq
   replace a:=cF J a;refine zU (zk (nB (nT ?_)));refine zB ?_ { tk:=[18] };exact nT ⟨_,(soI a).symm,_,zR [some 0,some 1,some 2,some 3,some 4,some 5,some 6] [0,1,7,8],rfl⟩
  replace a:=cF G a;refine zU (AWp.exit (xT (xT ?_)));refine exL a ?_;rintro rfl;exact c4Q ⟨_,zR [some 0,some 1,some 2,some 3,some 4,some 5,some 6] [],c,rfl⟩
 rintro _ ⟨c,rfl⟩;have h:=(eL (N _ c));refine xB (nT (zs (zA (nT (zr ?_)))));cases soI h;exact zq
end Go.Am
