import Derived.Test.YtlljehkmemajkaaGenp1
import Derived.Test.YtlljehkmemajkaaAmSrt
import Derived.Test.YtlljehkmemajkaaAmLaw
import Derived.Test.YtlljehkmemajkaaAmSrt
import Derived.Test.YtlljehkmemajkaaAmSrt
import Derived.Test.YtlljehkmemajkaaAmJgl
import Derived.Test.YtlljehkmemajkaaAmJgl
import Derived.Test.YtlljehkmemajkaaAmJgl
import Derived.Test.YtlljehkmemajkaaAmJgl
import Derived.Test.YtlljehkmemajkaaAmJgl
import Derived.Test.YtlljehkmemajkaaAmSortO
import Derived.Test.YtlljehkmemajkaaAmSrt
import Derived.Test.YtlljehkmemajkaaAmSrt
import Derived.Test.YtlljehkmemajkaaM1T
import Derived.Test.YtlljehkmemajkaaM1S
import Derived.Test.YtlljehkmemajkaaAmJgl
import Derived.Test.YtlljehkmemajkaaAmJgl
import Derived.Test.YtlljehkmemajkaaM1K
import Derived.Test.YtlljehkmemajkaaAmGrf
import Derived.Test.YtlljehkmemajkaaAmGrf
set_option maxRecDepth 100000
set_option maxHeartbeats 2000000
set_option linter.unusedVariables false
set_option linter.unusedSimpArgs false
namespace Go.Am
open Go Go.Proofs
theorem zqa : (!true) = false := rfl
theorem zqb : (!false) = true := rfl
theorem zqc {α : Type} {a b : α} : cond true a b = a := rfl
theorem zqd {α : Type} {a b : α} : cond false a b = b := rfl
def SA (A:Ar):Prop:=A=Ar.std
section
variable {p:Prop} {A:Ar} {m k t:Nat} {Q:Exit->St->Prop} {K R:St->Prop} {σ σ':St} {ops:Array Oper} {id:Nat} {c x y:Code} {ts sf:List Nat} {b:Bool} {l rest:List Oper} {f:FuncId} {fn:Func} {args:List AV} {o:Oper} {σ1:St} {H Hr H':List Obj} {r:AV} {d:Nat} {xs xs1:List Rec}
theorem zv (h:p:=by first|(cbv;done)|((repeat (cbv;simp only [*]));try cbv)):p:=h
theorem zu (h:p:=by (repeat (cbv;simp only [*]));try cbv):p:=h
theorem zc (h:p:=by cbv):p:=h
theorem zH {xs:List Rec} (k:Q .normal σ') (an:Ann:={}) (hA:SA A:=by assumption) (h:a9t A T an ops.toList ops.toList σ []=.done σ' xs:=by (repeat (cbv;simp only [*]));try cbv) (hok:a2i ops.toList (xs.map Rec.foot)=true:=by kernel_rfl) (hm:m<=σ.heap.length:=by exact lb rfl):AWp Try.prog m (.region id ops true) Q σ:=AWp.rd hT hA an rfl h hok hm k
theorem zJ {xs xs':List Rec} {K:St->Prop} (k:K σ') (an:Ann:={}) (hA:SA A:=by assumption) (h:a9t A T an ops.toList l σ xs=.done σ' xs':=by (repeat (cbv;simp only [*]));try cbv) (hok:a2i ops.toList (xs'.map Rec.foot)=true:=by kernel_rfl) (hl:l=ops.toList.drop xs.length:=by exact rfl):a1N Try.prog m ops l xs K σ:=a1N.cd hT hA an hl h hok k
theorem zN (ts sf:List Nat) (k:Nat) (R:St->Prop) (h:AWp Try.prog m c (AExit.onN ts sf k R Q) σ) (h2:∀τ,R τ->Q .normal τ) (hm:m<=k:=by exact lb rfl):AWp Try.prog m c Q σ:=AWp.cutN ts sf k hm R h h2
theorem zM (j:Nat) (ts sf:List Nat) (k:Nat) (R:St->Prop) (h:AWp Try.prog m c (AExit.onX j ts sf k R Q) σ) (h2:∀τ,R τ->Q (.exit j) τ) (hm:m<=k:=by exact lb rfl):AWp Try.prog m c Q σ:=AWp.cutX j ts sf k hm R h h2
theorem zP {S X:Type} {step:S->Option (S⊕X)} {s0:S} {x:X} (hx:iter step s0=some x) (ts sf:List Nat) (k:Nat) (F:S->St) (hf:σ.fits ts k=true/\σ.fitS ts sf k=F s0) (h:∀s e,step s=some e->AWp Try.prog m c (AExit.then (fun σ'=>∃s',e=.inl s'/\σ'.fits ts k=true/\σ'.fitS ts sf k=F s') (fun ex σ'=>∃x',e=.inr x'/\(x'=x->Q ex σ'))) (F s)) (hm:m<=k:=by exact lb rfl):AWp Try.prog m (.loop c) Q σ:=AWp.iter hx ts sf k hm F hf h
theorem zQ (h:a1N Try.prog m ops ops.toList [] (Q .normal) σ) (hm:m<=σ.heap.length:=by exact lb rfl):AWp Try.prog m (.region id ops true) Q σ:=AWp.regionDraw rfl hm h
theorem tfh:True:=trivial
theorem zq (h:p:=by exact ⟨rfl,rfl,rfl,lb rfl,_,rfl⟩):p:=h
theorem zA (k:Q .normal σ') (an:Ann:={}) (hA:SA A:=by assumption) (h:a8b A T an ops.toList ops.toList σ=.done σ':=by cbv) (hm:m<=σ.heap.length:=by exact lb rfl):AWp Try.prog m (.region id ops false) Q σ:=AWp.rg hT hA an h hm k
theorem zB (k:Q .normal σ') (an:Ann:={}) (hA:SA A:=by assumption) (h:a8b A T an ops.toList ops.toList σ=.done σ':=by (repeat (cbv;simp only [*]));try cbv) (hm:m<=σ.heap.length:=by exact lb rfl):AWp Try.prog m (.region id ops false) Q σ:=AWp.rg hT hA an h hm k
theorem zC (hc:a0h Try.prog f args H r H') (k:a1h Try.prog m ops rest Q {σ1 with env:=eset σ1.env d r,heap:=H'++Hr}) (an:Ann:={}) (hA:SA A:=by assumption) (h:a8b A T an ops.toList l σ=.call f args o rest σ1:=by cbv) (hm:m<=σ.heap.length:=by exact lb rfl) (hH:σ1.heap=H++Hr:=by exact rfl) (hr:Hr=[]\/H'.length=H.length:=by first|exact .inl rfl|exact .inr rfl) (hi:a0v H.length H=true:=by exact rfl) (ha:a4e H.length args=true:=by exact rfl) (hd:o.dst=some d:=by exact rfl) (hl:d<σ1.n:=by exact lb rfl) (hb:(σ1.get d).isBox=false:=by exact rfl) (hf:args.all AV.free=true:=by exact rfl):a1h Try.prog m ops l Q σ:=a1h.cc hT hA an h hm hc hH hr hi ha hd hl hb hf k
theorem zD (hc:a0h Try.prog f args H r H') (k:a1h Try.prog m ops rest Q {σ1 with env:=eset σ1.env d r,heap:=H'++Hr}) (an:Ann:={}) (hA:SA A:=by assumption) (h:a8b A T an ops.toList l σ=.call f args o rest σ1:=by (repeat (cbv;simp only [*]));try cbv) (hm:m<=σ.heap.length:=by exact lb rfl) (hH:σ1.heap=H++Hr:=by exact rfl) (hr:Hr=[]\/H'.length=H.length:=by first|exact .inl rfl|exact .inr rfl) (hi:a0v H.length H=true:=by exact rfl) (ha:a4e H.length args=true:=by exact rfl) (hd:o.dst=some d:=by exact rfl) (hl:d<σ1.n:=by exact lb rfl) (hb:(σ1.get d).isBox=false:=by exact rfl) (hf:args.all AV.free=true:=by exact rfl):a1h Try.prog m ops l Q σ:=a1h.cc hT hA an h hm hc hH hr hi ha hd hl hb hf k
theorem zE (k:Q .normal σ') (an:Ann:={}) (hA:SA A:=by assumption) (h:a8b A T an ops.toList l σ=.done σ':=by cbv) (hm:m<=σ.heap.length:=by exact lb rfl):a1h Try.prog m ops l Q σ:=a1h.cd hT hA an h hm k
theorem zF (k:Q .normal σ') (an:Ann:={}) (hA:SA A:=by assumption) (h:a8b A T an ops.toList l σ=.done σ':=by (repeat (cbv;simp only [*]));try cbv) (hm:m<=σ.heap.length:=by exact lb rfl):a1h Try.prog m ops l Q σ:=a1h.cd hT hA an h hm k
theorem zT (h:AWp Try.prog m x Q σ) (hc:σ.get t=.d (.bool b):=by exact rfl) (hb:b=true:=by first|exact rfl|simp only [*,zqa,zqb,zqc,zqd]):AWp Try.prog m (.cond (.tmp t) x y) Q σ:=AWp.cdT hc hb h
theorem zU (h:AWp Try.prog m y Q σ) (hc:σ.get t=.d (.bool b):=by exact rfl) (hb:b=false:=by first|exact rfl|simp only [*,zqa,zqb,zqc,zqd]):AWp Try.prog m (.cond (.tmp t) x y) Q σ:=AWp.cdF hc hb h
theorem zO (h:σ.fits ts k=true:=by exact rfl) (g:R (σ.fitS ts sf k):=by first|(cbv;done)|((repeat (cbv;simp only [*]));try cbv)):AExit.onN ts sf k R Q .normal σ:=⟨h,g⟩
theorem zR (sel:List (Option Nat)) (ts:List Nat) (hm:b0l m sel 0=true:=by exact rfl) (h:σ.ren sel ts=some σ':=by first|(cbv;done)|((repeat (cbv;simp only [*]));try cbv)):Wk m σ σ':=Wk.ren sel ts hm h
theorem zI (hf:Try.prog.funcs[f]?=some fn) (h:AWp Try.prog H.length c (a6M T fn H.length r H') {env:=a5C 0 args,heap:=H,n:=fn.ntmps}) (hb:fn.body=some c:=by exact rfl) (hn:fn.name≠"runtime.NumGoroutine":=by decide) (ha:args.length<=fn.ntmps:=by exact lb rfl) (hr:args.all AV.free=true:=by exact rfl) (h1:r.isLocal=false:=by exact rfl) (h2:r.inb H'.length=true:=by exact rfl) (h3:a0v H'.length H'=true:=by exact rfl) (h4:H.length<=H'.length:=by exact lb rfl):a0h Try.prog f args H r H':=a0h.enter hT hf hb hn ha hr h1 h2 h3 h4 h
end
abbrev zs := @AWp.seq
abbrev zg := @AWp.rg
abbrev zr := @AWp.ret
abbrev zt := @AWp.cdT
abbrev zf := @AWp.cdF
abbrev zn := @AWp.region
abbrev zk := @AWp.skip
abbrev zb := @AWp.block
abbrev zi (x : Int) : AV := .d (.int .i64 x)
abbrev zl (k : Nat) (x : List D) : AV := .d (.list k x)
abbrev zy0:List (Option Nat):=[some 0,some 1,some 2,some 10,some 11,some 12,some 7,some 8,some 9]
abbrev zy1:List (Option Nat):=[some 0,some 1,some 2,some 3,some 4,some 5,some 6,some 10,some 11,some 12]
abbrev zy2:List (Option Nat):=[some 0,some 1,some 2,some 3,some 4,some 5,some 6,some 7,some 8,some 9,some 10,some 11,some 12,some 13,some 14,some 15,some 16,some 17,some 18,some 19]
abbrev zy3:List (Option Nat):=[some 0,some 1,some 2,some 3,some 4,some 5,some 6,some 7,some 8,some 9,some 10,some 11,some 12,some 13,some 14,some 15]
abbrev zy4:List (Option Nat):=[some 0,some 1,some 2,some 3,some 4,some 5,some 6,some 7,some 8,some 9,some 10,some 11]
abbrev zy5:List (Option Nat):=[some 0,some 1,some 2,some 3,some 4,some 5,some 6,some 7,some 8,some 9,some 10]
abbrev zy6:List (Option Nat):=[some 0,some 1,some 2,some 3,some 4,some 5,some 6,some 7,some 8,some 9]
abbrev zy7:List (Option Nat):=[some 0,some 1,some 2,some 3,some 4,some 5,some 6,some 7,some 8]
abbrev zy8:List (Option Nat):=[some 0,some 1,some 2,some 3,some 4,some 5,some 7,some 8,some 9]
abbrev zy9:List (Option Nat):=[some 0,some 1,some 2,some 3,some 4,some 5]
abbrev zW (a:List D) (b c d e:Int) (f g h:List D) (r:List Obj):List Obj:=.cells [zl 1 a,zi b,.gref 1 1,.gref 4 1,.gref 7 1,zi c,zi d,zi e]::.jag 1 f none::.dead::.dead::.jag 1 g none::.dead::.dead::.jag 2 h none::.dead::.dead::r
theorem c2C {A:Ar} (hA:SA A) {c:List D} {i:Bool} (h:M17 A c=some i):a0h Try.prog 17 [zl 1 c] [] (.d (.bool i)) []:=by
 unfold M17 at h;refine zI Try.func17 ?_;refine zs (zA (nT (zs (zs ?_))));refine zA (nT (zb ?_));obtain ⟨u,p,l,k,b⟩:=a0Q h;refine zM 0 [0] [] 0 (fun τ=>l (.inl ())=some i/\τ=⟨[(0,zl 1 c)],[],19⟩) ?_ ?_
 ·refine zP p [0,3] [] 0 (fun j=>⟨[(0,zl 1 c),(3,zi j)],[],19⟩) ⟨rfl,zc⟩ ?_;rintro j q a;dsimp only [b2c] at a;refine zs (zs (zA (nT ?_)));rcases tf (A.zlt j (A.len c)) with g | g
  ·replace a:=cT g a;refine zT (zk (nT (zs (zb (zs ?_)))));obtain ⟨m,o,a⟩:=a0a a;obtain ⟨r,s⟩:=gtI o;refine zB (nT ?_);rcases tf (A.zlt 20 (A.len m)) with e | e
   ·replace a:=cT e a;refine zT (zs ?_);refine zB (nT (zr (rB (rT (rT ?_)))));refine exL a ?_;rintro rfl;refine oxR ?_;replace b:=(eR (k _ b));refine rB (rT ?_);cases soI b;exact zq
   replace a:=cF e a;refine zU (zk (nB (nT ?_)));refine zB ?_;exact nT ⟨_,(soI a).symm,rfl,zv⟩
  replace a:=cF g a;refine zU (AWp.exit (xT (xT ?_)));refine exL a ?_;rintro rfl;exact oxI ⟨rfl,b,zv⟩
 rintro _ ⟨b,rfl⟩;have h:=(eL (k _ b));refine xB (nT (zs (zA (nT (zr ?_)) { tk:=[18] })));cases soI h;exact zq

theorem b9d {A:Ar} (hA:SA A) {c e i:Int} {g:Bool} (h:M66 A c e i=some g):a0h Try.prog 66 [zi c,zi e,zi i] [] (.d (.bool g)) []:=by
 unfold M66 at h;refine zI Try.func66 ?_;refine zs (zA (nT (zs ?_)));obtain ⟨j,a,h⟩:=a0a h;refine zN [6] [] 0 (fun τ=>τ=⟨[(6,.d (.bool j))],[],15⟩) ?_ ?_
 ·rcases tf (A.zle c e) with b | b
  ·replace a:=cT b a;refine zB ?_ { tk:=[14] };cases soI a;exact zO
  replace a:=cF b a;refine zB ?_ { tk:=[14] };cases soI a;exact zO
 rintro _ rfl;refine nT (zr ?_);cases soI h;exact zq

theorem c2D {A:Ar} (hA:SA A) {e o q:Int} {p:Bool} (h:M67 A e o q=some p):a0h Try.prog 67 [.d (.agg [.int .i64 e,.int .i64 o,.int .i64 q])] [] (.d (.bool p)) []:=by
 unfold M67 at h;refine zI Try.func67 ?_;refine zs (zA (nT (zs (zs ?_))));refine zA (nT (zb (zs ?_)));refine zA (nT ?_);rcases tf (A.zeq e 1) with l | l
 ·replace h:=cT l h;refine zT (zs ?_);obtain ⟨B,c,h⟩:=a0a h;refine zN [2] [] 0 (fun τ=>τ=⟨[(2,.d (.bool B))],[],38⟩) ?_ ?_
  ·refine zn ?_;obtain ⟨w,u,c⟩:=a0a c;refine zD (b9d hA u) ?_ { tk:=[14] };rcases tf w with m | m
   ·replace c:=cT m c;refine zF ?_ { tk:=[14] };cases soI c;exact zO
   replace c:=cF m c;refine zF ?_ { tk:=[14] };cases soI c;exact zO
  rintro _ rfl;refine nT (zr (rB (rT ?_)));cases soI h;exact zq
 replace h:=cF l h;refine zU (zs ?_);refine zB (nT ?_);rcases tf (A.zeq e 2) with g | g
 ·replace h:=cT g h;refine zT (zs ?_);obtain ⟨y,b,h⟩:=a0a h;refine zN [2] [] 0 (fun τ=>τ=⟨[(2,.d (.bool y))],[],38⟩) ?_ ?_
  ·refine zn ?_;obtain ⟨v,r,b⟩:=a0a b;refine zD (b9d hA r) ?_ { tk:=[24] };rcases tf v with i | i
   ·replace b:=cT i b;obtain ⟨C,s,b⟩:=a0a b;refine zD (b9d hA s) ?_ { tk:=[24] };refine zF ?_ { tk:=[24] };cases soI b;exact zO
   replace b:=cF i b;refine zF ?_ { tk:=[24] };cases soI b;exact zO
  rintro _ rfl;refine nT (zr (rB (rT ?_)));cases soI h;exact zq
 replace h:=cF g h;refine zU (zk (nB (nT (zs ?_))));obtain ⟨z,a,h⟩:=a0a h;refine zN [2] [] 0 (fun τ=>τ=⟨[(2,.d (.bool z))],[],38⟩) ?_ ?_
 ·rcases tf (A.zeq e 3) with j | j
  ·replace a:=cT j a;rcases tf (A.zeq o 0) with k | k
   ·replace a:=cT k a;refine zB ?_ { tk:=[37] };cases soI a;exact zO
   replace a:=cF k a;refine zB ?_ { tk:=[37] };cases soI a;exact zO
  replace a:=cF j a;refine zB ?_ { tk:=[37] };cases soI a;exact zO
 rintro _ rfl;refine nT (zr ?_);cases soI h;exact zq

theorem c2o {A:Ar} (hA:SA A) {e:List D} {z:Bool} (h:M24 A e=some z):a0h Try.prog 24 [zl 1 e] [] (.d (.bool z)) []:=by
 unfold M24 at h;refine zI Try.func24 ?_;refine zs (zA (nT (zs (zs (zn ?_)))));obtain ⟨R,K,h⟩:=a0a h;refine zC (b9d hA K) ?_;refine zE (nT ?_);rcases tf R with p | p
 ·replace h:=cT p h;refine zU (zk (nT (zs ?_)));refine zB (nT (zs (zs ?_)));refine zB (nT (zb ?_));obtain ⟨e0,Q,G,l,c⟩:=a0Q h;refine zM 0 [3] [] 0 (fun τ => ∃ y,G (.inl y)=some z/\τ=⟨[(3,zi y)],[],59⟩) ?_ ?_
  ·refine zP Q [0,3,4] [] 0 (fun (k,j)=>⟨[(0,zl 1 e),(3,zi k),(4,zi j)],[],59⟩) ⟨rfl,zv⟩ ?_;rintro ⟨k,j⟩ O a;dsimp only [b1f] at a;refine zs (zs (zA (nT ?_)));rcases tf (A.zlt j (A.len e)) with q | q
   ·replace a:=cT q a;refine zT (zk (nT (zs (zb (zs (zs ?_))))));obtain ⟨B,L,a⟩:=a0a a;obtain ⟨Y,a0⟩:=gtI L;refine zB (nT ?_);rcases tf (A.zlt 7 (A.len B)) with r | r
    ·replace a:=cT r a;refine zT (zs ?_);refine zB (nT (zr (rT (rB (rT (rT ?_))))));refine exL a ?_;rintro rfl;refine oxR ?_;replace c:=(eR (l _ c));refine rB (rT ?_);cases soI c;exact zq
    replace a:=cF r a;refine zU (zk (nT (zs ?_)));refine zB (nT (zs (zs ?_)));refine zB (nT (zb ?_));obtain ⟨d0,P,F,C,g⟩:=a0Q a;refine zM 2 [0,3,4,5] [] 0 (fun τ => ∃ o,F (.inl o)=some O/\τ=⟨[(0,zl 1 e),(3,zi k),(4,zi j),(5,zi o)],[],59⟩) ?_ ?_
    ·refine zP P [0,3,4,5,6] [] 0 (fun (E,m)=>⟨[(0,zl 1 e),(3,zi k),(4,zi j),(5,zi E),(6,zi m)],[],59⟩) ⟨rfl,zv⟩ ?_;rintro ⟨E,m⟩ X b;dsimp only [a9v] at b;refine zs (zs (zB (nT ?_)));rcases tf (A.zlt m (A.len B)) with s | s
     ·replace b:=cT s b;refine zT (zk (nT (zs (zb (zs (zs (zn ?_)))))));obtain ⟨⟨J,V,W⟩,M,b⟩:=a0a b;obtain ⟨b0,c0⟩:=gtI M;obtain ⟨S,N,b⟩:=a0a b;refine zD (c2D hA N) ?_;refine zF (nT ?_);rcases tf S with u | u
      ·replace b:=cT u b;refine zU (zk (nT (zs ?_)));refine zB (nT ?_);obtain ⟨U,i,b⟩:=a0a b;refine zN [0,3,4,5,6] [] 0 (fun τ=>τ=⟨[(0,zl 1 e),(3,zi k),(4,zi j),(5,zi U),(6,zi m)],[],59⟩) ?_ ?_
       ·rcases tf (A.zeq J 3) with v | v
        ·replace i:=cT v i;refine zU (zk ?_);cases soI i;exact zO
        replace i:=cF v i;refine zT ?_;refine zB ?_;cases soI i;exact zO
       rintro _ rfl;refine nB (nT (zA ?_));exact nT ⟨_,(soI b).symm,rfl,zc⟩
      replace b:=cF u b;refine zT (zs ?_);refine zB (nT (zr (rT (rB (rT (rT ?_))))));refine exL b ?_;rintro rfl;refine oxR ?_;replace g:=(eR (C _ g));refine rB (rT (rB (rT (rT ?_))));refine exL g ?_;rintro rfl;refine oxR ?_;replace c:=(eR (l _ c));refine rB (rT ?_);cases soI c;exact zq
     replace b:=cF s b;refine zU (AWp.exit (xT (xT ?_)));refine exL b ?_;rintro rfl;exact oxI ⟨rfl,_,g,zv⟩
    rintro _ ⟨o,g,rfl⟩;have a:=(eL (C _ g));refine xB (nT (zs (zs (zA (nT ?_)))));rcases tf (A.zlt 4 o) with w | w
    ·replace a:=cT w a;refine zT (zs ?_);refine zB (nT (zr (rT (rB (rT (rT ?_))))));refine exL a ?_;rintro rfl;refine oxR ?_;replace c:=(eR (l _ c));refine rB (rT ?_);cases soI c;exact zq
    replace a:=cF w a;refine zU (zk (nT ?_));refine zB (nB (nT ?_));refine zB ?_;exact nT ⟨_,(soI a).symm,rfl,zv⟩
   replace a:=cF q a;refine zU (AWp.exit (xT (xT ?_)));refine exL a ?_;rintro rfl;exact oxI ⟨rfl,_,c,zv⟩
  rintro _ ⟨y,c,rfl⟩;have h:=(eL (l _ c));refine xB (nT (zs (zA (nT (zr ?_)) { tk:=[58] })));cases soI h;exact zq
 replace h:=cF p h;refine zT (zs ?_);refine zB (nT (zr (rT ?_)));cases soI h;exact zq

theorem c0L {A:Ar} (hA:SA A) {c e i:Int} {g:Bool} (h:M65 A c e i=some g):a0h Try.prog 65 [zi c,zi e,zi i] [] (.d (.bool g)) []:=by
 unfold M65 at h;refine zI Try.func65 ?_;refine zs (zA (nT (zs ?_)));obtain ⟨j,a,h⟩:=a0a h;refine zN [6] [] 0 (fun τ=>τ=⟨[(6,.d (.bool j))],[],15⟩) ?_ ?_
 ·rcases tf (A.zle c e) with b | b
  ·replace a:=cT b a;refine zB ?_ { tk:=[14] };cases soI a;exact zO
  replace a:=cF b a;refine zB ?_ { tk:=[14] };cases soI a;exact zO
 rintro _ rfl;refine nT (zr ?_);cases soI h;exact zq

theorem c2E {A:Ar} (hA:SA A) {c l m:Int} {k:Bool} (h:M62 A c l m=some k):a0h Try.prog 62 [.d (.agg [.int .i64 c,.int .i64 l,.int .i64 m])] [] (.d (.bool k)) []:=by
 unfold M62 at h;refine zI Try.func62 ?_;refine zs (zA (nT (zs (zs ?_))));refine zA (nT (zb (zs ?_)));refine zA (nT ?_);rcases tf (A.zeq c 1) with i | i
 ·replace h:=cT i h;refine zT (zs ?_);obtain ⟨v,b,h⟩:=a0a h;refine zN [2] [] 0 (fun τ=>τ=⟨[(2,.d (.bool v))],[],28⟩) ?_ ?_
  ·refine zn ?_;obtain ⟨s,q,b⟩:=a0a b;refine zD (c0L hA q) ?_ { tk:=[14] };rcases tf s with j | j
   ·replace b:=cT j b;refine zF ?_ { tk:=[14] };cases soI b;exact zO
   replace b:=cF j b;refine zF ?_ { tk:=[14] };cases soI b;exact zO
  rintro _ rfl;refine nT (zr (rB (rT ?_)));cases soI h;exact zq
 replace h:=cF i h;refine zU (zs ?_);refine zB (nT ?_);rcases tf (A.zeq c 2) with e | e
 ·replace h:=cT e h;refine zT (zs ?_);obtain ⟨u,a,h⟩:=a0a h;refine zN [2] [] 0 (fun τ=>τ=⟨[(2,.d (.bool u))],[],28⟩) ?_ ?_
  ·refine zn ?_;obtain ⟨r,o,a⟩:=a0a a;refine zD (c0L hA o) ?_ { tk:=[24] };rcases tf r with g | g
   ·replace a:=cT g a;obtain ⟨w,p,a⟩:=a0a a;refine zD (c0L hA p) ?_ { tk:=[24] };refine zF ?_ { tk:=[24] };cases soI a;exact zO
   replace a:=cF g a;refine zF ?_ { tk:=[24] };cases soI a;exact zO
  rintro _ rfl;refine nT (zr (rB (rT ?_)));cases soI h;exact zq
 replace h:=cF e h;refine zU (zk (nB (nT (zs ?_))));refine zB (nT (zr ?_)) { tk:=[27] };cases soI h;exact zq

theorem c2F {A:Ar} (hA:SA A) {b c e:Int} {a:Bool} (h:M61 A b c e=some a):a0h Try.prog 61 [.d (.agg [.int .i64 b,.int .i64 c,.int .i64 e])] [] (.d (.bool a)) []:=by
 unfold M61 at h;refine zI Try.func61 ?_;refine zs (zA (nT (zs (zn ?_))));obtain ⟨i,g,h⟩:=a0a h;refine zC (c2E hA g) ?_ { tk:=[5] };refine zE (nT (zr ?_)) { tk:=[5] };cases soI h;exact zq

theorem c1l {A:Ar} (hA:SA A) {c:List D} {j:Int} (h:b8O A c=some j):a0h Try.prog 104 [zl 3 c,(.func 61 [] [])] [] (zi j) []:=by
 unfold b8O at h;refine zI Try.func104 ?_;refine zs (zA (nT (zs (zs ?_))));refine zA (nT (zb ?_));obtain ⟨z,p,l,k,b⟩:=a0Q h;refine zM 0 [] [] 0 (fun τ=>l (.inl ())=some j/\τ=⟨[],[],19⟩) ?_ ?_
 ·refine zP p [0,1,7,8] [] 0 (fun i=>⟨[(0,zl 3 c),(1,(.func 61 [] [])),(7,(.d (.int .i64 (A.len c)))),(8,zi i)],[],19⟩) ⟨rfl,zc⟩ ?_;rintro i v a;dsimp only [b0o] at a;refine zs (zA (nT (zs ?_)));rcases tf (A.zlt i (A.len c)) with e | e
  ·replace a:=cT e a;refine zT (zk (nT (zs (zb (zs ?_)))));refine zB (nT (zs (zn ?_))) { tk:=[8,10] };obtain ⟨⟨r,s,u⟩,m,a⟩:=a0a a;obtain ⟨w,y⟩:=gtI m;obtain ⟨q,o,a⟩:=a0a a;refine zD (c2F hA o) ?_;refine zF (nT ?_);rcases tf q with g | g
   ·replace a:=cT g a;refine zT (zs ?_);refine zB (nT (zr (rB (rT (rT ?_))))) { tk:=[5,17] };refine exL a ?_;rintro rfl;refine oxR ?_;replace b:=(eR (k _ b));refine rB (rT ?_);cases soI b;exact zq
   replace a:=cF g a;refine zU (zk (nB (nT ?_)));refine zB ?_ { tk:=[18] };exact nT ⟨_,(soI a).symm,rfl,zv⟩
  replace a:=cF e a;refine zU (AWp.exit (xT (xT ?_)));refine exL a ?_;rintro rfl;exact oxI ⟨rfl,b,zv⟩
 rintro _ ⟨b,rfl⟩;have h:=(eL (k _ b));refine xB (nT (zs (zA (nT (zr ?_)))));cases soI h;exact zq

theorem c2G {A:Ar} (hA:SA A) {b:List D} {a:Bool} (h:M60 A b=some a):a0h Try.prog 60 [zl 3 b,(.func 61 [] [])] [] (.d (.bool a)) []:=by
 unfold M60 at h;refine zI Try.func60 ?_;refine zs (zA (nT (zs (zn ?_))));obtain ⟨e,c,h⟩:=a0a h;refine zC (c1l hA c) ?_ { tk:=[8] };refine zE (nT (zr ?_)) { tk:=[8] };cases soI h;exact zq

theorem c2p {A:Ar} (hA:SA A) {b c e:Int} {a:Bool} (h:M64 A b c e=some a):a0h Try.prog 64 [.d (.agg [.int .i64 b,.int .i64 c,.int .i64 e])] [] (.d (.bool a)) []:=by
 unfold M64 at h;refine zI Try.func64 ?_;refine zs (zA (nT (zs ?_)));refine zA (nT (zr ?_)) { tk:=[5] };cases soI h;exact zq

theorem c2q {A:Ar} (hA:SA A) {b:List D} {l:Int} (h:M63 A b=some l):a0h Try.prog 63 [zl 3 b,(.func 64 [] [])] [] (zi l) []:=by
 unfold M63 at h;refine zI Try.func63 ?_;refine zs (zA (nT (zs ?_)));refine zA (nT (zs (zs ?_)));refine zA (nT (zb ?_));obtain ⟨F,s,o,r,j⟩:=a0Q h;refine zM 0 [5] [] 0 (fun τ => ∃ k,o k=some l/\τ=⟨[(5,zi k)],[],21⟩) ?_ ?_
 ·refine zP s [1,5,8,9,10] [] 0 (fun (m,e)=>⟨[(1,(.func 64 [] [])),(5,zi m),(8,zl 3 b),(9,(.d (.int .i64 (A.len b)))),(10,zi e)],[],21⟩) ⟨rfl,zc⟩ ?_;rintro ⟨m,e⟩ B a;dsimp only [b2d] at a;refine zs (zA (nT (zs ?_)));rcases tf (A.zlt e (A.len b)) with g | g
  ·replace a:=cT g a;refine zT (zk (nT (zs (zb (zs ?_)))));obtain ⟨⟨w,y,z⟩,p,a⟩:=a0a a;obtain ⟨C,E⟩:=gtI p;refine zB (nT (zs (zn ?_))) { tk:=[13] };obtain ⟨u,q,a⟩:=a0a a;refine zD (c2p hA q) ?_;refine zF (nT ?_);obtain ⟨v,c,a⟩:=a0a a;refine zN [1,5,8,9,10] [] 0 (fun τ=>τ=⟨[(1,(.func 64 [] [])),(5,zi v),(8,zl 3 b),(9,(.d (.int .i64 (A.len b)))),(10,zi e)],[],21⟩) ?_ ?_
   ·rcases tf u with i | i
    ·replace c:=cT i c;refine zT ?_;refine zB ?_ { tk:=[18] };cases soI c;exact zO
    replace c:=cF i c;refine zU (zk ?_);cases soI c;exact zO
   rintro _ rfl;refine nB (nT (zA ?_));exact nT ⟨_,(soI a).symm,rfl,zc⟩
  replace a:=cF g a;refine zU (AWp.exit (xT (xT ?_)));refine exL a ?_;rintro rfl;exact oxI ⟨rfl,_,j,zv⟩
 rintro _ ⟨k,j,rfl⟩;have h:=(r _ j);refine xB (nT (zs (zA (nT (zr ?_)) { tk:=[5,20] })));cases soI h;exact zq

theorem c1m {A:Ar} (hA:SA A) {c j:List D} (h:M88 A c=some j):a0h Try.prog 88 [zl 1 c] [] (.gref 0 1) [(.jag 3 j none),.dead,.dead]:=by
 unfold M88 at h;refine zI Try.func88 ?_;refine zs (zA (nT (zs ?_)));refine zA (nT (zs (zs ?_)));refine zA (nT ?_);refine AWp.weak (Wk.nilJag 3 3 rfl (lb rfl)) ?_;refine zb ?_;obtain ⟨G,r,l,q,e⟩:=a0Q h;refine zM 0 [3] [] 3 (fun τ => ∃ i,l i=some j/\τ=⟨[(3,.gref 0 1)],[(.jag 3 i none),.dead,.dead],21⟩) ?_ ?_
 ·refine AWp.iterW r (fun (k,g)=>⟨[(0,zl 1 c),(3,.gref 0 1),(4,zi g)],[(.jag 3 k none),.dead,.dead],21⟩) ⟨_,Wk.ren [some 0,some 1,some 2] [0,3,4] rfl rfl,(by first | rfl | cbv)⟩ ?_
  rintro ⟨k,g⟩ u a;dsimp only [b1l] at a;refine zs (zs (zA (nT ?_)));rcases tf (A.zlt g (A.len c)) with b | b
  ·replace a:=cT b a;refine zT (zk (nT (zs (zb ?_))));obtain ⟨s,m,a⟩:=a0a a;obtain ⟨v,w⟩:=gtI m;obtain ⟨E,o,a⟩:=a0a a;obtain ⟨y,z⟩:=apI o;obtain ⟨F,p,a⟩:=a0a a;obtain ⟨B,C⟩:=apI p;refine zB (nB (nT ?_)) { tk:=[3,19],gr:=[17],jg:=[18] };refine zB ?_;exact nT ⟨_,(soI a).symm,_,Wk.ren [some 6,some 7,some 8] [0,3,4] rfl rfl,(by first | rfl | (cbv;done) | ((repeat (cbv;simp only [b]));try cbv))⟩
  replace a:=cF b a;refine zU (AWp.exit (xT (xT ?_)));refine exL a ?_;rintro rfl;exact oxI ⟨rfl,_,e,zv⟩
 rintro _ ⟨i,e,rfl⟩;have h:=(q _ e);refine xB (nT (zs (zA (nT (zr ?_)) { tk:=[3,20] })));cases soI h;exact zq

theorem c2H {A:Ar} (hA:SA A) {c:List D} {r:Bool} (h:M23 A c=some r):a0h Try.prog 23 [zl 1 c] [] (.d (.bool r)) []:=by
 unfold M23 at h;refine zI Try.func23 ?_;refine zs (zA (nT (zs ?_)));refine zA (nT (zs (zs ?_)));refine zA (nT (zb ?_));obtain ⟨Q,F,w,u,g⟩:=a0Q h;refine zM 0 [0,3] [] 0 (fun τ => ∃ q,w (.inl q)=some r/\τ=⟨[(0,zl 1 c),(3,zi q)],[],36⟩) ?_ ?_
 ·refine zP F [0,3,6,7,8] [] 0 (fun (p,i)=>⟨[(0,zl 1 c),(3,zi p),(6,zl 1 c),(7,(.d (.int .i64 (A.len c)))),(8,zi i)],[],36⟩) ⟨rfl,zc⟩ ?_;rintro ⟨p,i⟩ L a;dsimp only [b1g] at a;refine zs (zA (nT (zs ?_)));rcases tf (A.zlt i (A.len c)) with j | j
  ·replace a:=cT j a;refine zT (zk (nT (zs (zb (zs ?_)))));obtain ⟨s,y,a⟩:=a0a a;obtain ⟨M,N⟩:=gtI y;refine zB (nT (zs (zs ?_)));obtain ⟨v,b,a⟩:=a0a a;refine zN [0,3,5,6,7,8,23] [] 0 (fun τ=>τ=⟨[(0,zl 1 c),(3,zi p),(5,zl 3 s),(6,zl 1 c),(7,(.d (.int .i64 (A.len c)))),(8,zi i),(23,.d (.bool v))],[],36⟩) ?_ ?_
   ·refine zn ?_;rcases tf (A.zlt 7 (A.len s)) with k | k
    ·replace b:=cT k b;refine zF ?_;cases soI b;exact zO
    replace b:=cF k b;obtain ⟨G,z,b⟩:=a0a b;refine zD (c2G hA z) ?_;rcases tf G with l | l
    ·replace b:=cT l b;refine zF ?_;cases soI b;exact zO
    replace b:=cF l b;obtain ⟨O,B,b⟩:=a0a b;refine zD (c2q hA B) ?_;refine zF ?_;cases soI b;exact zO
   rintro _ rfl;refine nT ?_;rcases tf v with m | m
   ·replace a:=cT m a;refine zT (zs ?_);refine zB (nT (zr (rT (rB (rT (rT ?_))))));refine exL a ?_;rintro rfl;refine oxR ?_;replace g:=(eR (u _ g));refine rB (rT ?_);cases soI g;exact zq
   replace a:=cF m a;refine zU (zk (nT (zn ?_)));obtain ⟨P,C,a⟩:=a0a a;refine zD (c2q hA C) ?_;refine zF (nB (nT ?_));refine zB ?_;exact nT ⟨_,(soI a).symm,rfl,zv⟩
  replace a:=cF j a;refine zU (AWp.exit (xT (xT ?_)));refine exL a ?_;rintro rfl;exact oxI ⟨rfl,_,g,zv⟩
 rintro _ ⟨q,g,rfl⟩;have h:=(eL (u _ g));refine xB (nT (zs ?_));obtain ⟨K,e,h⟩:=a0a h;refine zN [2] [] 0 (fun τ=>τ=⟨[(2,.d (.bool K))],[],36⟩) ?_ ?_
 ·refine zn ?_;obtain ⟨J,E,e⟩:=a0a e;refine zC (c0L hA E) ?_ { tk:=[35] };rcases tf J with o | o
  ·replace e:=cT o e;refine zF ?_ { tk:=[35] };cases soI e;exact zO
  replace e:=cF o e;refine zF ?_ { tk:=[35] };cases soI e;exact zO
 rintro _ rfl;refine nT (zr ?_);cases soI h;exact zq

theorem c2I {A:Ar} (hA:SA A) {a g:Int} (h:M95 A a=some g):a0h Try.prog 95 [zi a] [] (.d (.iface g)) []:=by
 unfold M95 at h;refine zI Try.func95 ?_;refine zs (zA (nT (zs (zs ?_))));refine zA (nT (zb (zs ?_)));refine zA (nT ?_);rcases tf (A.zeq a 1) with b | b
 ·replace h:=cT b h;refine zT (zs ?_);refine zB (nT (zr (rB (rT ?_)))) { tk:=[7] };cases soI h;exact zq
 replace h:=cF b h;refine zU (zs ?_);refine zB (nT ?_);rcases tf (A.zeq a 2) with c | c
 ·replace h:=cT c h;refine zT (zs ?_);refine zB (nT (zr (rB (rT ?_)))) { tk:=[11] };cases soI h;exact zq
 replace h:=cF c h;refine zU (zs ?_);refine zB (nT ?_);rcases tf (A.zeq a 3) with e | e
 ·replace h:=cT e h;refine zT (zs ?_);refine zB (nT (zr (rB (rT ?_)))) { tk:=[15] };cases soI h;exact zq
 replace h:=cF e h;refine zU (zk (nB (nT (zs ?_))));refine zB (nT (zr ?_));cases soI h;exact zq

theorem c1n {A:Ar} (hA:SA A) {q c l:List D} {m:Int} (h:M55 A q c=some (l,m)):a0h Try.prog 55 [zl 1 q,zl 1 c] [] (.tuple [zl 1 l,zi m]) []:=by
 unfold M55 at h;refine zI Try.func55 ?_;refine zs (zA (nT (zs (zs (zn ?_)))));obtain ⟨B,w,h⟩:=a0a h;refine zC (c2H hA w) ?_;refine zE (nT ?_);rcases tf B with i | i
 ·replace h:=cT i h;refine zU (zk (nT (zs ?_)));refine zB (nT (zs (zs ?_)));refine zB (nT (zb ?_));obtain ⟨M,y,r,o,b⟩:=a0Q h;refine zM 0 [6] [] 0 (fun τ => ∃ k,r (.inl k)=some (l,m)/\τ=⟨[(6,(.own 1 k))],[],29⟩) ?_ ?_
  ·refine zP y [6,13,14,15] [] 0 (fun (p,j)=>⟨[(6,(.own 1 p)),(13,zl 1 c),(14,(.d (.int .i64 (A.len c)))),(15,zi j)],[],29⟩) ⟨rfl,zv⟩ ?_;rintro ⟨p,j⟩ E a;dsimp only [b2e] at a;refine zs (zA (nT (zs ?_)));rcases tf (A.zlt j (A.len c)) with e | e
   ·replace a:=cT e a;refine zT (zk (nT (zs (zb (zs ?_)))));obtain ⟨C,s,a⟩:=a0a a;obtain ⟨F,G⟩:=gtI s;refine zB (nT (zs (zn ?_)));obtain ⟨z,u,a⟩:=a0a a;refine zD (c2I hA u) ?_;refine zF (nT (zs (zs ?_)));refine zB (nT ?_);rcases tf (A.zlt z 0) with g | g
    ·replace a:=cT g a;refine zT (zs ?_);refine zB (nT (zr (rT (rB (rT (rT ?_))))));refine exL a ?_;rintro rfl;refine oxR ?_;replace b:=(eR (o _ b));refine rB (rT ?_);cases soI b;exact zq
    replace a:=cF g a;refine zU (zk (nT ?_));obtain ⟨L,v,a⟩:=a0a a;obtain ⟨J,K⟩:=apI v;refine zB (nB (nT ?_)) { tk:=[6,26] };refine zB ?_;exact nT ⟨_,(soI a).symm,rfl,zv⟩
   replace a:=cF e a;refine zU (AWp.exit (xT (xT ?_)));refine exL a ?_;rintro rfl;exact oxI ⟨rfl,_,b,zv⟩
  rintro _ ⟨k,b,rfl⟩;have h:=(eL (o _ b));refine xB (nT (zs (zA (nT (zr ?_)))));cases soI h;exact zq
 replace h:=cF i h;refine zT (zs ?_);refine zB (nT (zr (rT ?_)));cases soI h;exact zq

theorem c2J {A:Ar} (hA:SA A) {g c:List D} {m:Bool} (h:M77 A g c=some m):a0h Try.prog 77 [.d (.agg g),zl 1 c] [] (.d (.bool m)) []:=by
 unfold M77 at h;refine zI Try.func77 ?_;refine zs ?_;obtain ⟨_,y,h⟩:=a0a h;have L:=ckI y;refine zB (nT (zs (zs ?_))) { arr:=[2] };refine zA (nT (zb ?_));obtain ⟨W,G,q,o,e⟩:=a0Q h;refine zM 0 [] [] 1 (fun τ=>q (.inl ())=some m/\τ=⟨[],[(.arr 1 g)],31⟩) ?_ ?_
 ·refine zP G [1,2,7,8] [] 1 (fun i=>⟨[(1,zl 1 c),(2,.ptr 0 0),(7,(.d (.int .i64 (A.len c)))),(8,zi i)],[(.arr 1 g)],31⟩) ⟨rfl,zc⟩ ?_;rintro i K b;dsimp only [b2f] at b;refine zs (zA (nT (zs ?_)));rcases tf (A.zlt i (A.len c)) with j | j
  ·replace b:=cT j b;refine zT (zk (nT (zs (zb (zs ?_)))));refine zB (nT (zs ?_));obtain ⟨p,a,b⟩:=a0a b;refine zN [1,2,7,8,29] [] 1 (fun τ=>τ=⟨[(1,zl 1 c),(2,.ptr 0 0),(7,(.d (.int .i64 (A.len c)))),(8,zi i),(29,.d (.bool p))],[(.arr 1 g)],31⟩) ?_ ?_
   ·obtain ⟨_,u,a⟩:=a0a a;have M:=ckI u;obtain ⟨_,v,a⟩:=a0a a;have N:=ckI v;obtain ⟨r,w,a⟩:=a0a a;have O:=gcI w;obtain ⟨s,z,a⟩:=a0a a;obtain ⟨P,Q⟩:=gtI z;obtain ⟨_,B,a⟩:=a0a a;have R:=nkI B;rcases tf (A.zeq r (A.wrp .u8 (A.zsub (A.shl .u8 1 (A.len s)) 1))) with k | k
    ·replace a:=cT k a;obtain ⟨_,C,a⟩:=a0a a;have S:=ckI C;obtain ⟨_,E,a⟩:=a0a a;have U:=ckI E;obtain ⟨J,F,a⟩:=a0a a;have V:=gcI F;refine zH ?_;cases soI a;exact zO
    replace a:=cF k a;refine zH ?_;cases soI a;exact zO
   rintro _ rfl;refine nT ?_;rcases tf p with l | l
   ·replace b:=cT l b;refine zT (zs ?_);refine zB (nT (zr (rB (rT (rT ?_)))));refine exL b ?_;rintro rfl;refine oxR ?_;replace e:=(eR (o _ e));refine rB (rT ?_);cases soI e;exact zq
   replace b:=cF l b;refine zU (zk (nB (nT ?_)));refine zB ?_;exact nT ⟨_,(soI b).symm,rfl,zv⟩
  replace b:=cF j b;refine zU (AWp.exit (xT (xT ?_)));refine exL b ?_;rintro rfl;exact oxI ⟨rfl,e,zv⟩
 rintro _ ⟨e,rfl⟩;have h:=(eL (o _ e));refine xB (nT (zs (zA (nT (zr ?_)))));cases soI h;exact zq

theorem c2K {A:Ar} (hA:SA A) {b c e:Int} {a:Bool} (h:M80 A b c e=some a):a0h Try.prog 80 [.d (.agg [.int .i64 b,.int .i64 c,.int .i64 e])] [] (.d (.bool a)) []:=by
 unfold M80 at h;refine zI Try.func80 ?_;refine zs (zA (nT (zs ?_)));refine zA (nT (zr ?_)) { tk:=[5] };cases soI h;exact zq

theorem b6T {A:Ar} (hA:SA A) {b:List D} {l:Int} (h:b6S A b=some l):a0h Try.prog 63 [zl 3 b,(.func 80 [] [])] [] (zi l) []:=by
 unfold b6S at h;refine zI Try.func63 ?_;refine zs (zA (nT (zs ?_)));refine zA (nT (zs (zs ?_)));refine zA (nT (zb ?_));obtain ⟨F,s,o,r,j⟩:=a0Q h;refine zM 0 [5] [] 0 (fun τ => ∃ k,o k=some l/\τ=⟨[(5,zi k)],[],21⟩) ?_ ?_
 ·refine zP s [1,5,8,9,10] [] 0 (fun (m,e)=>⟨[(1,(.func 80 [] [])),(5,zi m),(8,zl 3 b),(9,(.d (.int .i64 (A.len b)))),(10,zi e)],[],21⟩) ⟨rfl,zc⟩ ?_;rintro ⟨m,e⟩ B a;dsimp only [a8d] at a;refine zs (zA (nT (zs ?_)));rcases tf (A.zlt e (A.len b)) with g | g
  ·replace a:=cT g a;refine zT (zk (nT (zs (zb (zs ?_)))));obtain ⟨⟨w,y,z⟩,p,a⟩:=a0a a;obtain ⟨C,E⟩:=gtI p;refine zB (nT (zs (zn ?_))) { tk:=[13] };obtain ⟨u,q,a⟩:=a0a a;refine zD (c2K hA q) ?_;refine zF (nT ?_);obtain ⟨v,c,a⟩:=a0a a;refine zN [1,5,8,9,10] [] 0 (fun τ=>τ=⟨[(1,(.func 80 [] [])),(5,zi v),(8,zl 3 b),(9,(.d (.int .i64 (A.len b)))),(10,zi e)],[],21⟩) ?_ ?_
   ·rcases tf u with i | i
    ·replace c:=cT i c;refine zT ?_;refine zB ?_ { tk:=[18] };cases soI c;exact zO
    replace c:=cF i c;refine zU (zk ?_);cases soI c;exact zO
   rintro _ rfl;refine nB (nT (zA ?_));exact nT ⟨_,(soI a).symm,rfl,zc⟩
  replace a:=cF g a;refine zU (AWp.exit (xT (xT ?_)));refine exL a ?_;rintro rfl;exact oxI ⟨rfl,_,j,zv⟩
 rintro _ ⟨k,j,rfl⟩;have h:=(r _ j);refine xB (nT (zs (zA (nT (zr ?_)) { tk:=[5,20] })));cases soI h;exact zq

theorem c1o {A:Ar} (hA:SA A) {c d:Int} {a b:List D} (h:b8P A c d a=some b):a0h Try.prog 107 [.mref 0 1 c d] [(.arr 1 a)] (.own 1 b) [(.arr 1 a)]:=by
 unfold b8P at h;refine zI Try.func107 ?_;refine zs (zA (nT (zs (zs ?_))));refine zA (nT ?_);refine zU (zk (nT (zs ?_)));obtain ⟨_,g,h⟩:=a0a h;have k:=ckI g;obtain ⟨l,e,h⟩:=a0a h;obtain ⟨i,j⟩:=apI e;refine zB (nT (zr ?_)) { tk:=[7] };cases soI h;exact zq

theorem c2L {A:Ar} (hA:SA A) {g c e:List D} (h:M78 A g c=some e):a0h Try.prog 78 [.d (.agg g),zl 1 c] [] (.own 1 e) []:=by
 unfold M78 at h;refine zI Try.func78 ?_;refine zs ?_;obtain ⟨_,N,h⟩:=a0a h;have f3:=ckI N;refine zB (nT (zs ?_)) { arr:=[2] };refine zA (nT (zs ?_));refine zA (nT (zs (zs ?_)));refine zA (nT (zb ?_));obtain ⟨a1,V,v,S,k⟩:=a0Q h;refine zM 0 [2,5,6] [] 1 (fun τ => ∃ p,v p=some e/\τ=⟨[(2,.ptr 0 0),(5,(.own 1 [])),(6,zi p)],[(.arr 1 g)],41⟩) ?_ ?_
 ·refine zP V [2,5,6,11,12,13] [] 1 (fun (s,o)=>⟨[(2,.ptr 0 0),(5,(.own 1 [])),(6,zi s),(11,zl 1 c),(12,(.d (.int .i64 (A.len c)))),(13,zi o)],[(.arr 1 g)],41⟩) ⟨rfl,zc⟩ ?_;rintro ⟨s,o⟩ a0 a;dsimp only [b2g] at a;refine zs (zA (nT (zs ?_)));rcases tf (A.zlt o (A.len c)) with i | i
  ·replace a:=cT i a;refine zT (zk (nT (zs (zb (zs ?_)))));obtain ⟨X,y,a⟩:=a0a a;obtain ⟨c0,d0⟩:=gtI y;refine zB (nT (zn ?_));obtain ⟨y0,z,a⟩:=a0a a;refine zD (b6T hA z) ?_;refine zF (nB (nT ?_));refine zB ?_;exact nT ⟨_,(soI a).symm,rfl,zv⟩
  replace a:=cF i a;refine zU (AWp.exit (xT (xT ?_)));refine exL a ?_;rintro rfl;exact oxI ⟨rfl,_,k,zv⟩
 rintro _ ⟨p,k,rfl⟩;have h:=(S _ k);refine xB (nT (zs (zs ?_)));refine zQ ?_;obtain ⟨_,B,h⟩:=a0a h;have e0:=ckI B;obtain ⟨_,C,h⟩:=a0a h;have g0:=ckI C;obtain ⟨_,E,h⟩:=a0a h;have i0:=ckI E;obtain ⟨_,F,h⟩:=a0a h;have j0:=ckI F;obtain ⟨z0,G,h⟩:=a0a h;refine a1N.cp hT hA {} rfl zu (c1o hA G) rfl rfl rfl rfl (lb rfl) rfl rfl ?_;obtain ⟨_,J,h⟩:=a0a h;have k0:=ckI J;obtain ⟨_,K,h⟩:=a0a h;have l0:=ckI K;obtain ⟨_,L,h⟩:=a0a h;have m0:=ckI L;obtain ⟨_,M,h⟩:=a0a h;have n0:=ckI M;obtain ⟨_,P,h⟩:=a0a h;have q0:=ckI P;obtain ⟨m,O,h⟩:=a0a h;obtain ⟨o0,p0⟩:=apI O;refine zJ ?_;refine nT (zb ?_);refine AWp.weak (Wk.ren [] [5,28,29,30] rfl rfl) ?_;obtain ⟨b1,W,w,U,l⟩:=a0Q h;refine zM 2 [5] [] 0 (fun τ => ∃ r,w r=some e/\τ=⟨[(5,(.own 1 r))],[],41⟩) ?_ ?_
 ·refine zP W [5,28,29,30] [] 0 (fun (u,q)=>⟨[(5,(.own 1 u)),(28,(.own 1 m)),(29,(.d (.int .i64 (A.len m)))),(30,zi q)],[],41⟩) ⟨rfl,zc⟩ ?_;rintro ⟨u,q⟩ b0 b;dsimp only [b2h] at b;refine zs (zA (nT (zs ?_)));rcases tf (A.zlt q (A.len m)) with j | j
  ·replace b:=cT j b;refine zT (zk (nT (zs (zb (zs ?_)))));obtain ⟨Y,Q,b⟩:=a0a b;obtain ⟨r0,s0⟩:=gtI Q;refine zB (nT ?_);obtain ⟨w0,R,b⟩:=a0a b;obtain ⟨u0,v0⟩:=apI R;refine zB (nB (nT ?_)) { tk:=[5,38] };refine zB ?_;exact nT ⟨_,(soI b).symm,rfl,zv⟩
  replace b:=cF j b;refine zU (AWp.exit (xT (xT ?_)));refine exL b ?_;rintro rfl;exact oxI ⟨rfl,_,l,zv⟩
 rintro _ ⟨r,l,rfl⟩;have h:=(U _ l);refine xB (nT (zs (zA (nT (zr ?_)) { tk:=[5,40] })));cases soI h;exact zq

theorem c2r {A:Ar} (hA:SA A) {b:List D} {k j:Int} (h:M75 A b k=some j):a0h Try.prog 75 [.d (.agg b),zi k] [] (zi j) []:=by
 unfold M75 at h;refine zI Try.func75 ?_;refine zs ?_;obtain ⟨_,s,h⟩:=a0a h;have E:=ckI s;refine zB (nT (zs ?_)) { arr:=[2] };refine zA (nT (zs (zb ?_)));obtain ⟨F,v,l,u,e⟩:=a0Q h;refine zM 0 [5] [] 1 (fun τ => ∃ i,l i=some j/\τ=⟨[(5,zi i)],[(.arr 1 b)],17⟩) ?_ ?_
 ·refine zP v [1,2,5] [] 1 (fun g=>⟨[(1,zi k),(2,.ptr 0 0),(5,zi g)],[(.arr 1 b)],17⟩) ⟨rfl,zc⟩ ?_;rintro g w a;dsimp only [b4I] at a;refine zs (zs ?_);obtain ⟨_,o,a⟩:=a0a a;have y:=ckI o;obtain ⟨_,p,a⟩:=a0a a;have z:=ckI p;obtain ⟨m,q,a⟩:=a0a a;have B:=gcI q;obtain ⟨_,r,a⟩:=a0a a;have C:=nkI r;refine zB (nT ?_);rcases tf (A.zeq (A.bits .and .u8 (A.shr .u8 m g) 1) 1) with c | c
  ·replace a:=cT c a;refine zT (zk (nT (zb ?_)));refine zB (nB ?_) { tk:=[15] };exact nT ⟨_,(soI a).symm,rfl,zv⟩
  replace a:=cF c a;refine zU (AWp.exit (xT (xT ?_)));refine exL a ?_;rintro rfl;exact oxI ⟨rfl,_,e,zv⟩
 rintro _ ⟨i,e,rfl⟩;have h:=(u _ e);refine xB (nT (zs (zA (nT (zr ?_)) { tk:=[5,16] })));cases soI h;exact zq

theorem b9e {A:Ar} (hA:SA A) {l:List D} {m o j:Int} (h:b8D A l m o=some j):a0h Try.prog 106 [zl 1 l,zi m,zi o] [] (zi j) []:=by
 unfold b8D at h;refine zI Try.func106 ?_;refine zs (zA (nT (zs (zn ?_))));obtain ⟨C,v,h⟩:=a0a h;obtain ⟨R,S⟩:=gtI v;obtain ⟨U,w,h⟩:=a0a h;obtain ⟨F,G,J,K⟩:=slI w;obtain ⟨V,q,h⟩:=a0a h;refine zD (b6T hA q) ?_ { tk:=[16] };refine zF (nT (zs (zs ?_))) { tk:=[16] };obtain ⟨e,r,h⟩:=a0a h;obtain ⟨L,M,N,O⟩:=slI r;refine zB (nT (zb ?_));obtain ⟨X,z,p,y,c⟩:=a0Q h;refine zM 0 [7] [] 0 (fun τ => ∃ i,p i=some j/\τ=⟨[(7,zi i)],[],31⟩) ?_ ?_
 ·refine zP z [7,19,20,21] [] 0 (fun (k,g)=>⟨[(7,zi k),(19,zl 1 e),(20,(.d (.int .i64 (A.len e)))),(21,zi g)],[],31⟩) ⟨rfl,zc⟩ ?_;rintro ⟨k,g⟩ E a;dsimp only [a8e] at a;refine zs (zA (nT (zs ?_)));rcases tf (A.zlt g (A.len e)) with b | b
  ·replace a:=cT b a;refine zT (zk (nT (zs (zb (zs ?_)))));obtain ⟨B,s,a⟩:=a0a a;obtain ⟨P,Q⟩:=gtI s;refine zB (nT (zn ?_));obtain ⟨W,u,a⟩:=a0a a;refine zD (b6T hA u) ?_ { tk:=[28] };refine zF (nB (nT ?_)) { tk:=[28] };refine zB ?_;exact nT ⟨_,(soI a).symm,rfl,zv⟩
  replace a:=cF b a;refine zU (AWp.exit (xT (xT ?_)));refine exL a ?_;rintro rfl;exact oxI ⟨rfl,_,c,zv⟩
 rintro _ ⟨i,c,rfl⟩;have h:=(y _ c);refine xB (nT (zs (zA (nT (zr ?_)) { tk:=[7,30] })));cases soI h;exact zq

theorem c0M {A:Ar} (hA:SA A) {j k:List D} {l m:Int} {i:List D} (h:M76 A j k l m=some i):a0h Try.prog 76 [.d (.agg j),zl 1 k,zi l,zi m] [] (.d (.agg i)) []:=by
 unfold M76 at h;refine zI Try.func76 ?_;refine zs ?_;obtain ⟨_,J,h⟩:=a0a h;have f5:=ckI J;refine zB (nT (zs ?_)) { arr:=[4,8] };obtain ⟨_,O,h⟩:=a0a h;have f9:=ckI O;obtain ⟨_,P,h⟩:=a0a h;have i0:=ckI P;obtain ⟨S,o,h⟩:=a0a h;have j0:=gcI o;obtain ⟨_,p,h⟩:=a0a h;have k0:=nkI p;obtain ⟨_,q,h⟩:=a0a h;have l0:=ckI q;obtain ⟨_,r,h⟩:=a0a h;have m0:=ckI r;obtain ⟨Y,d0,h⟩:=a0a h;refine zH ?_ { tk:=[16] };refine nT (zs (zs ?_));obtain ⟨U,s,h⟩:=a0a h;obtain ⟨n0,o0⟩:=gtI s;obtain ⟨⟨g,V,W⟩,u,h⟩:=a0a h;obtain ⟨p0,q0⟩:=gtI u;refine zB (nT (zs ?_)) { tk:=[25] };refine zA (nT (zb (zs ?_)));refine zA (nT ?_);obtain ⟨R,a,h⟩:=a0a h;refine zN [4,8] [] 2 (fun τ=>τ=⟨[(4,.ptr 0 0),(8,.ptr 1 0)],[(.arr 1 R),(.arr 1 (zz0))],51⟩) ?_ ?_
 ·rcases tf (A.zeq g 1) with c | c
  ·replace a:=cT c a;refine zT ?_;refine zQ ?_;obtain ⟨k1,v,a⟩:=a0a a;refine a1N.c0 hT hA { tk:=[38] } rfl zu (b9e hA v) rfl rfl (lb rfl) rfl rfl ?_;obtain ⟨_,w,a⟩:=a0a a;have r0:=ckI w;obtain ⟨_,y,a⟩:=a0a a;have s0:=ckI y;obtain ⟨X,z,a⟩:=a0a a;have u0:=gcI z;obtain ⟨_,B,a⟩:=a0a a;have v0:=ckI B;obtain ⟨_,C,a⟩:=a0a a;have w0:=ckI C;obtain ⟨a0,e0,a⟩:=a0a a;refine zJ ?_ { tk:=[38] };cases soI a;exact zO
  replace a:=cF c a;refine zU (zs ?_);refine zB (nT ?_);obtain ⟨Q,b,a⟩:=a0a a;refine zN [4,8] [] 2 (fun τ=>τ=⟨[(4,.ptr 0 0),(8,.ptr 1 0)],[(.arr 1 Q),(.arr 1 (zz0))],51⟩) ?_ ?_
  ·rcases tf (A.zeq g 2) with e | e
   ·replace b:=cT e b;refine zT ?_;obtain ⟨_,E,b⟩:=a0a b;have y0:=ckI E;obtain ⟨_,F,b⟩:=a0a b;have z0:=ckI F;obtain ⟨b0,g0,b⟩:=a0a b;refine zB ?_ { tk:=[47] };cases soI b;exact zO
   replace b:=cF e b;refine zU (zk ?_);cases soI b;exact zO
  rintro _ rfl;cases soI a;exact zO
 rintro _ rfl;refine nB (nT (zs ?_));obtain ⟨j1,G,h⟩:=a0a h;obtain ⟨a1,b1,c1⟩:=gaI G;obtain ⟨_,L,h⟩:=a0a h;have e1:=ckI L;obtain ⟨_,K,h⟩:=a0a h;have d1:=ckI K;refine zB (nT ?_) { tk:=[50] };obtain ⟨_,M,h⟩:=a0a h;have g1:=ckI M;obtain ⟨_,N,h⟩:=a0a h;have i1:=ckI N;refine zr ?_;cases soI h;exact ⟨(rs1 (b7q rfl rfl rfl rfl (lnN hA (by assumption)) (onN hA (by assumption)))),rfl,rfl,lb rfl,_,rfl⟩

theorem b9f {A:Ar} (hA:SA A) {g:List D} {i:List (D×D)} {c j:List D} {m:List (D×D)} {o:List D} (h:M96 A g i c j=some (m,o)):a0h Try.prog 96 [.d (.agg g),.ptr 0 0,.ptr 2 0] [(.cells [(.map 1)]),(.map true (zz1) i),.cells [.gref 7 41],.dead,.dead,.dead,(.arr 1 c),.gro 41 j,.dead,.dead] (.tuple []) [(.cells [(.map 1)]),(.map true (zz1) m),.cells [.gref 10 41],.dead,.dead,.dead,(.arr 1 c),.dead,.dead,.dead,.gro 41 o,.dead,.dead]:=by
 unfold M96 at h;refine zI Try.func96 ?_;refine zs ?_;obtain ⟨_,v,h⟩:=a0a h;have P:=ckI v;refine zB (nT (zs ?_)) { arr:=[3] };obtain ⟨l,b,h⟩:=a0a h;refine AWp.cutW (fun τ=>τ=⟨[(1,.ptr 0 0),(2,.ptr 2 0),(3,.ptr 10 0),(5,.d (.bool l))],[(.cells [(.map 1)]),(.map true (zz1) i),.cells [.gref 7 41],.dead,.dead,.dead,(.arr 1 c),.gro 41 j,.dead,.dead,(.arr 1 g)],21⟩) ?_ ?_
 ·obtain ⟨S,w,b⟩:=a0a b;obtain ⟨Q,R,E⟩:=gaI w;obtain ⟨_,p,b⟩:=a0a b;have F:=ckI p;obtain ⟨z,k,b⟩:=a0a b;rcases z with _ | _
  ·have y:=lkN k;refine zB ?_ { tk:=[10] };cases soI b;exact oWi ⟨_,zR zy5 [1,2,3,5],rfl⟩
  have y:=lkS k;refine zB ?_ { tk:=[10] };cases soI b;exact oWi ⟨_,zR zy5 [1,2,3,5],rfl⟩
 rintro _ rfl;refine nT (zs (zA (nT ?_)));obtain ⟨⟨B,C⟩,a,h⟩:=a0a h;refine AWp.cutW (fun τ=>τ=⟨[],[(.cells [(.map 1)]),(.map true (zz1) B),.cells [.gref 10 41],.dead,.dead,.dead,(.arr 1 c),.dead,.dead,.dead,.gro 41 C,.dead,.dead],21⟩) ?_ ?_
 ·rcases tf l with e | e
  ·replace a:=cT e a;refine zU (zk ?_);cases soI a;exact oWi ⟨_,zR [some 0,some 1,some 2,some 3,some 4,some 5,some 6,none,none,none,some 7,some 8,some 9] [],rfl⟩
  replace a:=cF e a;refine zT (zs ?_);obtain ⟨U,q,a⟩:=a0a a;obtain ⟨G,J,K⟩:=gaI q;obtain ⟨_,r,a⟩:=a0a a;have L:=ckI r;refine zB (nT ?_);obtain ⟨_,s,a⟩:=a0a a;have M:=ckI s;obtain ⟨V,u,a⟩:=a0a a;obtain ⟨N,O⟩:=apI u;refine zB ?_ { tk:=[17,20] };cases soI a;exact oWi ⟨_,(Wk.trans (Wk.settle 2 0 rfl rfl rfl) (zR [some 0,some 1,some 2,some 3,some 4,some 5,some 6,some 7,some 8,some 9,some 11,some 12,some 13] [])),rfl⟩
 rintro _ rfl;cases soI h;exact zq
end Go.Am
