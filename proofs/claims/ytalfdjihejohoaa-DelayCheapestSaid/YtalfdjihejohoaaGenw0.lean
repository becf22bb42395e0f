/- Own text: Genw0. -/
import Derived.Test.YtalfdjihejohoaaGenp0
import Derived.Test.YtalfdjihejohoaaAmLaw
import Derived.Test.YtalfdjihejohoaaAmLaw
import Derived.Test.YtalfdjihejohoaaAmLaw
import Derived.Test.YtalfdjihejohoaaAmLaw
import Derived.Test.YtalfdjihejohoaaAmLaw
import Derived.Test.YtalfdjihejohoaaAmThw
import Derived.Test.YtalfdjihejohoaaAmThw
import Derived.Test.YtalfdjihejohoaaAmThw
import Derived.Test.YtalfdjihejohoaaAmThw
import Derived.Test.YtalfdjihejohoaaAmThw
import Derived.Test.YtalfdjihejohoaaAmLaw
set_option maxRecDepth 100000
set_option maxHeartbeats 2000000
set_option linter.unusedVariables false
set_option linter.unusedSimpArgs false
namespace Go.Am
open Go Go.Proofs
theorem zqa : (!true) = false := rfl
theorem zqb : (!false) = true := rfl
theorem zqc {α : Type} {a b : α} : cond true a b = a := rfl
theorem zqd {α : Type} {a b : α} : cond false a b = b := rfl
def SA (A:Ar):Prop:=A=Ar.std
section
variable {p:Prop} {A:Ar} {m k t:Nat} {Q:Exit->St->Prop} {K R:St->Prop} {σ σ':St} {ops:Array Oper} {id:Nat} {c x y:Code} {ts sf:List Nat} {b:Bool} {l rest:List Oper} {f:FuncId} {fn:Func} {args:List AV} {o:Oper} {σ1:St} {H Hr H':List Obj} {r:AV} {d:Nat} {xs xs1:List Rec}
theorem zv (h:p:=by first|(cbv;done)|((repeat (cbv;simp only [*]));try cbv)):p:=h
theorem zu (h:p:=by (repeat (cbv;simp only [*]));try cbv):p:=h
theorem zc (h:p:=by cbv):p:=h
theorem zq (h:p:=by exact ⟨rfl,rfl,rfl,lb rfl,_,rfl⟩):p:=h
theorem zA (k:Q .normal σ') (an:Ann:={}) (hA:SA A:=by assumption) (h:runP A T an ops.toList ops.toList σ=.done σ':=by cbv) (hm:m<=σ.heap.length:=by exact lb rfl):AWp Try.prog m (.region id ops false) Q σ:=AWp.rg hT hA an h hm k
theorem zB (k:Q .normal σ') (an:Ann:={}) (hA:SA A:=by assumption) (h:runP A T an ops.toList ops.toList σ=.done σ':=by (repeat (cbv;simp only [*]));try cbv) (hm:m<=σ.heap.length:=by exact lb rfl):AWp Try.prog m (.region id ops false) Q σ:=AWp.rg hT hA an h hm k
theorem zC (hc:ACall Try.prog f args H r H') (k:AOps Try.prog m ops rest Q {σ1 with env:=eset σ1.env d r,heap:=H'++Hr}) (an:Ann:={}) (hA:SA A:=by assumption) (h:runP A T an ops.toList l σ=.call f args o rest σ1:=by cbv) (hm:m<=σ.heap.length:=by exact lb rfl) (hH:σ1.heap=H++Hr:=by exact rfl) (hr:Hr=[]\/H'.length=H.length:=by first|exact .inl rfl|exact .inr rfl) (hi:objsInb H.length H=true:=by exact rfl) (ha:inbL H.length args=true:=by exact rfl) (hd:o.dst=some d:=by exact rfl) (hl:d<σ1.n:=by exact lb rfl) (hb:(σ1.get d).isBox=false:=by exact rfl) (hf:args.all AV.free=true:=by exact rfl):AOps Try.prog m ops l Q σ:=AOps.cc hT hA an h hm hc hH hr hi ha hd hl hb hf k
theorem zD (hc:ACall Try.prog f args H r H') (k:AOps Try.prog m ops rest Q {σ1 with env:=eset σ1.env d r,heap:=H'++Hr}) (an:Ann:={}) (hA:SA A:=by assumption) (h:runP A T an ops.toList l σ=.call f args o rest σ1:=by (repeat (cbv;simp only [*]));try cbv) (hm:m<=σ.heap.length:=by exact lb rfl) (hH:σ1.heap=H++Hr:=by exact rfl) (hr:Hr=[]\/H'.length=H.length:=by first|exact .inl rfl|exact .inr rfl) (hi:objsInb H.length H=true:=by exact rfl) (ha:inbL H.length args=true:=by exact rfl) (hd:o.dst=some d:=by exact rfl) (hl:d<σ1.n:=by exact lb rfl) (hb:(σ1.get d).isBox=false:=by exact rfl) (hf:args.all AV.free=true:=by exact rfl):AOps Try.prog m ops l Q σ:=AOps.cc hT hA an h hm hc hH hr hi ha hd hl hb hf k
theorem zE (k:Q .normal σ') (an:Ann:={}) (hA:SA A:=by assumption) (h:runP A T an ops.toList l σ=.done σ':=by cbv) (hm:m<=σ.heap.length:=by exact lb rfl):AOps Try.prog m ops l Q σ:=AOps.cd hT hA an h hm k
theorem zF (k:Q .normal σ') (an:Ann:={}) (hA:SA A:=by assumption) (h:runP A T an ops.toList l σ=.done σ':=by (repeat (cbv;simp only [*]));try cbv) (hm:m<=σ.heap.length:=by exact lb rfl):AOps Try.prog m ops l Q σ:=AOps.cd hT hA an h hm k
theorem zT (h:AWp Try.prog m x Q σ) (hc:σ.get t=.d (.bool b):=by exact rfl) (hb:b=true:=by first|exact rfl|simp only [*,zqa,zqb,zqc,zqd]):AWp Try.prog m (.cond (.tmp t) x y) Q σ:=AWp.cdT hc hb h
theorem zU (h:AWp Try.prog m y Q σ) (hc:σ.get t=.d (.bool b):=by exact rfl) (hb:b=false:=by first|exact rfl|simp only [*,zqa,zqb,zqc,zqd]):AWp Try.prog m (.cond (.tmp t) x y) Q σ:=AWp.cdF hc hb h
theorem zO (h:σ.fits ts k=true:=by exact rfl) (g:R (σ.fitS ts sf k):=by first|(cbv;done)|((repeat (cbv;simp only [*]));try cbv)):AExit.onN ts sf k R Q .normal σ:=⟨h,g⟩
theorem zR (sel:List (Option Nat)) (ts:List Nat) (hm:okSel m sel 0=true:=by exact rfl) (h:σ.ren sel ts=some σ':=by first|(cbv;done)|((repeat (cbv;simp only [*]));try cbv)):Wk m σ σ':=Wk.ren sel ts hm h
theorem zI (hf:Try.prog.funcs[f]?=some fn) (h:AWp Try.prog H.length c (FnPost T fn H.length r H') {env:=envOf 0 args,heap:=H,n:=fn.ntmps}) (hb:fn.body=some c:=by exact rfl) (hn:fn.name≠"runtime.NumGoroutine":=by decide) (ha:args.length<=fn.ntmps:=by exact lb rfl) (hr:args.all AV.free=true:=by exact rfl) (h1:r.isLocal=false:=by exact rfl) (h2:r.inb H'.length=true:=by exact rfl) (h3:objsInb H'.length H'=true:=by exact rfl) (h4:H.length<=H'.length:=by exact lb rfl):ACall Try.prog f args H r H':=ACall.enter hT hf hb hn ha hr h1 h2 h3 h4 h
end
abbrev zs := @AWp.seq
abbrev zg := @AWp.rg
abbrev zr := @AWp.ret
abbrev zt := @AWp.cdT
abbrev zf := @AWp.cdF
abbrev zn := @AWp.region
abbrev zk := @AWp.skip
abbrev zb := @AWp.block
abbrev zi (x : Int) : AV := .d (.int .i64 x)
abbrev zl (k : Nat) (x : List D) : AV := .d (.list k x)
theorem E67w {A:Ar} (hA:SA A) {c e i:Int} {g:Bool} (h:E67 A c e i=some g):ACall Try.prog 67 [zi c,zi e,zi i] [] (.d (.bool g)) []:=by
 unfold E67 at h
 refine zI Try.func67 ?_
 refine zs ?_
 refine zA ?_
 refine nT (zs ?_)
 obtain ⟨j,a,h⟩:=bindS h
 refine AWp.cutN [6] [] 0 (lb rfl) (fun τ=>τ={ env:=[(6,.d (.bool j))],heap:=[],n:=15 }) ?_ ?_
 ·skip
  rcases tf (A.zle c e) with b | b
  ·replace a:=cT b a
   refine zB ?_ { tk:=[14] }
   cases soI a
   exact zO
  ·replace a:=cF b a
   refine zB ?_ { tk:=[14] }
   cases soI a
   exact zO
 ·rintro _ rfl
  refine nT (zr ?_)
  cases soI h
  exact zq

theorem E98w {A:Ar} (hA:SA A) {e g:List D} {c:Int} (h:E98 A e g=some c):ACall Try.prog 98 [zl 1 e,zl 1 g] [] (zi c) []:=by
 unfold E98 at h
 refine zI Try.func98 ?_
 refine zs ?_
 refine zA ?_
 refine nT (zs (zb (zs (zn ?_))))
 obtain ⟨k,i,h⟩:=bindS h
 refine zC (E20w hA i) ?_
 refine zE ?_
 refine nT ?_
 rcases tf k with a | a
 ·replace h:=cT a h
  refine zU ?_
  refine zs (zn ?_)
  obtain ⟨l,j,h⟩:=bindS h
  refine zD (E93w hA j) ?_
  refine zF ?_
  refine nT ?_
  rcases tf l with b | b
  ·replace h:=cT b h
   refine zU ?_
   refine zk (nB (nT (zs ?_)))
   refine zB ?_
   refine nT (zr ?_)
   cases soI h
   exact zq
  ·replace h:=cF b h
   refine zT ?_
   refine zs ?_
   refine zB ?_
   refine nT (zr (rB (rT ?_)))
   cases soI h
   exact zq
 ·replace h:=cF a h
  refine zT ?_
  refine zs ?_
  refine zB ?_
  refine nT (zr (rB (rT ?_)))
  cases soI h
  exact zq

theorem E105w {A:Ar} (hA:SA A) {e g i j l:Int} {k:Bool} (h:E105 A e g i j l=some k):ACall Try.prog 105 [.d (.agg [.int .i64 e,.int .i64 g]),.d (.agg [.int .i64 i,.int .i64 j,.int .i64 l])] [] (.d (.bool k)) []:=by
 unfold E105 at h
 refine zI Try.func105 ?_
 refine zs ?_
 refine zA ?_
 refine nT (zs ?_)
 obtain ⟨m,a,h⟩:=bindS h
 refine AWp.cutN [4] [] 0 (lb rfl) (fun τ=>τ={ env:=[(4,.d (.bool m))],heap:=[],n:=24 }) ?_ ?_
 ·skip
  rcases tf (A.zeq e i) with b | b
  ·replace a:=cT b a
   rcases tf (A.zle j g) with c | c
   ·replace a:=cT c a
    refine zB ?_ { tk:=[23] }
    cases soI a
    exact zO
   ·replace a:=cF c a
    refine zB ?_ { tk:=[23] }
    cases soI a
    exact zO
  ·replace a:=cF b a
   refine zB ?_ { tk:=[23] }
   cases soI a
   exact zO
 ·rintro _ rfl
  refine nT (zr ?_)
  cases soI h
  exact zq

theorem E134w {A:Ar} (hA:SA A) {b:Int} {a:Bool} (h:E134 A b=some a):ACall Try.prog 134 [zi b] [] (.d (.bool a)) []:=by
 unfold E134 at h
 refine zI Try.func134 ?_
 refine zs ?_
 refine zA ?_
 refine nT (zs ?_)
 refine zA ?_ { tk:=[5] }
 refine nT (zr ?_)
 cases soI h
 exact zq

theorem E109w {A:Ar} (hA:SA A) {a b l:Int} (h:E109 A a b=some l):ACall Try.prog 109 [zi a,zi b] [] (zi l) []:=by
 unfold E109 at h
 refine zI Try.func109 ?_
 refine zs ?_
 refine zA ?_
 refine nT (zs (zn ?_))
 obtain ⟨o,m,h⟩:=bindS h
 refine zC (E134w hA m) ?_
 refine zE ?_
 refine nT (zs (zn ?_))
 obtain ⟨k,n,h⟩:=bindS h
 refine zC (E134w hA n) ?_
 refine zE ?_
 refine nT (zs (zs ?_))
 refine zA ?_
 refine nT ?_
 rcases tf o with g | g
 ·replace h:=cT g h
  refine zT ?_
  refine zs (zs ?_)
  refine zB ?_
  refine nT ?_
  rcases tf k with i | i
  ·replace h:=cT i h
   refine zT ?_
   refine zs ?_
   refine zB ?_
   refine nT (zr (rT (rT ?_)))
   cases soI h
   exact zq
  ·replace h:=cF i h
   refine zU ?_
   refine zk (nT (zs ?_))
   refine zB ?_
   refine nT (zr (rT ?_))
   cases soI h
   exact zq
 ·replace h:=cF g h
  refine zU ?_
  refine zk (nT (zs (zs ?_)))
  refine zB ?_
  refine nT ?_
  rcases tf k with j | j
  ·replace h:=cT j h
   refine zT ?_
   refine zs ?_
   refine zB ?_
   refine nT (zr (rT ?_))
   cases soI h
   exact zq
  ·replace h:=cF j h
   refine zU ?_
   refine zk (nT (zs (zs ?_)))
   refine zB ?_
   refine nT ?_
   rcases tf (A.zlt a b) with c | c
   ·replace h:=cT c h
    refine zT ?_
    refine zs ?_
    refine zB ?_
    refine nT (zr (rT ?_))
    cases soI h
    exact zq
   ·replace h:=cF c h
    refine zU ?_
    refine zk (nT (zs (zs ?_)))
    refine zB ?_
    refine nT ?_
    rcases tf (A.zlt b a) with e | e
    ·replace h:=cT e h
     refine zT ?_
     refine zs ?_
     refine zB ?_
     refine nT (zr (rT ?_))
     cases soI h
     exact zq
    ·replace h:=cF e h
     refine zU ?_
     refine zk (nT (zs ?_))
     refine zB ?_
     refine nT (zr ?_)
     cases soI h
     exact zq

theorem E139w {A:Ar} (hA:SA A) {c:List D} {i:Int} (h:E139 A c=some i):ACall Try.prog 139 [zl 1 c] [] (zi i) []:=by
 unfold E139 at h
 refine zI Try.func139 ?_
 refine zs ?_
 refine zA ?_
 refine nT (zs ?_)
 refine zA ?_
 refine nT (zs (zs ?_))
 refine zA ?_
 refine nT (zb ?_)
 obtain ⟨u,p,l,k,b⟩:=bindK h
 refine AWp.cutX 0 [3] [] 0 (lb rfl) (fun τ=>l (.inl ())=some i/\τ={ env:=[(3,zi 0)],heap:=[],n:=18 }) ?_ ?_
 ·skip
  refine AWp.iter p [3,6,7,8] [] 0 (lb rfl) (fun j=>{ env:=[(3,zi 0),(6,zl 1 c),(7,(.d (.int .i64 (A.len c)))),(8,zi j)],heap:=[],n:=18 }) ⟨rfl,zc⟩ ?_
  rintro j q a
  dsimp only [E139L0] at a
  refine zs ?_
  refine zA ?_
  refine nT (zs ?_)
  rcases tf (A.zlt j (A.len c)) with g | g
  ·replace a:=cT g a
   refine zT ?_
   refine zk (nT (zs (zb (zs ?_))))
   obtain ⟨m,o,a⟩:=bindS a
   obtain ⟨r,s⟩:=gtI o
   refine zB ?_ { tk:=[11] }
   refine nT (zs ?_)
   refine zB ?_
   refine nT ?_
   rcases tf (A.zeq m 0) with e | e
   ·replace a:=cT e a
    refine zU ?_
    refine zk (nB (nT ?_))
    refine zB ?_
    exact nT ⟨_,(soI a).symm,rfl,zv⟩
   ·replace a:=cF e a
    refine zT ?_
    refine zs ?_
    refine zB ?_ { tk:=[5,15] }
    refine nT (zr (rB (rT (rT ?_))))
    refine exL a fun hx => ?_
    subst hx
    refine oxR ?_
    replace b:=(eR (k _ b))
    refine rB (rT ?_)
    cases soI b
    exact zq
  ·replace a:=cF g a
   refine zU ?_
   refine AWp.exit (xT (xT ?_))
   refine exL a fun hx => ?_
   subst hx
   exact oxI ⟨rfl,b,zv⟩
 ·rintro _ ⟨b,rfl⟩
  have h:=(eL (k _ b))
  refine xB (nT (zs ?_))
  refine zA ?_ { tk:=[3,17] }
  refine nT (zr ?_)
  cases soI h
  exact zq

theorem E138w {A:Ar} (hA:SA A) {b c e g a:Int} (h:E138 A b c e g=some a):ACall Try.prog 138 [.d (.agg [.int .i64 b,.int .i64 c]),.d (.agg [.int .i64 e,.int .i64 g])] [] (zi a) []:=by
 unfold E138 at h
 refine zI Try.func138 ?_
 refine zs ?_
 refine zA ?_
 refine nT (zs ?_)
 refine AWp.regionDraw rfl (lb rfl) ?_
 obtain ⟨m,i,h⟩:=bindS h
 refine DOps.c0 hT hA { tk:=[16] } rfl zc (E109w hA i) rfl rfl (lb rfl) rfl rfl ?_
 obtain ⟨n,j,h⟩:=bindS h
 refine DOps.c0 hT hA { tk:=[16] } rfl zc (E109w hA j) rfl rfl (lb rfl) rfl rfl ?_
 obtain ⟨l,k,h⟩:=bindS h
 refine DOps.c0 hT hA { tk:=[16] } rfl zc (E139w hA k) rfl rfl (lb rfl) rfl rfl ?_
 refine DOps.cd hT hA { tk:=[16] } rfl zc (by kernel_rfl) ?_
 refine nT (zr ?_)
 cases soI h
 exact zq

theorem E137w {A:Ar} (hA:SA A) {c e:List D} {o:Int} (h:E137 A c e=some o):ACall Try.prog 137 [zl 2 c,zl 2 e,(.func 138 [] [])] [] (zi o) []:=by
 unfold E137 at h
 refine zI Try.func137 ?_
 refine zs ?_
 refine zA ?_
 refine nT (zs (zs ?_))
 refine zA ?_
 refine nT (zb ?_)
 obtain ⟨K,u,p,m,b⟩:=bindK h
 refine AWp.cutX 0 [0,1] [] 0 (lb rfl) (fun τ=>p (.inl ())=some o/\τ={ env:=[(0,zl 2 c),(1,zl 2 e)],heap:=[],n:=39 }) ?_ ?_
 ·skip
  refine AWp.iter u [0,1,2,11,12,13] [] 0 (lb rfl) (fun g=>{ env:=[(0,zl 2 c),(1,zl 2 e),(2,(.func 138 [] [])),(11,zl 2 c),(12,(.d (.int .i64 (A.len c)))),(13,zi g)],heap:=[],n:=39 }) ⟨rfl,zc⟩ ?_
  rintro g C a
  dsimp only [E137L0] at a
  refine zs ?_
  refine zA ?_
  refine nT (zs ?_)
  rcases tf (A.zlt g (A.len c)) with i | i
  ·replace a:=cT i a
   refine zT ?_
   refine zk (nT (zs (zb (zs ?_))))
   obtain ⟨⟨w,y⟩,q,a⟩:=bindS a
   obtain ⟨E,F⟩:=gtI q
   refine zB ?_ { tk:=[17] }
   refine nT (zs (zs ?_))
   refine zB ?_
   refine nT ?_
   rcases tf (A.zle (A.len e) g) with j | j
   ·replace a:=cT j a
    refine zT ?_
    refine zs ?_
    refine zB ?_
    refine nT (zr (rT (rB (rT (rT ?_)))))
    refine exL a fun hx => ?_
    subst hx
    refine oxR ?_
    replace b:=(eR (m _ b))
    refine rB (rT ?_)
    cases soI b
    exact zq
   ·replace a:=cF j a
    refine zU ?_
    refine zk (nT (zs ?_))
    obtain ⟨⟨z,B⟩,r,a⟩:=bindS a
    obtain ⟨G,J⟩:=gtI r
    refine zB ?_ { tk:=[25] }
    refine nT (zs (zn ?_))
    obtain ⟨v,s,a⟩:=bindS a
    refine zD (E138w hA s) ?_ { tk:=[29] }
    refine zF ?_ { tk:=[29] }
    refine nT (zs ?_)
    refine zB ?_
    refine nT ?_
    rcases tf (A.zeq v 0) with k | k
    ·replace a:=cT k a
     refine zU ?_
     refine zk (nB (nT ?_))
     refine zB ?_
     exact nT ⟨_,(soI a).symm,rfl,zv⟩
    ·replace a:=cF k a
     refine zT ?_
     refine zs ?_
     refine zB ?_ { tk:=[10,32] }
     refine nT (zr (rB (rT (rT ?_))))
     refine exL a fun hx => ?_
     subst hx
     refine oxR ?_
     replace b:=(eR (m _ b))
     refine rB (rT ?_)
     cases soI b
     exact zq
  ·replace a:=cF i a
   refine zU ?_
   refine AWp.exit (xT (xT ?_))
   refine exL a fun hx => ?_
   subst hx
   exact oxI ⟨rfl,b,zv⟩
 ·rintro _ ⟨b,rfl⟩
  have h:=(eL (m _ b))
  refine xB (nT (zs (zs ?_)))
  refine zA ?_
  refine nT ?_
  rcases tf (A.zlt (A.len c) (A.len e)) with l | l
  ·replace h:=cT l h
   refine zT ?_
   refine zs ?_
   refine zB ?_
   refine nT (zr (rT ?_))
   cases soI h
   exact zq
  ·replace h:=cF l h
   refine zU ?_
   refine zk (nT (zs ?_))
   refine zB ?_
   refine nT (zr ?_)
   cases soI h
   exact zq

theorem E130w {A:Ar} (hA:SA A) {b c:List D} {a:Int} (h:E130 A b c=some a):ACall Try.prog 130 [zl 2 b,zl 2 c] [] (zi a) []:=by
 unfold E130 at h
 refine zI Try.func130 ?_
 refine zs ?_
 refine zA ?_
 refine nT (zs (zn ?_))
 obtain ⟨g,e,h⟩:=bindS h
 refine zC (E137w hA e) ?_ { tk:=[7] }
 refine zE ?_ { tk:=[7] }
 refine nT (zr ?_)
 cases soI h
 exact zq

theorem E99w {A:Ar} (hA:SA A) {R j k L:List D} (h:E99 A R j k=some L):ACall Try.prog 99 [zl 1 R,zl 1 j,zl 3 k] [] (.own 2 L) []:=by
 unfold E99 at h
 refine zI Try.func99 ?_
 refine zs ?_
 refine zA ?_
 refine nT (zs (zn ?_))
 obtain ⟨a,V,h⟩:=bindS h
 refine zC (E104w hA V) ?_
 refine zE ?_
 refine nT (zs ?_)
 refine zA ?_
 refine nT (zs (zs ?_))
 obtain ⟨_,W,h⟩:=bindS h
 have f7:=nkI W
 refine zB ?_
 refine nT (zb ?_)
 obtain ⟨d1,i0,S,e0,F⟩:=bindK h
 refine AWp.cutX 0 [8] [] 0 (lb rfl) (fun τ => ∃ K,S K=some L/\τ={ env:=[(8,(.own 2 K))],heap:=[],n:=70 }) ?_ ?_
 ·skip
  refine AWp.iter i0 [1,2,7,8,9,10,20,21] [] 0 (lb rfl) (fun (p,m,q,g)=>{ env:=[(1,zl 1 j),(2,zl 3 k),(7,zl 2 a),(8,(.own 2 p)),(9,zi m),(10,.d (.bool q)),(20,(.d (.int .i64 (A.shl .i64 1 (A.len a))))),(21,zi g)],heap:=[],n:=70 }) ⟨rfl,zc⟩ ?_
  rintro ⟨p,m,q,g⟩ s0 i
  dsimp only [E99L1] at i
  refine zs ?_
  refine zA ?_
  refine nT (zs ?_)
  rcases tf (A.zlt g (A.shl .i64 1 (A.len a))) with v | v
  ·replace i:=cT v i
   refine zT ?_
   refine zk (nT (zs ?_))
   obtain ⟨⟨N,O,P⟩,c,i⟩:=bindS i
   refine AWp.cutN [1,2,7,8,9,10,20,21] [] 0 (lb rfl) (fun τ=>τ={ env:=[(1,zl 1 j),(2,zl 3 k),(7,zl 2 a),(8,(.own 2 N)),(9,zi O),(10,.d (.bool P)),(20,(.d (.int .i64 (A.shl .i64 1 (A.len a))))),(21,zi g)],heap:=[],n:=70 }) ?_ ?_
   ·skip
    refine zb (zs ?_)
    refine zB ?_
    refine nT (zs ?_)
    refine zB ?_
    refine nT (zs (zs ?_))
    refine zB ?_
    refine nT (zb ?_)
    obtain ⟨e1,j0,U,g0,G⟩:=bindK c
    refine AWp.cutX 2 [1,2,7,8,9,10,12,20,21] [] 0 (lb rfl) (fun τ => ∃ s,U s=some (N,O,P)/\τ={ env:=[(1,zl 1 j),(2,zl 3 k),(7,zl 2 a),(8,(.own 2 p)),(9,zi m),(10,.d (.bool q)),(12,(.own 2 s)),(20,(.d (.int .i64 (A.shl .i64 1 (A.len a))))),(21,zi g)],heap:=[],n:=70 }) ?_ ?_
    ·skip
     refine AWp.iter j0 [1,2,7,8,9,10,11,12,20,21,24,25,26] [] 0 (lb rfl) (fun (Q,r)=>{ env:=[(1,zl 1 j),(2,zl 3 k),(7,zl 2 a),(8,(.own 2 p)),(9,zi m),(10,.d (.bool q)),(11,zi g),(12,(.own 2 Q)),(20,(.d (.int .i64 (A.shl .i64 1 (A.len a))))),(21,zi g),(24,zl 2 a),(25,(.d (.int .i64 (A.len a)))),(26,zi r)],heap:=[],n:=70 }) ⟨rfl,zv⟩ ?_
     rintro ⟨Q,r⟩ u0 e
     dsimp only [E99L0] at e
     refine zs ?_
     refine zA ?_
     refine nT (zs ?_)
     rcases tf (A.zlt r (A.len a)) with w | w
     ·replace e:=cT w e
      refine zT ?_
      refine zk (nT (zs (zb (zs ?_))))
      obtain ⟨⟨q0,r0⟩,X,e⟩:=bindS e
      obtain ⟨v0,w0⟩:=gtI X
      refine zB ?_ { tk:=[30] }
      refine nT (zs ?_)
      obtain ⟨_,Y,e⟩:=bindS e
      have y0:=nkI Y
      refine zB ?_
      refine nT ?_
      obtain ⟨p0,l,e⟩:=bindS e
      refine AWp.cutN [1,2,7,8,9,10,11,12,20,21,24,25,26] [] 0 (lb rfl) (fun τ=>τ={ env:=[(1,zl 1 j),(2,zl 3 k),(7,zl 2 a),(8,(.own 2 p)),(9,zi m),(10,.d (.bool q)),(11,zi g),(12,(.own 2 p0)),(20,(.d (.int .i64 (A.shl .i64 1 (A.len a))))),(21,zi g),(24,zl 2 a),(25,(.d (.int .i64 (A.len a)))),(26,zi r)],heap:=[],n:=70 }) ?_ ?_
      ·skip
       rcases tf (A.zeq (A.bits .and .i64 (A.shr .i64 g r) 1) 1) with y | y
       ·replace l:=cT y l
        refine zT ?_
        obtain ⟨b1,a0,l⟩:=bindS l
        obtain ⟨z0,a1⟩:=apI a0
        refine zB ?_ { tk:=[12,39] }
        cases soI l
        exact zO
       ·replace l:=cF y l
        refine zU ?_
        refine zk ?_
        cases soI l
        exact zO
      ·rintro _ rfl
       refine nB (nT ?_)
       refine zA ?_
       exact nT ⟨_,(soI e).symm,rfl,zc⟩
     ·replace e:=cF w e
      refine zU ?_
      refine AWp.exit (xT (xT ?_))
      refine exL e fun hx => ?_
      subst hx
      exact oxI ⟨rfl,_,G,zv⟩
    ·rintro _ ⟨s,G,rfl⟩
     have c:=(g0 _ G)
     refine xB (nT (zs (zs (zn ?_))))
     obtain ⟨k0,b0,c⟩:=bindS c
     refine zC (E91w hA b0) ?_
     refine zE ?_
     refine nT ?_
     rcases tf k0 with z | z
     ·replace c:=cT z c
      refine zU ?_
      refine zk (nT (zs (zn ?_)))
      obtain ⟨J,c0,c⟩:=bindS c
      refine zD (E94w hA c0) ?_
      refine zF ?_
      refine nT (zs ?_)
      obtain ⟨⟨l0,M⟩,b,c⟩:=bindS c
      refine AWp.cutN [1,2,7,8,9,10,12,15,20,21,65] [] 0 (lb rfl) (fun τ=>τ={ env:=[(1,zl 1 j),(2,zl 3 k),(7,zl 2 a),(8,(.own 2 p)),(9,zi m),(10,.d (.bool l0)),(12,(.own 2 s)),(15,zi J),(20,(.d (.int .i64 (A.shl .i64 1 (A.len a))))),(21,zi g),(65,.d (.bool M))],heap:=[],n:=70 }) ?_ ?_
      ·skip
       refine zn ?_
       rcases tf q with B | B
       ·replace b:=cT B b
        rcases tf (A.zlt J m) with C | C
        ·replace b:=cT C b
         refine zF ?_
         cases soI b
         exact zO
        ·replace b:=cF C b
         rcases tf (A.zeq J m) with E | E
         ·replace b:=cT E b
          obtain ⟨c1,d0,b⟩:=bindS b
          refine zD (E130w hA d0) ?_
          refine zF ?_
          cases soI b
          exact zO
         ·replace b:=cF E b
          refine zF ?_
          cases soI b
          exact zO
       ·replace b:=cF B b
        refine zF ?_
        cases soI b
        exact zO
      ·rintro _ rfl
       refine nT ?_
       obtain ⟨⟨m0,n0,o0⟩,o,c⟩:=bindS c
       refine AWp.cutN [1,2,7,8,9,10,20,21] [] 0 (lb rfl) (fun τ=>τ={ env:=[(1,zl 1 j),(2,zl 3 k),(7,zl 2 a),(8,(.own 2 m0)),(9,zi n0),(10,.d (.bool o0)),(20,(.d (.int .i64 (A.shl .i64 1 (A.len a))))),(21,zi g)],heap:=[],n:=70 }) ?_ ?_
       ·skip
        rcases tf M with u | u
        ·replace o:=cT u o
         refine zT ?_
         refine zB ?_ { tk:=[12,66] }
         cases soI o
         exact zO
        ·replace o:=cF u o
         refine zU ?_
         refine zk ?_
         cases soI o
         exact zO
       ·rintro _ rfl
        refine nB ?_
        cases soI c
        exact zO
     ·replace c:=cF z c
      refine zT ?_
      refine AWp.exit (xT (xB ?_))
      cases soI c
      exact zO
   ·rintro _ rfl
    refine nT ?_
    refine zA ?_
    exact nT ⟨_,(soI i).symm,rfl,zc⟩
  ·replace i:=cF v i
   refine zU ?_
   refine AWp.exit (xT (xT ?_))
   refine exL i fun hx => ?_
   subst hx
   exact oxI ⟨rfl,_,F,zv⟩
 ·rintro _ ⟨K,F,rfl⟩
  have h:=(e0 _ F)
  refine xB (nT (zs ?_))
  refine zA ?_ { tk:=[8,69] }
  refine nT (zr ?_)
  cases soI h
  exact zq

theorem E53w {A:Ar} (hA:SA A) {o p k:List D} {l:Int} (h:E53 A o p=some (k,l)):ACall Try.prog 53 [zl 1 o,zl 1 p] [] (.tuple [zl 2 k,zi l]) []:=by
 unfold E53 at h
 refine zI Try.func53 ?_
 refine zs ?_
 refine zA ?_
 refine nT (zs (zs (zn ?_)))
 obtain ⟨B,u,h⟩:=bindS h
 refine zC (E98w hA u) ?_
 refine zE ?_
 refine nT (zs ?_)
 refine zA ?_
 refine nT ?_
 rcases tf (A.zeq B 0) with c | c
 ·replace h:=cT c h
  refine zU ?_
  refine zk (nT (zs ?_))
  refine zB ?_
  refine nT (zs (zs (zn ?_)))
  obtain ⟨N,v,h⟩:=bindS h
  refine zD (E77w hA v) ?_
  obtain ⟨g,w,h⟩:=bindS h
  refine zD (E99w hA w) ?_
  refine zF ?_
  refine nT (zb ?_)
  obtain ⟨O,z,q,y,e⟩:=bindK h
  refine AWp.cutX 0 [7] [] 0 (lb rfl) (fun τ => ∃ j,q j=some (k,l)/\τ={ env:=[(7,(.own 2 j))],heap:=[],n:=32 }) ?_ ?_
  ·skip
   refine AWp.iter z [7,20,21,22] [] 0 (lb rfl) (fun (m,i)=>{ env:=[(7,(.own 2 m)),(20,(.own 2 g)),(21,(.d (.int .i64 (A.len g)))),(22,zi i)],heap:=[],n:=32 }) ⟨rfl,zv⟩ ?_
   rintro ⟨m,i⟩ F a
   dsimp only [E53L0] at a
   refine zs ?_
   refine zA ?_
   refine nT (zs ?_)
   rcases tf (A.zlt i (A.len g)) with b | b
   ·replace a:=cT b a
    refine zT ?_
    refine zk (nT (zs (zb (zs ?_))))
    obtain ⟨⟨C,E⟩,r,a⟩:=bindS a
    obtain ⟨G,J⟩:=gtI r
    refine zB ?_ { tk:=[25] }
    refine nT ?_
    obtain ⟨M,s,a⟩:=bindS a
    obtain ⟨K,L⟩:=apI s
    refine zB ?_ { tk:=[7,29] }
    refine nB (nT ?_)
    refine zB ?_
    exact nT ⟨_,(soI a).symm,rfl,zv⟩
   ·replace a:=cF b a
    refine zU ?_
    refine AWp.exit (xT (xT ?_))
    refine exL a fun hx => ?_
    subst hx
    exact oxI ⟨rfl,_,e,zv⟩
  ·rintro _ ⟨j,e,rfl⟩
   have h:=(y _ e)
   refine xB (nT (zs ?_))
   refine zA ?_
   refine nT (zr ?_)
   cases soI h
   exact zq
 ·replace h:=cF c h
  refine zT ?_
  refine zs ?_
  refine zB ?_
  refine nT (zr (rT ?_))
  cases soI h
  exact zq

theorem E50w {A:Ar} (hA:SA A) {g c:List D} {w:Bool} (h:E50 A g c=some w):ACall Try.prog 50 [zl 1 g,zl 1 c] [] (.d (.bool w)) []:=by
 unfold E50 at h
 refine zI Try.func50 ?_
 refine zs ?_
 refine zA ?_
 refine nT (zs (zs ?_))
 refine zA ?_
 refine nT ?_
 rcases tf (A.zeq (A.len c) (A.len g)) with o | o
 ·replace h:=cT o h
  refine zU ?_
  refine zk (nT (zs (zs ?_)))
  refine zB ?_
  refine nT (zb ?_)
  obtain ⟨X,N,C,v,e⟩:=bindK h
  refine AWp.cutX 0 [] [] 0 (lb rfl) (fun τ=>C (.inl ())=some w/\τ={ env:=[],heap:=[],n:=45 }) ?_ ?_
  ·skip
   refine AWp.iter N [0,14,15,16] [] 0 (lb rfl) (fun l=>{ env:=[(0,zl 1 g),(14,zl 1 c),(15,(.d (.int .i64 (A.len c)))),(16,zi l)],heap:=[],n:=45 }) ⟨rfl,zv⟩ ?_
   rintro l L a
   dsimp only [E50L1] at a
   refine zs ?_
   refine zA ?_
   refine nT (zs ?_)
   rcases tf (A.zlt l (A.len c)) with p | p
   ·replace a:=cT p a
    refine zT ?_
    refine zk (nT (zs (zb (zs ?_))))
    obtain ⟨i,G,a⟩:=bindS a
    obtain ⟨P,Q⟩:=gtI G
    refine zB ?_
    refine nT (zs (zs ?_))
    obtain ⟨E,J,a⟩:=bindS a
    obtain ⟨R,S⟩:=gtI J
    refine zB ?_
    refine nT ?_
    rcases tf (A.zeq (A.len i) (A.zmax (A.wrp .i64 (A.zsub (A.len E) 1)) 0)) with q | q
    ·replace a:=cT q a
     refine zU ?_
     refine zk (nT (zs ?_))
     refine zB ?_
     refine nT (zb ?_)
     obtain ⟨W,M,B,y,j⟩:=bindK a
     refine AWp.cutX 2 [0,14,15,16] [] 0 (lb rfl) (fun τ=>B (.inl ())=some L/\τ={ env:=[(0,zl 1 g),(14,zl 1 c),(15,(.d (.int .i64 (A.len c)))),(16,zi l)],heap:=[],n:=45 }) ?_ ?_
     ·skip
      refine AWp.iter M [0,14,15,16,31,32,33] [] 0 (lb rfl) (fun m=>{ env:=[(0,zl 1 g),(14,zl 1 c),(15,(.d (.int .i64 (A.len c)))),(16,zi l),(31,zl 1 i),(32,(.d (.int .i64 (A.len i)))),(33,zi m)],heap:=[],n:=45 }) ⟨rfl,zv⟩ ?_
      rintro m O b
      dsimp only [E50L0] at b
      refine zs ?_
      refine zA ?_
      refine nT (zs ?_)
      rcases tf (A.zlt m (A.len i)) with r | r
      ·replace b:=cT r b
       refine zT ?_
       refine zk (nT (zs (zb (zs ?_))))
       obtain ⟨F,K,b⟩:=bindS b
       obtain ⟨U,V⟩:=gtI K
       refine zB ?_
       refine nT (zs ?_)
       obtain ⟨z,k,b⟩:=bindS b
       refine AWp.cutN [0,14,15,16,31,32,33,42] [] 0 (lb rfl) (fun τ=>τ={ env:=[(0,zl 1 g),(14,zl 1 c),(15,(.d (.int .i64 (A.len c)))),(16,zi l),(31,zl 1 i),(32,(.d (.int .i64 (A.len i)))),(33,zi m),(42,.d (.bool z))],heap:=[],n:=45 }) ?_ ?_
       ·skip
        rcases tf (A.zlt F 1) with s | s
        ·replace k:=cT s k
         refine zB ?_
         cases soI k
         exact zO
        ·replace k:=cF s k
         refine zB ?_
         cases soI k
         exact zO
       ·rintro _ rfl
        refine nT ?_
        rcases tf z with u | u
        ·replace b:=cT u b
         refine zT ?_
         refine zs ?_
         refine zB ?_
         refine nT (zr (rB (rT (rT ?_))))
         refine exL b fun hx => ?_
         subst hx
         refine oxR ?_
         replace j:=(eR (y _ j))
         refine rB (rB (rT (rT ?_)))
         refine exL j fun hx => ?_
         subst hx
         refine oxR ?_
         replace e:=(eR (v _ e))
         refine rB (rT ?_)
         cases soI e
         exact zq
        ·replace b:=cF u b
         refine zU ?_
         refine zk (nB (nT ?_))
         refine zB ?_
         exact nT ⟨_,(soI b).symm,rfl,zv⟩
      ·replace b:=cF r b
       refine zU ?_
       refine AWp.exit (xT (xT ?_))
       refine exL b fun hx => ?_
       subst hx
       exact oxI ⟨rfl,j,zv⟩
     ·rintro _ ⟨j,rfl⟩
      have a:=(eL (y _ j))
      refine xB (nB (nT ?_))
      refine zA ?_
      exact nT ⟨_,(soI a).symm,rfl,zc⟩
    ·replace a:=cF q a
     refine zT ?_
     refine zs ?_
     refine zB ?_
     refine nT (zr (rT (rB (rT (rT ?_)))))
     refine exL a fun hx => ?_
     subst hx
     refine oxR ?_
     replace e:=(eR (v _ e))
     refine rB (rT ?_)
     cases soI e
     exact zq
   ·replace a:=cF p a
    refine zU ?_
    refine AWp.exit (xT (xT ?_))
    refine exL a fun hx => ?_
    subst hx
    exact oxI ⟨rfl,e,zv⟩
  ·rintro _ ⟨e,rfl⟩
   have h:=(eL (v _ e))
   refine xB (nT (zs ?_))
   refine zA ?_
   refine nT (zr ?_)
   cases soI h
   exact zq
 ·replace h:=cF o h
  refine zT ?_
  refine zs ?_
  refine zB ?_
  refine nT (zr (rT ?_))
  cases soI h
  exact zq

theorem E60w {A:Ar} (hA:SA A) {c p:List D} (h:E60 A c=some p):ACall Try.prog 60 [zl 1 c] [] (.own 2 p) []:=by
 unfold E60 at h
 refine zI Try.func60 ?_
 refine zs ?_
 refine zA ?_
 refine nT (zs ?_)
 refine zA ?_
 refine nT (zs (zs ?_))
 refine zA ?_
 refine nT (zb ?_)
 obtain ⟨P,F,v,C,k⟩:=bindK h
 refine AWp.cutX 0 [3] [] 0 (lb rfl) (fun τ => ∃ o,v o=some p/\τ={ env:=[(3,(.own 2 o))],heap:=[],n:=30 }) ?_ ?_
 ·skip
  refine AWp.iter F [3,7,8,9] [] 0 (lb rfl) (fun (r,e)=>{ env:=[(3,(.own 2 r)),(7,zl 1 c),(8,(.d (.int .i64 (A.len c)))),(9,zi e)],heap:=[],n:=30 }) ⟨rfl,zc⟩ ?_
  rintro ⟨r,e⟩ z a
  dsimp only [E60L1] at a
  refine zs ?_
  refine zA ?_
  refine nT (zs ?_)
  rcases tf (A.zlt e (A.len c)) with g | g
  ·replace a:=cT g a
   refine zT ?_
   refine zk (nT (zs (zb (zs ?_))))
   obtain ⟨q,w,a⟩:=bindS a
   obtain ⟨J,K⟩:=gtI w
   refine zB ?_
   refine nT (zs ?_)
   refine zB ?_
   refine nT (zb ?_)
   obtain ⟨O,E,u,B,j⟩:=bindK a
   refine AWp.cutX 2 [3,7,8,9] [] 0 (lb rfl) (fun τ => ∃ m,u m=some z/\τ={ env:=[(3,(.own 2 m)),(7,zl 1 c),(8,(.d (.int .i64 (A.len c)))),(9,zi e)],heap:=[],n:=30 }) ?_ ?_
   ·skip
    refine AWp.iter E [3,4,7,8,9,17,18] [] 0 (lb rfl) (fun (s,l)=>{ env:=[(3,(.own 2 s)),(4,zi e),(7,zl 1 c),(8,(.d (.int .i64 (A.len c)))),(9,zi e),(17,(.d (.int .i64 (A.zmax (A.wrp .i64 (A.zsub (A.len q) 1)) 0)))),(18,zi l)],heap:=[],n:=30 }) ⟨rfl,zv⟩ ?_
    rintro ⟨s,l⟩ G b
    dsimp only [E60L0] at b
    refine zs ?_
    refine zA ?_
    refine nT (zs ?_)
    rcases tf (A.zlt l (A.zmax (A.wrp .i64 (A.zsub (A.len q) 1)) 0)) with i | i
    ·replace b:=cT i b
     refine zT ?_
     refine zk (nT (zs (zb (zs ?_))))
     refine zB ?_
     refine nT ?_
     obtain ⟨N,y,b⟩:=bindS b
     obtain ⟨L,M⟩:=apI y
     refine zB ?_ { tk:=[3,26] }
     refine nB (nT ?_)
     refine zB ?_
     exact nT ⟨_,(soI b).symm,rfl,zv⟩
    ·replace b:=cF i b
     refine zU ?_
     refine AWp.exit (xT (xT ?_))
     refine exL b fun hx => ?_
     subst hx
     exact oxI ⟨rfl,_,j,zv⟩
   ·rintro _ ⟨m,j,rfl⟩
    have a:=(B _ j)
    refine xB (nB (nT ?_))
    refine zA ?_
    exact nT ⟨_,(soI a).symm,rfl,zc⟩
  ·replace a:=cF g a
   refine zU ?_
   refine AWp.exit (xT (xT ?_))
   refine exL a fun hx => ?_
   subst hx
   exact oxI ⟨rfl,_,k,zv⟩
 ·rintro _ ⟨o,k,rfl⟩
  have h:=(C _ k)
  refine xB (nT (zs ?_))
  refine zA ?_ { tk:=[3,29] }
  refine nT (zr ?_)
  cases soI h
  exact zq

theorem E52w {A:Ar} (hA:SA A) {e g:List D} {b c:Int} (h:E52 A e g=some (b,c)):ACall Try.prog 52 [zl 1 e,zl 1 g] [] (.tuple [zi b,zi c]) []:=by
 unfold E52 at h
 refine zI Try.func52 ?_
 refine zs ?_
 refine zA ?_
 refine nT (zs (zs (zn ?_)))
 obtain ⟨m,j,h⟩:=bindS h
 refine zC (E98w hA j) ?_
 refine zE ?_
 refine nT (zs ?_)
 refine zA ?_
 refine nT ?_
 rcases tf (A.zeq m 0) with a | a
 ·replace h:=cT a h
  refine zU ?_
  refine zk (nT (zs (zn ?_)))
  obtain ⟨o,k,h⟩:=bindS h
  refine zD (E77w hA k) ?_
  obtain ⟨p,l,h⟩:=bindS h
  refine zD (E99w hA l) ?_
  obtain ⟨n,i,h⟩:=bindS h
  refine zD (E94w hA i) ?_
  refine zF ?_
  refine nT (zr ?_)
  cases soI h
  exact zq
 ·replace h:=cF a h
  refine zT ?_
  refine zs ?_
  refine zB ?_
  refine nT (zr (rT ?_))
  cases soI h
  exact zq

theorem E103w {A:Ar} (hA:SA A) {b:Int} {a:Bool} (h:E103 A b=some a):ACall Try.prog 103 [zi b] [] (.d (.bool a)) []:=by
 unfold E103 at h
 refine zI Try.func103 ?_
 refine zs ?_
 refine zA ?_
 refine nT (zs (zn ?_))
 obtain ⟨e,c,h⟩:=bindS h
 refine zC (E67w hA c) ?_ { tk:=[5] }
 refine zE ?_ { tk:=[5] }
 refine nT (zr ?_)
 cases soI h
 exact zq

theorem E132aw {A:Ar} (hA:SA A) {c:List D} {j:Int} (h:E132a A c=some j):ACall Try.prog 132 [zl 1 c,(.func 103 [] [])] [] (zi j) []:=by
 unfold E132a at h
 refine zI Try.func132 ?_
 refine zs ?_
 refine zA ?_
 refine nT (zs (zs ?_))
 refine zA ?_
 refine nT (zb ?_)
 obtain ⟨w,p,l,k,b⟩:=bindK h
 refine AWp.cutX 0 [] [] 0 (lb rfl) (fun τ=>l (.inl ())=some j/\τ={ env:=[],heap:=[],n:=19 }) ?_ ?_
 ·skip
  refine AWp.iter p [0,1,7,8] [] 0 (lb rfl) (fun i=>{ env:=[(0,zl 1 c),(1,(.func 103 [] [])),(7,(.d (.int .i64 (A.len c)))),(8,zi i)],heap:=[],n:=19 }) ⟨rfl,zc⟩ ?_
  rintro i s a
  dsimp only [E132aL0] at a
  refine zs ?_
  refine zA ?_
  refine nT (zs ?_)
  rcases tf (A.zlt i (A.len c)) with e | e
  ·replace a:=cT e a
   refine zT ?_
   refine zk (nT (zs (zb (zs ?_))))
   refine zB ?_ { tk:=[8,10] }
   refine nT (zs (zn ?_))
   obtain ⟨r,m,a⟩:=bindS a
   obtain ⟨u,v⟩:=gtI m
   obtain ⟨q,o,a⟩:=bindS a
   refine zD (E103w hA o) ?_
   refine zF ?_
   refine nT ?_
   rcases tf q with g | g
   ·replace a:=cT g a
    refine zT ?_
    refine zs ?_
    refine zB ?_ { tk:=[5,17] }
    refine nT (zr (rB (rT (rT ?_))))
    refine exL a fun hx => ?_
    subst hx
    refine oxR ?_
    replace b:=(eR (k _ b))
    refine rB (rT ?_)
    cases soI b
    exact zq
   ·replace a:=cF g a
    refine zU ?_
    refine zk (nB (nT ?_))
    refine zB ?_ { tk:=[18] }
    exact nT ⟨_,(soI a).symm,rfl,zv⟩
  ·replace a:=cF e a
   refine zU ?_
   refine AWp.exit (xT (xT ?_))
   refine exL a fun hx => ?_
   subst hx
   exact oxI ⟨rfl,b,zv⟩
 ·rintro _ ⟨b,rfl⟩
  have h:=(eL (k _ b))
  refine xB (nT (zs ?_))
  refine zA ?_
  refine nT (zr ?_)
  cases soI h
  exact zq

theorem E102aw {A:Ar} (hA:SA A) {b:List D} {a:Bool} (h:E102a A b=some a):ACall Try.prog 102 [zl 1 b,(.func 103 [] [])] [] (.d (.bool a)) []:=by
 unfold E102a at h
 refine zI Try.func102 ?_
 refine zs ?_
 refine zA ?_
 refine nT (zs (zn ?_))
 obtain ⟨e,c,h⟩:=bindS h
 refine zC (E132aw hA c) ?_ { tk:=[8] }
 refine zE ?_ { tk:=[8] }
 refine nT (zr ?_)
 cases soI h
 exact zq

theorem E57w {A:Ar} (hA:SA A) {N m e:List D} {l:Int} {s:Bool} {u:Int} (h:E57 A N m e l=some (s,u)):ACall Try.prog 57 [zl 1 N,zl 1 m,zl 1 e,zi l] [] (.tuple [.d (.bool s),zi u]) []:=by
 unfold E57 at h
 refine zI Try.func57 ?_
 refine zs ?_
 refine zA ?_
 refine nT (zs (zs (zn ?_)))
 obtain ⟨r6,e5,h⟩:=bindS h
 refine zC (E98w hA e5) ?_
 refine zE ?_
 refine nT (zs ?_)
 refine zA ?_
 refine nT ?_
 rcases tf (A.zeq r6 0) with F | F
 ·replace h:=cT F h
  refine zU ?_
  refine zk (nT (zs (zn ?_)))
  obtain ⟨g,e8,h⟩:=bindS h
  refine zD (E77w hA e8) ?_
  refine zF ?_
  refine nT (zs (zs ?_))
  obtain ⟨U,b,h⟩:=bindS h
  refine AWp.cutN [0,1,2,3,11,40] [] 0 (lb rfl) (fun τ=>τ={ env:=[(0,zl 1 N),(1,zl 1 m),(2,zl 1 e),(3,zi l),(11,zl 3 g),(40,.d (.bool U))],heap:=[],n:=89 }) ?_ ?_
  ·skip
   refine zn ?_
   rcases tf (A.zeq (A.len e) (A.len g)) with v | v
   ·replace b:=cT v b
    obtain ⟨s0,a0,b⟩:=bindS b
    refine zD (E102aw hA a0) ?_
    rcases tf s0 with B | B
    ·replace b:=cT B b
     refine zF ?_
     cases soI b
     exact zO
    ·replace b:=cF B b
     obtain ⟨u1,e0,b⟩:=bindS b
     refine zD (E67w hA e0) ?_
     refine zF ?_
     cases soI b
     exact zO
   ·replace b:=cF v b
    refine zF ?_
    cases soI b
    exact zO
  ·rintro _ rfl
   refine nT ?_
   rcases tf U with E | E
   ·replace h:=cT E h
    refine zT ?_
    refine zs ?_
    refine zB ?_
    refine nT (zr (rT ?_))
    cases soI h
    exact zq
   ·replace h:=cF E h
    refine zU ?_
    refine zk (nT (zs (zs (zn ?_))))
    obtain ⟨j,g0,h⟩:=bindS h
    refine zD (E104w hA g0) ?_
    refine zF ?_
    refine nT (zb ?_)
    obtain ⟨w1,p0,W,Q,o⟩:=bindK h
    refine AWp.cutX 0 [2,3] [] 0 (lb rfl) (fun τ=>W (.inl ())=some (s,u)/\τ={ env:=[(2,zl 1 e),(3,zi l)],heap:=[],n:=89 }) ?_ ?_
    ·skip
     refine AWp.iter p0 [1,2,3,11,42,43,44] [] 0 (lb rfl) (fun p=>{ env:=[(1,zl 1 m),(2,zl 1 e),(3,zi l),(11,zl 3 g),(42,(.own 2 j)),(43,(.d (.int .i64 (A.len j)))),(44,zi p)],heap:=[],n:=89 }) ⟨rfl,zv⟩ ?_
     rintro p l0 a
     dsimp only [E57L1] at a
     refine zs ?_
     refine zA ?_
     refine nT (zs ?_)
     rcases tf (A.zlt p (A.len j)) with G | G
     ·replace a:=cT G a
      refine zT ?_
      refine zk (nT (zs (zb (zs ?_))))
      obtain ⟨⟨O,P⟩,i0,a⟩:=bindS a
      obtain ⟨n1,o1⟩:=gtI i0
      refine zB ?_ { tk:=[47] }
      refine nT (zs ?_)
      obtain ⟨b1,j0,a⟩:=bindS a
      obtain ⟨p1,q1⟩:=gtI j0
      obtain ⟨c1,k0,a⟩:=bindS a
      obtain ⟨r1,s1⟩:=gtI k0
      refine AWp.rd hT hA {} rfl zu (by kernel_rfl) (lb rfl) ?_
      refine nT (zs (zs ?_))
      refine zB ?_
      refine nT (zb ?_)
      obtain ⟨v1,o0,V,m0,J⟩:=bindK a
      refine AWp.cutX 2 [1,2,3,11,14,42,43,44] [] 0 (lb rfl) (fun τ => ∃ r,V r=some l0/\τ={ env:=[(1,zl 1 m),(2,zl 1 e),(3,zi l),(11,zl 3 g),(14,zi r),(42,(.own 2 j)),(43,(.d (.int .i64 (A.len j)))),(44,zi p)],heap:=[],n:=89 }) ?_ ?_
      ·skip
       refine AWp.iter o0 [1,2,3,11,13,14,42,43,44,57,58,59] [] 0 (lb rfl) (fun (R,q)=>{ env:=[(1,zl 1 m),(2,zl 1 e),(3,zi l),(11,zl 3 g),(13,(.lbox [zi O,zi P])),(14,zi R),(42,(.own 2 j)),(43,(.d (.int .i64 (A.len j)))),(44,zi p),(57,zl 3 g),(58,(.d (.int .i64 (A.len g)))),(59,zi q)],heap:=[],n:=89 }) ⟨rfl,zv⟩ ?_
       rintro ⟨R,q⟩ d1 c
       dsimp only [E57L0] at c
       refine zs ?_
       refine zA ?_
       refine nT (zs ?_)
       rcases tf (A.zlt q (A.len g)) with w | w
       ·replace c:=cT w c
        refine zT ?_
        refine zk (nT (zs (zb (zs ?_))))
        obtain ⟨⟨v0,w0,y0⟩,Y,c⟩:=bindS c
        obtain ⟨g1,i1⟩:=gtI Y
        refine zB ?_ { tk:=[63] }
        refine nT (zs (zn ?_))
        obtain ⟨r0,b0,c⟩:=bindS c
        refine zD (E105w hA b0) ?_
        refine zF ?_
        refine nT ?_
        obtain ⟨u0,k,c⟩:=bindS c
        refine AWp.cutN [1,2,3,11,13,14,42,43,44,57,58,59] [] 0 (lb rfl) (fun τ=>τ={ env:=[(1,zl 1 m),(2,zl 1 e),(3,zi l),(11,zl 3 g),(13,(.lbox [zi O,zi P])),(14,zi u0),(42,(.own 2 j)),(43,(.d (.int .i64 (A.len j)))),(44,zi p),(57,zl 3 g),(58,(.d (.int .i64 (A.len g)))),(59,zi q)],heap:=[],n:=89 }) ?_ ?_
        ·skip
         rcases tf r0 with y | y
         ·replace k:=cT y k
          refine zT ?_
          obtain ⟨z0,c0,k⟩:=bindS k
          obtain ⟨j1,k1⟩:=gtI c0
          refine zB ?_
          cases soI k
          exact zO
         ·replace k:=cF y k
          refine zU ?_
          refine zk ?_
          cases soI k
          exact zO
        ·rintro _ rfl
         refine nB (nT ?_)
         refine zA ?_
         exact nT ⟨_,(soI c).symm,rfl,zc⟩
       ·replace c:=cF w c
        refine zU ?_
        refine AWp.exit (xT (xT ?_))
        refine exL c fun hx => ?_
        subst hx
        exact oxI ⟨rfl,_,J,zv⟩
      ·rintro _ ⟨r,J,rfl⟩
       have a:=(m0 _ J)
       refine xB (nT (zs ?_))
       refine zA ?_
       refine nT ?_
       rcases tf (A.zlt r 0) with z | z
       ·replace a:=cT z a
        refine zT ?_
        refine zs ?_
        refine zB ?_
        refine nT (zr (rB (rT (rT ?_))))
        refine exL a fun hx => ?_
        subst hx
        refine oxR ?_
        replace o:=(eR (Q _ o))
        refine rB (rT ?_)
        cases soI o
        exact zq
       ·replace a:=cF z a
        refine zU ?_
        refine zk (nB (nT ?_))
        refine zB ?_
        exact nT ⟨_,(soI a).symm,rfl,zv⟩
     ·replace a:=cF G a
      refine zU ?_
      refine AWp.exit (xT (xT ?_))
      refine exL a fun hx => ?_
      subst hx
      exact oxI ⟨rfl,o,zv⟩
    ·rintro _ ⟨o,rfl⟩
     have h:=(eL (Q _ o))
     refine xB (nT (zs (zs ?_)))
     refine zA ?_
     refine nT (zb ?_)
     obtain ⟨y1,q0,X,n0,K⟩:=bindK h
     refine AWp.cutX 4 [3] [] 0 (lb rfl) (fun τ => ∃ M,X M=some (s,u)/\τ={ env:=[(3,zi M)],heap:=[],n:=89 }) ?_ ?_
     ·skip
      refine AWp.iter q0 [3,77,78,79] [] 0 (lb rfl) (fun (S,L)=>{ env:=[(3,zi S),(77,zl 1 e),(78,(.d (.int .i64 (A.len e)))),(79,zi L)],heap:=[],n:=89 }) ⟨rfl,zc⟩ ?_
      rintro ⟨S,L⟩ e1 i
      dsimp only [E57L2] at i
      refine zs ?_
      refine zA ?_
      refine nT (zs ?_)
      rcases tf (A.zlt L (A.len e)) with C | C
      ·replace i:=cT C i
       refine zT ?_
       refine zk (nT (zs (zb (zs ?_))))
       obtain ⟨a1,d0,i⟩:=bindS i
       obtain ⟨l1,m1⟩:=gtI d0
       refine zB ?_
       refine nT ?_
       refine zB ?_
       refine nB (nT ?_)
       refine zB ?_
       exact nT ⟨_,(soI i).symm,rfl,zv⟩
      ·replace i:=cF C i
       refine zU ?_
       refine AWp.exit (xT (xT ?_))
       refine exL i fun hx => ?_
       subst hx
       exact oxI ⟨rfl,_,K,zv⟩
     ·rintro _ ⟨M,K,rfl⟩
      have h:=(n0 _ K)
      refine xB (nT (zs ?_))
      refine zA ?_
      refine nT (zr ?_)
      cases soI h
      exact zq
 ·replace h:=cF F h
  refine zT ?_
  refine zs ?_
  refine zB ?_
  refine nT (zr (rT ?_))
  cases soI h
  exact zq

theorem E108w {A:Ar} (hA:SA A) {c e:Int} {a:List D} {b:Int} (h:E108 A c e a=some b):ACall Try.prog 108 [zi c,zi e,.ptr 0 0] [.cells [zl 3 a]] (zi b) [.cells [zl 3 a]]:=by
 unfold E108 at h
 refine zI Try.func108 ?_
 refine zs ?_
 refine zA ?_
 refine nT (zs ?_)
 refine AWp.regionDraw rfl (lb rfl) ?_
 obtain ⟨⟨n,o,p⟩,j,h⟩:=bindS h
 obtain ⟨s,u⟩:=gtI j
 obtain ⟨⟨k,l,m⟩,g,h⟩:=bindS h
 obtain ⟨q,r⟩:=gtI g
 obtain ⟨v,i,h⟩:=bindS h
 refine DOps.c0 hT hA { tk:=[16] } rfl zu (E109w hA i) rfl rfl (lb rfl) rfl rfl ?_
 refine DOps.cd hT hA { tk:=[16] } rfl zu (by kernel_rfl) ?_
 refine nT (zr ?_)
 cases soI h
 exact zq

theorem E140w {A:Ar} (hA:SA A) {i j:Int} {e:List D} {g:List (D×D)} {B w:List D} (h:E140 A i j e g B=some w):ACall Try.prog 140 [.gref 2 1,zi i,zi j,(.func 108 [] [.ptr 0 0])] [.cells [zl 3 e],(.map true [.int .i64,.int .i64] g),.gro 1 B,.dead,.dead] (.tuple []) [.cells [zl 3 e],(.map true [.int .i64,.int .i64] g),.gro 1 w,.dead,.dead]:=by
 unfold E140 at h
 refine zI Try.func140 ?_
 refine zs ?_
 refine zA ?_
 refine nT (zb ?_)
 obtain ⟨l1,g0,E,d0,r⟩:=bindK h
 refine AWp.cutXW 0 (fun τ => ∃ v,E v=some w/\τ={ env:=[],heap:=[.cells [zl 3 e],(.map true [.int .i64,.int .i64] g),.gro 1 v,.dead,.dead],n:=53 }) ?_ ?_
 ·skip
  refine AWp.iterW g0 (fun (k,y)=>{ env:=[(0,.gref 2 1),(1,zi i),(2,zi j),(3,(.func 108 [] [.ptr 0 0])),(8,zi k)],heap:=[.cells [zl 3 e],(.map true [.int .i64,.int .i64] g),.gro 1 y,.dead,.dead],n:=53 }) ⟨_,zR [some 0,some 1,some 2,some 3,some 4] [0,1,2,3,8],rfl⟩ ?_
  rintro ⟨k,y⟩ b0 c
  dsimp only [E140L1] at c
  refine zs (zs ?_)
  refine zA ?_
  refine nT ?_
  rcases tf (A.zlt k j) with m | m
  ·replace c:=cT m c
   refine zT ?_
   refine zk (nT (zs (zb (zs ?_))))
   refine zB ?_
   refine nT (zb ?_)
   obtain ⟨k1,e0,C,c0,q⟩:=bindK c
   refine AWp.cutXW 2 (fun τ => ∃ u,C u=some b0/\τ={ env:=[(0,.gref 2 1),(1,zi i),(2,zi j),(3,(.func 108 [] [.ptr 0 0])),(8,zi k)],heap:=[.cells [zl 3 e],(.map true [.int .i64,.int .i64] g),.gro 1 u,.dead,.dead],n:=53 }) ?_ ?_
   ·skip
    refine AWp.iterW e0 (fun (l,s)=>{ env:=[(0,.gref 2 1),(1,zi i),(2,zi j),(3,(.func 108 [] [.ptr 0 0])),(8,zi k),(9,zi l)],heap:=[.cells [zl 3 e],(.map true [.int .i64,.int .i64] g),.gro 1 s,.dead,.dead],n:=53 }) ⟨_,zR [some 0,some 1,some 2,some 3,some 4] [0,1,2,3,8,9],rfl⟩ ?_
    rintro ⟨l,s⟩ n0 a
    dsimp only [E140L0] at a
    refine zs (zs ?_)
    obtain ⟨z,b,a⟩:=bindS a
    refine AWp.cutW (fun τ=>τ={ env:=[(0,.gref 2 1),(1,zi i),(2,zi j),(3,(.func 108 [] [.ptr 0 0])),(8,zi k),(9,zi l),(34,.d (.bool z))],heap:=[.cells [zl 3 e],(.map true [.int .i64,.int .i64] g),.gro 1 s,.dead,.dead],n:=53 }) ?_ ?_
    ·skip
     refine AWp.regionDraw rfl (lb rfl) ?_
     rcases tf (A.zlt i l) with o | o
     ·replace b:=cT o b
      obtain ⟨_,F,b⟩:=bindS b
      have o0:=ckI F
      obtain ⟨_,G,b⟩:=bindS b
      have p0:=ckI G
      obtain ⟨i0,J,b⟩:=bindS b
      have q0:=gcI J
      obtain ⟨_,K,b⟩:=bindS b
      have r0:=ckI K
      obtain ⟨_,L,b⟩:=bindS b
      have s0:=ckI L
      obtain ⟨j0,M,b⟩:=bindS b
      have u0:=gcI M
      obtain ⟨j1,N,b⟩:=bindS b
      refine DOps.cp hT hA {} rfl zu (E108w hA N) rfl rfl rfl rfl (lb rfl) rfl rfl ?_
      refine DOps.cd hT hA {} rfl zu (by kernel_rfl) ?_
      cases soI b
      exact oWi ⟨_,zR [some 0,some 1,some 2,some 3,some 4] [0,1,2,3,8,9,34],rfl⟩
     ·replace b:=cF o b
      refine DOps.cd hT hA {} rfl zu (by kernel_rfl) ?_
      cases soI b
      exact oWi ⟨_,zR [some 0,some 1,some 2,some 3,some 4] [0,1,2,3,8,9,34],rfl⟩
    ·rintro _ rfl
     refine nT ?_
     rcases tf z with p | p
     ·replace a:=cT p a
      refine zT ?_
      refine zk (nT (zs (zb ?_)))
      obtain ⟨_,O,a⟩:=bindS a
      have v0:=ckI O
      obtain ⟨_,P,a⟩:=bindS a
      have w0:=ckI P
      obtain ⟨k0,Q,a⟩:=bindS a
      have y0:=gcI Q
      obtain ⟨_,R,a⟩:=bindS a
      have z0:=ckI R
      obtain ⟨_,S,a⟩:=bindS a
      have a1:=ckI S
      obtain ⟨l0,U,a⟩:=bindS a
      have b1:=gcI U
      obtain ⟨_,V,a⟩:=bindS a
      have c1:=ckI V
      obtain ⟨_,W,a⟩:=bindS a
      have d1:=ckI W
      obtain ⟨_,X,a⟩:=bindS a
      have e1:=ckI X
      obtain ⟨_,Y,a⟩:=bindS a
      have g1:=ckI Y
      obtain ⟨m0,a0,a⟩:=bindS a
      have i1:=gcI a0
      refine AWp.rd hT hA { tk:=[46,50] } rfl zu (by kernel_rfl) (lb rfl) ?_
      refine nB (nT ?_)
      refine zB ?_
      exact nT ⟨_,(soI a).symm,_,zR [some 0,some 1,some 2,some 3,some 4] [0,1,2,3,8,9],rfl⟩
     ·replace a:=cF p a
      refine zU ?_
      refine AWp.exit (xT (xT ?_))
      refine exL a fun hx => ?_
      subst hx
      exact oxWI ⟨_,zR [some 0,some 1,some 2,some 3,some 4] [0,1,2,3,8],_,q,rfl⟩
   ·rintro _ ⟨u,q,rfl⟩
    have c:=(c0 _ q)
    refine xB (nB (nT ?_))
    refine zA ?_
    exact nT ⟨_,(soI c).symm,_,zR [some 0,some 1,some 2,some 3,some 4] [0,1,2,3,8],rfl⟩
  ·replace c:=cF m c
   refine zU ?_
   refine AWp.exit (xT (xT ?_))
   refine exL c fun hx => ?_
   subst hx
   exact oxWI ⟨_,zR [some 0,some 1,some 2,some 3,some 4] [],_,r,rfl⟩
 ·rintro _ ⟨v,r,rfl⟩
  have h:=(d0 _ r)
  refine xB ?_
  cases soI h
  exact zq
end Go.Am
