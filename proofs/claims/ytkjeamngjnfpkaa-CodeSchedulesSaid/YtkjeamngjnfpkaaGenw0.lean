/- Own text: Genw0. -/
import Derived.Test.YtkjeamngjnfpkaaGenp1
import Derived.Test.YtkjeamngjnfpkaaAmLaw
import Derived.Test.YtkjeamngjnfpkaaAmLaw
import Derived.Test.YtkjeamngjnfpkaaAmLaw
import Derived.Test.YtkjeamngjnfpkaaAmLaw
import Derived.Test.YtkjeamngjnfpkaaAmThw
import Derived.Test.YtkjeamngjnfpkaaAmThw
import Derived.Test.YtkjeamngjnfpkaaAmThw
import Derived.Test.YtkjeamngjnfpkaaAmThw
import Derived.Test.YtkjeamngjnfpkaaAmThw
import Derived.Test.YtkjeamngjnfpkaaAmSortO
import Derived.Test.YtkjeamngjnfpkaaAmLaw
import Derived.Test.YtkjeamngjnfpkaaK1T
import Derived.Test.YtkjeamngjnfpkaaK1S
set_option maxRecDepth 100000
set_option maxHeartbeats 2000000
set_option linter.unusedVariables false
set_option linter.unusedSimpArgs false
namespace Go.Am
open Go Go.Proofs
theorem zqa : (!true) = false := rfl
theorem zqb : (!false) = true := rfl
theorem zqc {α : Type} {a b : α} : cond true a b = a := rfl
theorem zqd {α : Type} {a b : α} : cond false a b = b := rfl
def SA (A:Ar):Prop:=A=Ar.std
section
variable {p:Prop} {A:Ar} {m k t:Nat} {Q:Exit->St->Prop} {K R:St->Prop} {σ σ':St} {ops:Array Oper} {id:Nat} {c x y:Code} {ts sf:List Nat} {b:Bool} {l rest:List Oper} {f:FuncId} {fn:Func} {args:List AV} {o:Oper} {σ1:St} {H Hr H':List Obj} {r:AV} {d:Nat} {xs xs1:List Rec}
theorem zv (h:p:=by first|(cbv;done)|((repeat (cbv;simp only [*]));try cbv)):p:=h
theorem zu (h:p:=by (repeat (cbv;simp only [*]));try cbv):p:=h
theorem zc (h:p:=by cbv):p:=h
theorem zq (h:p:=by exact ⟨rfl,rfl,rfl,lb rfl,_,rfl⟩):p:=h
theorem zA (k:Q .normal σ') (an:Ann:={}) (hA:SA A:=by assumption) (h:runP A T an ops.toList ops.toList σ=.done σ':=by cbv) (hm:m<=σ.heap.length:=by exact lb rfl):AWp Try.prog m (.region id ops false) Q σ:=AWp.rg hT hA an h hm k
theorem zB (k:Q .normal σ') (an:Ann:={}) (hA:SA A:=by assumption) (h:runP A T an ops.toList ops.toList σ=.done σ':=by (repeat (cbv;simp only [*]));try cbv) (hm:m<=σ.heap.length:=by exact lb rfl):AWp Try.prog m (.region id ops false) Q σ:=AWp.rg hT hA an h hm k
theorem zC (hc:ACall Try.prog f args H r H') (k:AOps Try.prog m ops rest Q {σ1 with env:=eset σ1.env d r,heap:=H'++Hr}) (an:Ann:={}) (hA:SA A:=by assumption) (h:runP A T an ops.toList l σ=.call f args o rest σ1:=by cbv) (hm:m<=σ.heap.length:=by exact lb rfl) (hH:σ1.heap=H++Hr:=by exact rfl) (hr:Hr=[]\/H'.length=H.length:=by first|exact .inl rfl|exact .inr rfl) (hi:objsInb H.length H=true:=by exact rfl) (ha:inbL H.length args=true:=by exact rfl) (hd:o.dst=some d:=by exact rfl) (hl:d<σ1.n:=by exact lb rfl) (hb:(σ1.get d).isBox=false:=by exact rfl) (hf:args.all AV.free=true:=by exact rfl):AOps Try.prog m ops l Q σ:=AOps.cc hT hA an h hm hc hH hr hi ha hd hl hb hf k
theorem zD (hc:ACall Try.prog f args H r H') (k:AOps Try.prog m ops rest Q {σ1 with env:=eset σ1.env d r,heap:=H'++Hr}) (an:Ann:={}) (hA:SA A:=by assumption) (h:runP A T an ops.toList l σ=.call f args o rest σ1:=by (repeat (cbv;simp only [*]));try cbv) (hm:m<=σ.heap.length:=by exact lb rfl) (hH:σ1.heap=H++Hr:=by exact rfl) (hr:Hr=[]\/H'.length=H.length:=by first|exact .inl rfl|exact .inr rfl) (hi:objsInb H.length H=true:=by exact rfl) (ha:inbL H.length args=true:=by exact rfl) (hd:o.dst=some d:=by exact rfl) (hl:d<σ1.n:=by exact lb rfl) (hb:(σ1.get d).isBox=false:=by exact rfl) (hf:args.all AV.free=true:=by exact rfl):AOps Try.prog m ops l Q σ:=AOps.cc hT hA an h hm hc hH hr hi ha hd hl hb hf k
theorem zE (k:Q .normal σ') (an:Ann:={}) (hA:SA A:=by assumption) (h:runP A T an ops.toList l σ=.done σ':=by cbv) (hm:m<=σ.heap.length:=by exact lb rfl):AOps Try.prog m ops l Q σ:=AOps.cd hT hA an h hm k
theorem zF (k:Q .normal σ') (an:Ann:={}) (hA:SA A:=by assumption) (h:runP A T an ops.toList l σ=.done σ':=by (repeat (cbv;simp only [*]));try cbv) (hm:m<=σ.heap.length:=by exact lb rfl):AOps Try.prog m ops l Q σ:=AOps.cd hT hA an h hm k
theorem zT (h:AWp Try.prog m x Q σ) (hc:σ.get t=.d (.bool b):=by exact rfl) (hb:b=true:=by first|exact rfl|simp only [*,zqa,zqb,zqc,zqd]):AWp Try.prog m (.cond (.tmp t) x y) Q σ:=AWp.cdT hc hb h
theorem zU (h:AWp Try.prog m y Q σ) (hc:σ.get t=.d (.bool b):=by exact rfl) (hb:b=false:=by first|exact rfl|simp only [*,zqa,zqb,zqc,zqd]):AWp Try.prog m (.cond (.tmp t) x y) Q σ:=AWp.cdF hc hb h
theorem zO (h:σ.fits ts k=true:=by exact rfl) (g:R (σ.fitS ts sf k):=by first|(cbv;done)|((repeat (cbv;simp only [*]));try cbv)):AExit.onN ts sf k R Q .normal σ:=⟨h,g⟩
theorem zR (sel:List (Option Nat)) (ts:List Nat) (hm:okSel m sel 0=true:=by exact rfl) (h:σ.ren sel ts=some σ':=by first|(cbv;done)|((repeat (cbv;simp only [*]));try cbv)):Wk m σ σ':=Wk.ren sel ts hm h
theorem zI (hf:Try.prog.funcs[f]?=some fn) (h:AWp Try.prog H.length c (FnPost T fn H.length r H') {env:=envOf 0 args,heap:=H,n:=fn.ntmps}) (hb:fn.body=some c:=by exact rfl) (hn:fn.name≠"runtime.NumGoroutine":=by decide) (ha:args.length<=fn.ntmps:=by exact lb rfl) (hr:args.all AV.free=true:=by exact rfl) (h1:r.isLocal=false:=by exact rfl) (h2:r.inb H'.length=true:=by exact rfl) (h3:objsInb H'.length H'=true:=by exact rfl) (h4:H.length<=H'.length:=by exact lb rfl):ACall Try.prog f args H r H':=ACall.enter hT hf hb hn ha hr h1 h2 h3 h4 h
end
abbrev zs := @AWp.seq
abbrev zg := @AWp.rg
abbrev zr := @AWp.ret
abbrev zt := @AWp.cdT
abbrev zf := @AWp.cdF
abbrev zn := @AWp.region
abbrev zk := @AWp.skip
abbrev zb := @AWp.block
abbrev zi (x : Int) : AV := .d (.int .i64 x)
abbrev zl (k : Nat) (x : List D) : AV := .d (.list k x)
theorem K41w {A:Ar} (hA:SA A) {g:List D} {F:Bool} (h:K41 A g=some F):ACall Try.prog 41 [zl 4 g] [] (.d (.bool F)) []:=by
 unfold K41 at h
 refine zI Try.func41 ?_
 refine zs ?_
 refine zA ?_
 refine nT (zs (zs ?_))
 refine zA ?_
 refine nT (zb ?_)
 obtain ⟨k0,W,N,r,e⟩:=bindK h
 refine AWp.cutX 0 [0] [] 0 (lb rfl) (fun τ=>N (.inl ())=some F/\τ={ env:=[(0,zl 4 g)],heap:=[],n:=58 }) ?_ ?_
 ·skip
  refine AWp.iter W [0,3] [] 0 (lb rfl) (fun i=>{ env:=[(0,zl 4 g),(3,zi i)],heap:=[],n:=58 }) ⟨rfl,zc⟩ ?_
  rintro i G a
  dsimp only [K41L2] at a
  refine zs (zs ?_)
  refine zA ?_
  refine nT ?_
  rcases tf (A.zlt i (A.len g)) with s | s
  ·replace a:=cT s a
   refine zT ?_
   refine zk (nT (zs (zb (zs ?_))))
   obtain ⟨⟨p,q,j,o⟩,Q,a⟩:=bindS a
   obtain ⟨a0,b0⟩:=gtI Q
   refine zB ?_ { tk:=[16] }
   refine nT (zs (zs ?_))
   obtain ⟨L,m,a⟩:=bindS a
   refine AWp.cutN [0,3,4,26] [] 0 (lb rfl) (fun τ=>τ={ env:=[(0,zl 4 g),(3,zi i),(4,(.lbox [zi p,zi q,zl 1 j,zl 1 o])),(26,.d (.bool L))],heap:=[],n:=58 }) ?_ ?_
   ·skip
    rcases tf (A.zlt 20 (A.len j)) with u | u
    ·replace m:=cT u m
     refine zB ?_
     cases soI m
     exact zO
    ·replace m:=cF u m
     refine zB ?_
     cases soI m
     exact zO
   ·rintro _ rfl
    refine nT ?_
    rcases tf L with v | v
    ·replace a:=cT v a
     refine zT ?_
     refine zs ?_
     refine zB ?_
     refine nT (zr (rT (rB (rT (rT ?_)))))
     refine exL a fun hx => ?_
     subst hx
     refine oxR ?_
     replace e:=(eR (r _ e))
     refine rB (rT ?_)
     cases soI e
     exact zq
    ·replace a:=cF v a
     refine zU ?_
     refine zk (nT (zs (zs ?_)))
     refine zB ?_
     refine nT (zb ?_)
     obtain ⟨i0,U,M,J,k⟩:=bindK a
     refine AWp.cutX 2 [0,3,4] [] 0 (lb rfl) (fun τ=>M (.inl ())=some G/\τ={ env:=[(0,zl 4 g),(3,zi i),(4,(.lbox [zi p,zi q,zl 1 j,zl 1 o]))],heap:=[],n:=58 }) ?_ ?_
     ·skip
      refine AWp.iter U [0,3,4,5] [] 0 (lb rfl) (fun C=>{ env:=[(0,zl 4 g),(3,zi i),(4,(.lbox [zi p,zi q,zl 1 j,zl 1 o])),(5,zi C)],heap:=[],n:=58 }) ⟨rfl,zv⟩ ?_
      rintro C X b
      dsimp only [K41L0] at b
      refine zs (zs ?_)
      refine zA ?_
      refine nT ?_
      rcases tf (A.zlt C (A.len j)) with w | w
      ·replace b:=cT w b
       refine zT ?_
       refine zk (nT (zs (zb (zs ?_))))
       obtain ⟨O,R,b⟩:=bindS b
       obtain ⟨c0,d0⟩:=gtI R
       refine zB ?_
       refine nT ?_
       rcases tf (A.zlt 20 (A.len O)) with y | y
       ·replace b:=cT y b
        refine zT ?_
        refine zs ?_
        refine zB ?_
        refine nT (zr (rB (rT (rT ?_))))
        refine exL b fun hx => ?_
        subst hx
        refine oxR ?_
        replace k:=(eR (J _ k))
        refine rB (rT (rB (rT (rT ?_))))
        refine exL k fun hx => ?_
        subst hx
        refine oxR ?_
        replace e:=(eR (r _ e))
        refine rB (rT ?_)
        cases soI e
        exact zq
       ·replace b:=cF y b
        refine zU ?_
        refine zk (nB (nT ?_))
        refine zB ?_
        exact nT ⟨_,(soI b).symm,rfl,zv⟩
      ·replace b:=cF w b
       refine zU ?_
       refine AWp.exit (xT (xT ?_))
       refine exL b fun hx => ?_
       subst hx
       exact oxI ⟨rfl,k,zv⟩
     ·rintro _ ⟨k,rfl⟩
      have a:=(eL (J _ k))
      refine xB (nT (zs ?_))
      refine zA ?_
      refine nT (zb ?_)
      obtain ⟨j0,V,K82,K,l⟩:=bindK a
      refine AWp.cutX 4 [0,3] [] 0 (lb rfl) (fun τ=>K82 (.inl ())=some G/\τ={ env:=[(0,zl 4 g),(3,zi i)],heap:=[],n:=58 }) ?_ ?_
      ·skip
       refine AWp.iter V [0,3,4,6] [] 0 (lb rfl) (fun E=>{ env:=[(0,zl 4 g),(3,zi i),(4,(.lbox [zi p,zi q,zl 1 j,zl 1 o])),(6,zi E)],heap:=[],n:=58 }) ⟨rfl,zc⟩ ?_
       rintro E Y c
       dsimp only [K41L1] at c
       refine zs (zs ?_)
       refine zA ?_
       refine nT ?_
       rcases tf (A.zlt E (A.len o)) with z | z
       ·replace c:=cT z c
        refine zT ?_
        refine zk (nT (zs (zb (zs ?_))))
        obtain ⟨P,S,c⟩:=bindS c
        obtain ⟨e0,g0⟩:=gtI S
        refine zB ?_
        refine nT ?_
        rcases tf (A.zlt 20 (A.len P)) with B | B
        ·replace c:=cT B c
         refine zT ?_
         refine zs ?_
         refine zB ?_
         refine nT (zr (rB (rT (rT ?_))))
         refine exL c fun hx => ?_
         subst hx
         refine oxR ?_
         replace l:=(eR (K _ l))
         refine rB (rB (rT (rT ?_)))
         refine exL l fun hx => ?_
         subst hx
         refine oxR ?_
         replace e:=(eR (r _ e))
         refine rB (rT ?_)
         cases soI e
         exact zq
        ·replace c:=cF B c
         refine zU ?_
         refine zk (nB (nT ?_))
         refine zB ?_
         exact nT ⟨_,(soI c).symm,rfl,zv⟩
       ·replace c:=cF z c
        refine zU ?_
        refine AWp.exit (xT (xT ?_))
        refine exL c fun hx => ?_
        subst hx
        exact oxI ⟨rfl,l,zv⟩
      ·rintro _ ⟨l,rfl⟩
       have a:=(eL (K _ l))
       refine xB (nB (nT ?_))
       refine zA ?_
       exact nT ⟨_,(soI a).symm,rfl,zc⟩
  ·replace a:=cF s a
   refine zU ?_
   refine AWp.exit (xT (xT ?_))
   refine exL a fun hx => ?_
   subst hx
   exact oxI ⟨rfl,e,zv⟩
 ·rintro _ ⟨e,rfl⟩
  have h:=(eL (r _ e))
  refine xB (nT (zs ?_))
  refine zA ?_ { tk:=[57] }
  refine nT (zr ?_)
  cases soI h
  exact zq

theorem K9w {A:Ar} (hA:SA A) {k l:Int} {m o e g:List D} {p:Bool} (h:K9 A k l m o e g=some p):ACall Try.prog 9 [.d (.agg [.int .i64 k,.int .i64 l,.list 1 m,.list 1 o,.list 1 e,.list 1 g])] [] (.d (.bool p)) []:=by
 unfold K9 at h
 refine zI Try.func9 ?_
 refine zs ?_
 refine zA ?_
 refine nT (zs (zs ?_))
 refine zA ?_
 refine nT (zb ?_)
 obtain ⟨Y,N,E,B,i⟩:=bindK h
 refine AWp.cutX 0 [1] [] 0 (lb rfl) (fun τ=>E (.inl ())=some p/\τ={ env:=[(1,(.lbox [zi k,zi l,zl 1 m,zl 1 o,zl 1 e,zl 1 g]))],heap:=[],n:=49 }) ?_ ?_
 ·skip
  refine AWp.iter N [1,3] [] 0 (lb rfl) (fun y=>{ env:=[(1,(.lbox [zi k,zi l,zl 1 m,zl 1 o,zl 1 e,zl 1 g])),(3,zi y)],heap:=[],n:=49 }) ⟨rfl,zc⟩ ?_
  rintro y R a
  dsimp only [K9L0] at a
  refine zs (zs ?_)
  refine zA ?_
  refine nT ?_
  rcases tf (A.zlt y (A.len e)) with q | q
  ·replace a:=cT q a
   refine zT ?_
   refine zk (nT (zs (zb (zs ?_))))
   obtain ⟨G,K,a⟩:=bindS a
   obtain ⟨U,V⟩:=gtI K
   refine zB ?_
   refine nT ?_
   rcases tf (A.zlt 30 (A.len G)) with r | r
   ·replace a:=cT r a
    refine zT ?_
    refine zs ?_
    refine zB ?_
    refine nT (zr (rB (rT (rT ?_))))
    refine exL a fun hx => ?_
    subst hx
    refine oxR ?_
    replace i:=(eR (B _ i))
    refine rB (rT ?_)
    cases soI i
    exact zq
   ·replace a:=cF r a
    refine zU ?_
    refine zk (nB (nT ?_))
    refine zB ?_
    exact nT ⟨_,(soI a).symm,rfl,zv⟩
  ·replace a:=cF q a
   refine zU ?_
   refine AWp.exit (xT (xT ?_))
   refine exL a fun hx => ?_
   subst hx
   exact oxI ⟨rfl,i,zv⟩
 ·rintro _ ⟨i,rfl⟩
  have h:=(eL (B _ i))
  refine xB (nT (zs (zs ?_)))
  refine zA ?_
  refine nT (zb ?_)
  obtain ⟨a0,O,F,C,j⟩:=bindK h
  refine AWp.cutX 2 [1] [] 0 (lb rfl) (fun τ=>F (.inl ())=some p/\τ={ env:=[(1,(.lbox [zi k,zi l,zl 1 m,zl 1 o,zl 1 e,zl 1 g]))],heap:=[],n:=49 }) ?_ ?_
  ·skip
   refine AWp.iter O [1,4] [] 0 (lb rfl) (fun z=>{ env:=[(1,(.lbox [zi k,zi l,zl 1 m,zl 1 o,zl 1 e,zl 1 g])),(4,zi z)],heap:=[],n:=49 }) ⟨rfl,zc⟩ ?_
   rintro z S b
   dsimp only [K9L1] at b
   refine zs (zs ?_)
   refine zA ?_
   refine nT ?_
   rcases tf (A.zlt z (A.len g)) with s | s
   ·replace b:=cT s b
    refine zT ?_
    refine zk (nT (zs (zb (zs ?_))))
    obtain ⟨J,L,b⟩:=bindS b
    obtain ⟨W,X⟩:=gtI L
    refine zB ?_
    refine nT ?_
    rcases tf (A.zlt 20 (A.len J)) with u | u
    ·replace b:=cT u b
     refine zT ?_
     refine zs ?_
     refine zB ?_
     refine nT (zr (rB (rT (rT ?_))))
     refine exL b fun hx => ?_
     subst hx
     refine oxR ?_
     replace j:=(eR (C _ j))
     refine rB (rT ?_)
     cases soI j
     exact zq
    ·replace b:=cF u b
     refine zU ?_
     refine zk (nB (nT ?_))
     refine zB ?_
     exact nT ⟨_,(soI b).symm,rfl,zv⟩
   ·replace b:=cF s b
    refine zU ?_
    refine AWp.exit (xT (xT ?_))
    refine exL b fun hx => ?_
    subst hx
    exact oxI ⟨rfl,j,zv⟩
  ·rintro _ ⟨j,rfl⟩
   have h:=(eL (C _ j))
   refine xB (nT (zs ?_))
   obtain ⟨Q,c,h⟩:=bindS h
   refine AWp.cutN [2] [] 0 (lb rfl) (fun τ=>τ={ env:=[(2,.d (.bool Q))],heap:=[],n:=49 }) ?_ ?_
   ·skip
    refine zn ?_
    obtain ⟨P,M,c⟩:=bindS c
    refine zC (K41w hA M) ?_ { tk:=[48] }
    rcases tf P with v | v
    ·replace c:=cT v c
     refine zF ?_ { tk:=[48] }
     cases soI c
     exact zO
    ·replace c:=cF v c
     rcases tf (A.zlt 10 (A.len e)) with w | w
     ·replace c:=cT w c
      refine zF ?_ { tk:=[48] }
      cases soI c
      exact zO
     ·replace c:=cF w c
      refine zF ?_ { tk:=[48] }
      cases soI c
      exact zO
   ·rintro _ rfl
    refine nT (zr ?_)
    cases soI h
    exact zq

theorem K47w {A:Ar} (hA:SA A) {c e i:Int} {g:Bool} (h:K47 A c e i=some g):ACall Try.prog 47 [zi c,zi e,zi i] [] (.d (.bool g)) []:=by
 unfold K47 at h
 refine zI Try.func47 ?_
 refine zs ?_
 refine zA ?_
 refine nT (zs ?_)
 obtain ⟨j,a,h⟩:=bindS h
 refine AWp.cutN [6] [] 0 (lb rfl) (fun τ=>τ={ env:=[(6,.d (.bool j))],heap:=[],n:=15 }) ?_ ?_
 ·skip
  rcases tf (A.zle c e) with b | b
  ·replace a:=cT b a
   refine zB ?_ { tk:=[14] }
   cases soI a
   exact zO
  ·replace a:=cF b a
   refine zB ?_ { tk:=[14] }
   cases soI a
   exact zO
 ·rintro _ rfl
  refine nT (zr ?_)
  cases soI h
  exact zq

theorem K163w {A:Ar} (hA:SA A) {b:Int} {a:Bool} (h:K163 A b=some a):ACall Try.prog 163 [zi b] [] (.d (.bool a)) []:=by
 unfold K163 at h
 refine zI Try.func163 ?_
 refine zs ?_
 refine zA ?_
 refine nT (zs (zn ?_))
 obtain ⟨e,c,h⟩:=bindS h
 refine zC (K47w hA c) ?_ { tk:=[5] }
 refine zE ?_ { tk:=[5] }
 refine nT (zr ?_)
 cases soI h
 exact zq

theorem K162w {A:Ar} (hA:SA A) {c:List D} {j:Int} (h:K162 A c=some j):ACall Try.prog 162 [zl 1 c,(.func 163 [] [])] [] (zi j) []:=by
 unfold K162 at h
 refine zI Try.func162 ?_
 refine zs ?_
 refine zA ?_
 refine nT (zs (zs ?_))
 refine zA ?_
 refine nT (zb ?_)
 obtain ⟨w,p,l,k,b⟩:=bindK h
 refine AWp.cutX 0 [] [] 0 (lb rfl) (fun τ=>l (.inl ())=some j/\τ={ env:=[],heap:=[],n:=19 }) ?_ ?_
 ·skip
  refine AWp.iter p [0,1,7,8] [] 0 (lb rfl) (fun i=>{ env:=[(0,zl 1 c),(1,(.func 163 [] [])),(7,(.d (.int .i64 (A.len c)))),(8,zi i)],heap:=[],n:=19 }) ⟨rfl,zc⟩ ?_
  rintro i s a
  dsimp only [K162L0] at a
  refine zs ?_
  refine zA ?_
  refine nT (zs ?_)
  rcases tf (A.zlt i (A.len c)) with e | e
  ·replace a:=cT e a
   refine zT ?_
   refine zk (nT (zs (zb (zs ?_))))
   refine zB ?_ { tk:=[8,10] }
   refine nT (zs (zn ?_))
   obtain ⟨r,m,a⟩:=bindS a
   obtain ⟨u,v⟩:=gtI m
   obtain ⟨q,o,a⟩:=bindS a
   refine zD (K163w hA o) ?_
   refine zF ?_
   refine nT ?_
   rcases tf q with g | g
   ·replace a:=cT g a
    refine zT ?_
    refine zs ?_
    refine zB ?_ { tk:=[5,17] }
    refine nT (zr (rB (rT (rT ?_))))
    refine exL a fun hx => ?_
    subst hx
    refine oxR ?_
    replace b:=(eR (k _ b))
    refine rB (rT ?_)
    cases soI b
    exact zq
   ·replace a:=cF g a
    refine zU ?_
    refine zk (nB (nT ?_))
    refine zB ?_ { tk:=[18] }
    exact nT ⟨_,(soI a).symm,rfl,zv⟩
  ·replace a:=cF e a
   refine zU ?_
   refine AWp.exit (xT (xT ?_))
   refine exL a fun hx => ?_
   subst hx
   exact oxI ⟨rfl,b,zv⟩
 ·rintro _ ⟨b,rfl⟩
  have h:=(eL (k _ b))
  refine xB (nT (zs ?_))
  refine zA ?_
  refine nT (zr ?_)
  cases soI h
  exact zq

theorem K135w {A:Ar} (hA:SA A) {b:List D} {a:Bool} (h:K135 A b=some a):ACall Try.prog 135 [zl 1 b,(.func 163 [] [])] [] (.d (.bool a)) []:=by
 unfold K135 at h
 refine zI Try.func135 ?_
 refine zs ?_
 refine zA ?_
 refine nT (zs (zn ?_))
 obtain ⟨e,c,h⟩:=bindS h
 refine zC (K162w hA c) ?_ { tk:=[8] }
 refine zE ?_ { tk:=[8] }
 refine nT (zr ?_)
 cases soI h
 exact zq

theorem K138w {A:Ar} (hA:SA A) {b:List D} {a:Bool} (h:K138 A b=some a):ACall Try.prog 138 [zl 1 b] [] (.d (.bool a)) []:=by
 unfold K138 at h
 refine zI Try.func138 ?_
 refine zs ?_
 refine zA ?_
 refine nT (zs (zn ?_))
 obtain ⟨e,c,h⟩:=bindS h
 refine zC (K135w hA c) ?_ { tk:=[5] }
 refine zE ?_ { tk:=[5] }
 refine nT (zr ?_)
 cases soI h
 exact zq

theorem K79w {A:Ar} (hA:SA A) {b:Int} {a:Bool} (h:K79 A b=some a):ACall Try.prog 79 [zi b] [] (.d (.bool a)) []:=by
 unfold K79 at h
 refine zI Try.func79 ?_
 refine zs ?_
 refine zA ?_
 refine nT (zs (zn ?_))
 obtain ⟨e,c,h⟩:=bindS h
 refine zC (K47w hA c) ?_ { tk:=[4] }
 refine zE ?_ { tk:=[4] }
 refine nT (zr ?_)
 cases soI h
 exact zq

theorem K110w {A:Ar} (hA:SA A) {j L J M N:Int} {K:Bool} (h:K110 A j L J M N=some K):ACall Try.prog 110 [.d (.agg [.int .i64 j,.int .i64 L,.int .i64 J,.int .i64 M]),zi N] [] (.d (.bool K)) []:=by
 unfold K110 at h
 refine zI Try.func110 ?_
 refine zs ?_
 refine zA ?_
 refine nT (zs (zs ?_))
 refine zA ?_
 refine nT (zb (zs ?_))
 refine zA ?_
 refine nT ?_
 rcases tf (A.zeq j 1) with F | F
 ·replace h:=cT F h
  refine zT ?_
  refine zs ?_
  obtain ⟨m0,a,h⟩:=bindS h
  refine AWp.cutN [4] [] 0 (lb rfl) (fun τ=>τ={ env:=[(4,.d (.bool m0))],heap:=[],n:=112 }) ?_ ?_
  ·skip
   refine zn ?_
   obtain ⟨r8,e7,a⟩:=bindS a
   refine zD (K138w hA e7) ?_ { tk:=[22] }
   rcases tf r8 with G | G
   ·replace a:=cT G a
    obtain ⟨b0,O,a⟩:=bindS a
    refine zD (K79w hA O) ?_ { tk:=[22] }
    rcases tf b0 with k | k
    ·replace a:=cT k a
     refine zF ?_ { tk:=[22] }
     cases soI a
     exact zO
    ·replace a:=cF k a
     refine zF ?_ { tk:=[22] }
     cases soI a
     exact zO
   ·replace a:=cF G a
    refine zF ?_ { tk:=[22] }
    cases soI a
    exact zO
  ·rintro _ rfl
   refine nT (zr (rB (rT ?_)))
   cases soI h
   exact zq
 ·replace h:=cF F h
  refine zU ?_
  refine zs ?_
  refine zB ?_
  refine nT ?_
  rcases tf (A.zeq j 2) with l | l
  ·replace h:=cT l h
   refine zT ?_
   refine zs ?_
   obtain ⟨n0,b,h⟩:=bindS h
   refine AWp.cutN [4] [] 0 (lb rfl) (fun τ=>τ={ env:=[(4,.d (.bool n0))],heap:=[],n:=112 }) ?_ ?_
   ·skip
    refine zn ?_
    obtain ⟨c0,P,b⟩:=bindS b
    refine zD (K79w hA P) ?_ { tk:=[38] }
    rcases tf c0 with m | m
    ·replace b:=cT m b
     obtain ⟨d0,Q,b⟩:=bindS b
     refine zD (K138w hA Q) ?_ { tk:=[38] }
     rcases tf d0 with o | o
     ·replace b:=cT o b
      refine zF ?_ { tk:=[38] }
      cases soI b
      exact zO
     ·replace b:=cF o b
      refine zF ?_ { tk:=[38] }
      cases soI b
      exact zO
    ·replace b:=cF m b
     refine zF ?_ { tk:=[38] }
     cases soI b
     exact zO
   ·rintro _ rfl
    refine nT (zr (rB (rT ?_)))
    cases soI h
    exact zq
  ·replace h:=cF l h
   refine zU ?_
   refine zs ?_
   refine zB ?_
   refine nT ?_
   rcases tf (A.zeq j 3) with p | p
   ·replace h:=cT p h
    refine zT ?_
    refine zs ?_
    obtain ⟨o0,i,h⟩:=bindS h
    refine AWp.cutN [4] [] 0 (lb rfl) (fun τ=>τ={ env:=[(4,.d (.bool o0))],heap:=[],n:=112 }) ?_ ?_
    ·skip
     refine zn ?_
     obtain ⟨e0,R,i⟩:=bindS i
     refine zD (K79w hA R) ?_ { tk:=[51] }
     rcases tf e0 with q | q
     ·replace i:=cT q i
      obtain ⟨s0,S,i⟩:=bindS i
      refine zD (K138w hA S) ?_ { tk:=[51] }
      refine zF ?_ { tk:=[51] }
      cases soI i
      exact zO
     ·replace i:=cF q i
      refine zF ?_ { tk:=[51] }
      cases soI i
      exact zO
    ·rintro _ rfl
     refine nT (zr (rB (rT ?_)))
     cases soI h
     exact zq
   ·replace h:=cF p h
    refine zU ?_
    refine zs ?_
    refine zB ?_
    refine nT ?_
    rcases tf (A.zeq j 4) with r | r
    ·replace h:=cT r h
     refine zT ?_
     refine zs ?_
     obtain ⟨p0,c,h⟩:=bindS h
     refine AWp.cutN [4] [] 0 (lb rfl) (fun τ=>τ={ env:=[(4,.d (.bool p0))],heap:=[],n:=112 }) ?_ ?_
     ·skip
      refine zn ?_
      obtain ⟨g0,U,c⟩:=bindS c
      refine zD (K138w hA U) ?_ { tk:=[67] }
      rcases tf g0 with s | s
      ·replace c:=cT s c
       obtain ⟨i0,V,c⟩:=bindS c
       refine zD (K47w hA V) ?_ { tk:=[67] }
       rcases tf i0 with u | u
       ·replace c:=cT u c
        refine zF ?_ { tk:=[67] }
        cases soI c
        exact zO
       ·replace c:=cF u c
        refine zF ?_ { tk:=[67] }
        cases soI c
        exact zO
      ·replace c:=cF s c
       refine zF ?_ { tk:=[67] }
       cases soI c
       exact zO
     ·rintro _ rfl
      refine nT (zr (rB (rT ?_)))
      cases soI h
      exact zq
    ·replace h:=cF r h
     refine zU ?_
     refine zs ?_
     refine zB ?_
     refine nT ?_
     rcases tf (A.zeq j 5) with v | v
     ·replace h:=cT v h
      refine zT ?_
      refine zs (zn ?_)
      obtain ⟨u0,W,h⟩:=bindS h
      refine zD (K138w hA W) ?_ { tk:=[77] }
      refine zF ?_ { tk:=[77] }
      refine nT (zr (rB (rT ?_)))
      cases soI h
      exact zq
     ·replace h:=cF v h
      refine zU ?_
      refine zs ?_
      refine zB ?_
      refine nT ?_
      rcases tf (A.zeq j 6) with w | w
      ·replace h:=cT w h
       refine zT ?_
       refine zs ?_
       obtain ⟨q0,e,h⟩:=bindS h
       refine AWp.cutN [4] [] 0 (lb rfl) (fun τ=>τ={ env:=[(4,.d (.bool q0))],heap:=[],n:=112 }) ?_ ?_
       ·skip
        refine zn ?_
        obtain ⟨j0,X,e⟩:=bindS e
        refine zD (K138w hA X) ?_ { tk:=[95] }
        rcases tf j0 with y | y
        ·replace e:=cT y e
         obtain ⟨k0,Y,e⟩:=bindS e
         refine zD (K47w hA Y) ?_ { tk:=[95] }
         rcases tf k0 with z | z
         ·replace e:=cT z e
          refine zF ?_ { tk:=[95] }
          cases soI e
          exact zO
         ·replace e:=cF z e
          refine zF ?_ { tk:=[95] }
          cases soI e
          exact zO
        ·replace e:=cF y e
         refine zF ?_ { tk:=[95] }
         cases soI e
         exact zO
       ·rintro _ rfl
        refine nT (zr (rB (rT ?_)))
        cases soI h
        exact zq
      ·replace h:=cF w h
       refine zU ?_
       refine zs ?_
       refine zB ?_
       refine nT ?_
       rcases tf (A.zeq j 7) with B | B
       ·replace h:=cT B h
        refine zT ?_
        refine zs ?_
        obtain ⟨r0,g,h⟩:=bindS h
        refine AWp.cutN [4] [] 0 (lb rfl) (fun τ=>τ={ env:=[(4,.d (.bool r0))],heap:=[],n:=112 }) ?_ ?_
        ·skip
         refine zn ?_
         obtain ⟨l0,a0,g⟩:=bindS g
         refine zD (K138w hA a0) ?_ { tk:=[111] }
         rcases tf l0 with C | C
         ·replace g:=cT C g
          rcases tf (A.zeq J 0) with E | E
          ·replace g:=cT E g
           refine zF ?_ { tk:=[111] }
           cases soI g
           exact zO
          ·replace g:=cF E g
           refine zF ?_ { tk:=[111] }
           cases soI g
           exact zO
         ·replace g:=cF C g
          refine zF ?_ { tk:=[111] }
          cases soI g
          exact zO
        ·rintro _ rfl
         refine nT (zr (rB (rT ?_)))
         cases soI h
         exact zq
       ·replace h:=cF B h
        refine zU ?_
        refine zk (nB (nT (zs ?_)))
        refine zB ?_
        refine nT (zr ?_)
        cases soI h
        exact zq

theorem K109w {A:Ar} (hA:SA A) {b c e g:Int} {i:List D} {a:Bool} (h:K109 A b c e g i=some a):ACall Try.prog 109 [.d (.agg [.int .i64 b,.int .i64 c,.int .i64 e,.int .i64 g]),.iptr [.list 4 i]] [] (.d (.bool a)) []:=by
 unfold K109 at h
 refine zI Try.func109 ?_
 refine zs ?_
 refine zA ?_
 refine nT (zs (zn ?_))
 obtain ⟨k,j,h⟩:=bindS h
 refine zC (K110w hA j) ?_ { tk:=[8] }
 refine zE ?_ { tk:=[8] }
 refine nT (zr ?_)
 cases soI h
 exact zq

theorem K137w {A:Ar} (hA:SA A) {c k:List D} {j:Int} (h:K137 A c k=some j):ACall Try.prog 137 [zl 4 c,(.func 109 [] [.iptr [.list 4 k]])] [] (zi j) []:=by
 unfold K137 at h
 refine zI Try.func137 ?_
 refine zs ?_
 refine zA ?_
 refine nT (zs (zs ?_))
 refine zA ?_
 refine nT (zb ?_)
 obtain ⟨C,q,m,l,b⟩:=bindK h
 refine AWp.cutX 0 [] [] 0 (lb rfl) (fun τ=>m (.inl ())=some j/\τ={ env:=[],heap:=[],n:=19 }) ?_ ?_
 ·skip
  refine AWp.iter q [0,1,7,8] [] 0 (lb rfl) (fun i=>{ env:=[(0,zl 4 c),(1,(.func 109 [] [.iptr [.list 4 k]])),(7,(.d (.int .i64 (A.len c)))),(8,zi i)],heap:=[],n:=19 }) ⟨rfl,zc⟩ ?_
  rintro i y a
  dsimp only [K137L0] at a
  refine zs ?_
  refine zA ?_
  refine nT (zs ?_)
  rcases tf (A.zlt i (A.len c)) with e | e
  ·replace a:=cT e a
   refine zT ?_
   refine zk (nT (zs (zb (zs ?_))))
   refine zB ?_ { tk:=[8,10] }
   refine nT (zs (zn ?_))
   obtain ⟨⟨s,u,v,w⟩,o,a⟩:=bindS a
   obtain ⟨z,B⟩:=gtI o
   obtain ⟨r,p,a⟩:=bindS a
   refine zD (K109w hA p) ?_
   refine zF ?_
   refine nT ?_
   rcases tf r with g | g
   ·replace a:=cT g a
    refine zT ?_
    refine zs ?_
    refine zB ?_ { tk:=[5,17] }
    refine nT (zr (rB (rT (rT ?_))))
    refine exL a fun hx => ?_
    subst hx
    refine oxR ?_
    replace b:=(eR (l _ b))
    refine rB (rT ?_)
    cases soI b
    exact zq
   ·replace a:=cF g a
    refine zU ?_
    refine zk (nB (nT ?_))
    refine zB ?_ { tk:=[18] }
    exact nT ⟨_,(soI a).symm,rfl,zv⟩
  ·replace a:=cF e a
   refine zU ?_
   refine AWp.exit (xT (xT ?_))
   refine exL a fun hx => ?_
   subst hx
   exact oxI ⟨rfl,b,zv⟩
 ·rintro _ ⟨b,rfl⟩
  have h:=(eL (l _ b))
  refine xB (nT (zs ?_))
  refine zA ?_
  refine nT (zr ?_)
  cases soI h
  exact zq

theorem K108w {A:Ar} (hA:SA A) {b c:List D} {a:Bool} (h:K108 A b c=some a):ACall Try.prog 108 [zl 4 b,(.func 109 [] [.iptr [.list 4 c]])] [] (.d (.bool a)) []:=by
 unfold K108 at h
 refine zI Try.func108 ?_
 refine zs ?_
 refine zA ?_
 refine nT (zs (zn ?_))
 obtain ⟨g,e,h⟩:=bindS h
 refine zC (K137w hA e) ?_ { tk:=[8] }
 refine zE ?_ { tk:=[8] }
 refine nT (zr ?_)
 cases soI h
 exact zq

theorem K50w {A:Ar} (hA:SA A) {e:List D} {g:Bool} (h:K50 A e=some g):ACall Try.prog 50 [zl 4 e] [] (.d (.bool g)) []:=by
 unfold K50 at h
 refine zI Try.func50 ?_
 refine zs ?_
 refine zA ?_
 refine nT ?_
 refine AWp.freezeBox 1 [.list 4 e] rfl rfl ?_
 refine zs ?_
 obtain ⟨o,a,h⟩:=bindS h
 refine AWp.cutN [2] [] 0 (lb rfl) (fun τ=>τ={ env:=[(2,.d (.bool o))],heap:=[],n:=22 }) ?_ ?_
 ·skip
  refine zn ?_
  obtain ⟨l,j,a⟩:=bindS a
  refine zC (K47w hA j) ?_ { tk:=[21] }
  rcases tf l with b | b
  ·replace a:=cT b a
   obtain ⟨m,k,a⟩:=bindS a
   refine zD (K108w hA k) ?_ { tk:=[21] }
   rcases tf m with c | c
   ·replace a:=cT c a
    refine zF ?_ { tk:=[21] }
    cases soI a
    exact zO
   ·replace a:=cF c a
    obtain ⟨⟨r,s,p,q⟩,i,a⟩:=bindS a
    obtain ⟨u,v⟩:=gtI i
    refine zF ?_ { tk:=[21] }
    cases soI a
    exact zO
  ·replace a:=cF b a
   refine zF ?_ { tk:=[21] }
   cases soI a
   exact zO
 ·rintro _ rfl
  refine nT (zr ?_)
  cases soI h
  exact zq

theorem K49w {A:Ar} (hA:SA A) {b:List D} {a:Bool} (h:K49 A b=some a):ACall Try.prog 49 [zl 4 b] [] (.d (.bool a)) []:=by
 unfold K49 at h
 refine zI Try.func49 ?_
 refine zs ?_
 refine zA ?_
 refine nT (zs (zn ?_))
 obtain ⟨e,c,h⟩:=bindS h
 refine zC (K50w hA c) ?_ { tk:=[5] }
 refine zE ?_ { tk:=[5] }
 refine nT (zr ?_)
 cases soI h
 exact zq

theorem K107w {A:Ar} (hA:SA A) {c:List D} {j:Int} (h:K107 A c=some j):ACall Try.prog 107 [zl 1 c,(.func 49 [] [])] [] (zi j) []:=by
 unfold K107 at h
 refine zI Try.func107 ?_
 refine zs ?_
 refine zA ?_
 refine nT (zs (zs ?_))
 refine zA ?_
 refine nT (zb ?_)
 obtain ⟨w,p,l,k,b⟩:=bindK h
 refine AWp.cutX 0 [] [] 0 (lb rfl) (fun τ=>l (.inl ())=some j/\τ={ env:=[],heap:=[],n:=19 }) ?_ ?_
 ·skip
  refine AWp.iter p [0,1,7,8] [] 0 (lb rfl) (fun i=>{ env:=[(0,zl 1 c),(1,(.func 49 [] [])),(7,(.d (.int .i64 (A.len c)))),(8,zi i)],heap:=[],n:=19 }) ⟨rfl,zc⟩ ?_
  rintro i s a
  dsimp only [K107L0] at a
  refine zs ?_
  refine zA ?_
  refine nT (zs ?_)
  rcases tf (A.zlt i (A.len c)) with e | e
  ·replace a:=cT e a
   refine zT ?_
   refine zk (nT (zs (zb (zs ?_))))
   refine zB ?_ { tk:=[8,10] }
   refine nT (zs (zn ?_))
   obtain ⟨r,m,a⟩:=bindS a
   obtain ⟨u,v⟩:=gtI m
   obtain ⟨q,o,a⟩:=bindS a
   refine zD (K49w hA o) ?_
   refine zF ?_
   refine nT ?_
   rcases tf q with g | g
   ·replace a:=cT g a
    refine zT ?_
    refine zs ?_
    refine zB ?_ { tk:=[5,17] }
    refine nT (zr (rB (rT (rT ?_))))
    refine exL a fun hx => ?_
    subst hx
    refine oxR ?_
    replace b:=(eR (k _ b))
    refine rB (rT ?_)
    cases soI b
    exact zq
   ·replace a:=cF g a
    refine zU ?_
    refine zk (nB (nT ?_))
    refine zB ?_ { tk:=[18] }
    exact nT ⟨_,(soI a).symm,rfl,zv⟩
  ·replace a:=cF e a
   refine zU ?_
   refine AWp.exit (xT (xT ?_))
   refine exL a fun hx => ?_
   subst hx
   exact oxI ⟨rfl,b,zv⟩
 ·rintro _ ⟨b,rfl⟩
  have h:=(eL (k _ b))
  refine xB (nT (zs ?_))
  refine zA ?_
  refine nT (zr ?_)
  cases soI h
  exact zq

theorem K48w {A:Ar} (hA:SA A) {b:List D} {a:Bool} (h:K48 A b=some a):ACall Try.prog 48 [zl 1 b,(.func 49 [] [])] [] (.d (.bool a)) []:=by
 unfold K48 at h
 refine zI Try.func48 ?_
 refine zs ?_
 refine zA ?_
 refine nT (zs (zn ?_))
 obtain ⟨e,c,h⟩:=bindS h
 refine zC (K107w hA c) ?_ { tk:=[8] }
 refine zE ?_ { tk:=[8] }
 refine nT (zr ?_)
 cases soI h
 exact zq

theorem K15w {A:Ar} (hA:SA A) {e:List D} {c:Bool} (h:K15 A e=some c):ACall Try.prog 15 [zl 1 e] [] (.d (.bool c)) []:=by
 unfold K15 at h
 refine zI Try.func15 ?_
 refine zs ?_
 refine zA ?_
 refine nT (zs ?_)
 obtain ⟨k,a,h⟩:=bindS h
 refine AWp.cutN [2] [] 0 (lb rfl) (fun τ=>τ={ env:=[(2,.d (.bool k))],heap:=[],n:=11 }) ?_ ?_
 ·skip
  refine zn ?_
  obtain ⟨j,g,a⟩:=bindS a
  refine zC (K47w hA g) ?_ { tk:=[10] }
  rcases tf j with b | b
  ·replace a:=cT b a
   obtain ⟨l,i,a⟩:=bindS a
   refine zD (K48w hA i) ?_ { tk:=[10] }
   refine zF ?_ { tk:=[10] }
   cases soI a
   exact zO
  ·replace a:=cF b a
   refine zF ?_ { tk:=[10] }
   cases soI a
   exact zO
 ·rintro _ rfl
  refine nT (zr ?_)
  cases soI h
  exact zq

theorem K136w {A:Ar} (hA:SA A) {b:Int} {c:List D} {a:Bool} (h:K136 A b c=some a):ACall Try.prog 136 [zi b,.iptr [.list 1 c]] [] (.d (.bool a)) []:=by
 unfold K136 at h
 refine zI Try.func136 ?_
 refine zs ?_
 refine zA ?_
 refine nT (zs (zn ?_))
 obtain ⟨g,e,h⟩:=bindS h
 refine zC (K47w hA e) ?_ { tk:=[9] }
 refine zE ?_ { tk:=[9] }
 refine nT (zr ?_)
 cases soI h
 exact zq

theorem K162aw {A:Ar} (hA:SA A) {c k:List D} {j:Int} (h:K162a A c k=some j):ACall Try.prog 162 [zl 1 c,(.func 136 [] [.iptr [.list 1 k]])] [] (zi j) []:=by
 unfold K162a at h
 refine zI Try.func162 ?_
 refine zs ?_
 refine zA ?_
 refine nT (zs (zs ?_))
 refine zA ?_
 refine nT (zb ?_)
 obtain ⟨y,q,m,l,b⟩:=bindK h
 refine AWp.cutX 0 [] [] 0 (lb rfl) (fun τ=>m (.inl ())=some j/\τ={ env:=[],heap:=[],n:=19 }) ?_ ?_
 ·skip
  refine AWp.iter q [0,1,7,8] [] 0 (lb rfl) (fun i=>{ env:=[(0,zl 1 c),(1,(.func 136 [] [.iptr [.list 1 k]])),(7,(.d (.int .i64 (A.len c)))),(8,zi i)],heap:=[],n:=19 }) ⟨rfl,zc⟩ ?_
  rintro i u a
  dsimp only [K162aL0] at a
  refine zs ?_
  refine zA ?_
  refine nT (zs ?_)
  rcases tf (A.zlt i (A.len c)) with e | e
  ·replace a:=cT e a
   refine zT ?_
   refine zk (nT (zs (zb (zs ?_))))
   refine zB ?_ { tk:=[8,10] }
   refine nT (zs (zn ?_))
   obtain ⟨s,o,a⟩:=bindS a
   obtain ⟨v,w⟩:=gtI o
   obtain ⟨r,p,a⟩:=bindS a
   refine zD (K136w hA p) ?_
   refine zF ?_
   refine nT ?_
   rcases tf r with g | g
   ·replace a:=cT g a
    refine zT ?_
    refine zs ?_
    refine zB ?_ { tk:=[5,17] }
    refine nT (zr (rB (rT (rT ?_))))
    refine exL a fun hx => ?_
    subst hx
    refine oxR ?_
    replace b:=(eR (l _ b))
    refine rB (rT ?_)
    cases soI b
    exact zq
   ·replace a:=cF g a
    refine zU ?_
    refine zk (nB (nT ?_))
    refine zB ?_ { tk:=[18] }
    exact nT ⟨_,(soI a).symm,rfl,zv⟩
  ·replace a:=cF e a
   refine zU ?_
   refine AWp.exit (xT (xT ?_))
   refine exL a fun hx => ?_
   subst hx
   exact oxI ⟨rfl,b,zv⟩
 ·rintro _ ⟨b,rfl⟩
  have h:=(eL (l _ b))
  refine xB (nT (zs ?_))
  refine zA ?_
  refine nT (zr ?_)
  cases soI h
  exact zq

theorem K135aw {A:Ar} (hA:SA A) {b c:List D} {a:Bool} (h:K135a A b c=some a):ACall Try.prog 135 [zl 1 b,(.func 136 [] [.iptr [.list 1 c]])] [] (.d (.bool a)) []:=by
 unfold K135a at h
 refine zI Try.func135 ?_
 refine zs ?_
 refine zA ?_
 refine nT (zs (zn ?_))
 obtain ⟨g,e,h⟩:=bindS h
 refine zC (K162aw hA e) ?_ { tk:=[8] }
 refine zE ?_ { tk:=[8] }
 refine nT (zr ?_)
 cases soI h
 exact zq

theorem K103w {A:Ar} (hA:SA A) {c e:List D} {g:Bool} (h:K103 A c e=some g):ACall Try.prog 103 [zl 1 c,zl 1 e] [] (.d (.bool g)) []:=by
 unfold K103 at h
 refine zI Try.func103 ?_
 refine zs ?_
 refine zA ?_
 refine nT ?_
 refine AWp.freezeBox 2 [.list 1 c] rfl rfl ?_
 refine zs ?_
 obtain ⟨j,a,h⟩:=bindS h
 refine AWp.cutN [4] [] 0 (lb rfl) (fun τ=>τ={ env:=[(4,.d (.bool j))],heap:=[],n:=14 }) ?_ ?_
 ·skip
  refine zn ?_
  rcases tf (A.zle (A.len e) 3) with b | b
  ·replace a:=cT b a
   obtain ⟨k,i,a⟩:=bindS a
   refine zD (K135aw hA i) ?_ { tk:=[13] }
   refine zF ?_ { tk:=[13] }
   cases soI a
   exact zO
  ·replace a:=cF b a
   refine zF ?_ { tk:=[13] }
   cases soI a
   exact zO
 ·rintro _ rfl
  refine nT (zr ?_)
  cases soI h
  exact zq

theorem K102w {A:Ar} (hA:SA A) {b c:List D} {a:Bool} (h:K102 A b c=some a):ACall Try.prog 102 [zl 1 b,.iptr [.list 1 c]] [] (.d (.bool a)) []:=by
 unfold K102 at h
 refine zI Try.func102 ?_
 refine zs ?_
 refine zA ?_
 refine nT (zs (zn ?_))
 obtain ⟨g,e,h⟩:=bindS h
 refine zC (K103w hA e) ?_ { tk:=[7] }
 refine zE ?_ { tk:=[7] }
 refine nT (zr ?_)
 cases soI h
 exact zq

theorem K134w {A:Ar} (hA:SA A) {c k:List D} {j:Int} (h:K134 A c k=some j):ACall Try.prog 134 [zl 1 c,(.func 102 [] [.iptr [.list 1 k]])] [] (zi j) []:=by
 unfold K134 at h
 refine zI Try.func134 ?_
 refine zs ?_
 refine zA ?_
 refine nT (zs (zs ?_))
 refine zA ?_
 refine nT (zb ?_)
 obtain ⟨y,q,m,l,b⟩:=bindK h
 refine AWp.cutX 0 [] [] 0 (lb rfl) (fun τ=>m (.inl ())=some j/\τ={ env:=[],heap:=[],n:=19 }) ?_ ?_
 ·skip
  refine AWp.iter q [0,1,7,8] [] 0 (lb rfl) (fun i=>{ env:=[(0,zl 1 c),(1,(.func 102 [] [.iptr [.list 1 k]])),(7,(.d (.int .i64 (A.len c)))),(8,zi i)],heap:=[],n:=19 }) ⟨rfl,zc⟩ ?_
  rintro i u a
  dsimp only [K134L0] at a
  refine zs ?_
  refine zA ?_
  refine nT (zs ?_)
  rcases tf (A.zlt i (A.len c)) with e | e
  ·replace a:=cT e a
   refine zT ?_
   refine zk (nT (zs (zb (zs ?_))))
   refine zB ?_ { tk:=[8,10] }
   refine nT (zs (zn ?_))
   obtain ⟨s,o,a⟩:=bindS a
   obtain ⟨v,w⟩:=gtI o
   obtain ⟨r,p,a⟩:=bindS a
   refine zD (K102w hA p) ?_
   refine zF ?_
   refine nT ?_
   rcases tf r with g | g
   ·replace a:=cT g a
    refine zT ?_
    refine zs ?_
    refine zB ?_ { tk:=[5,17] }
    refine nT (zr (rB (rT (rT ?_))))
    refine exL a fun hx => ?_
    subst hx
    refine oxR ?_
    replace b:=(eR (l _ b))
    refine rB (rT ?_)
    cases soI b
    exact zq
   ·replace a:=cF g a
    refine zU ?_
    refine zk (nB (nT ?_))
    refine zB ?_ { tk:=[18] }
    exact nT ⟨_,(soI a).symm,rfl,zv⟩
  ·replace a:=cF e a
   refine zU ?_
   refine AWp.exit (xT (xT ?_))
   refine exL a fun hx => ?_
   subst hx
   exact oxI ⟨rfl,b,zv⟩
 ·rintro _ ⟨b,rfl⟩
  have h:=(eL (l _ b))
  refine xB (nT (zs ?_))
  refine zA ?_
  refine nT (zr ?_)
  cases soI h
  exact zq

theorem K101w {A:Ar} (hA:SA A) {b c:List D} {a:Bool} (h:K101 A b c=some a):ACall Try.prog 101 [zl 1 b,(.func 102 [] [.iptr [.list 1 c]])] [] (.d (.bool a)) []:=by
 unfold K101 at h
 refine zI Try.func101 ?_
 refine zs ?_
 refine zA ?_
 refine nT (zs (zn ?_))
 obtain ⟨g,e,h⟩:=bindS h
 refine zC (K134w hA e) ?_ { tk:=[8] }
 refine zE ?_ { tk:=[8] }
 refine nT (zr ?_)
 cases soI h
 exact zq

theorem K42w {A:Ar} (hA:SA A) {c g:List D} {e:Bool} (h:K42 A c g=some e):ACall Try.prog 42 [zl 1 c,zl 1 g] [] (.d (.bool e)) []:=by
 unfold K42 at h
 refine zI Try.func42 ?_
 refine zs ?_
 refine zA ?_
 refine nT ?_
 refine AWp.freezeBox 2 [.list 1 c] rfl rfl ?_
 refine zs ?_
 obtain ⟨l,a,h⟩:=bindS h
 refine AWp.cutN [4] [] 0 (lb rfl) (fun τ=>τ={ env:=[(4,.d (.bool l))],heap:=[],n:=14 }) ?_ ?_
 ·skip
  refine zn ?_
  obtain ⟨k,i,a⟩:=bindS a
  refine zC (K47w hA i) ?_ { tk:=[13] }
  rcases tf k with b | b
  ·replace a:=cT b a
   obtain ⟨m,j,a⟩:=bindS a
   refine zD (K101w hA j) ?_ { tk:=[13] }
   refine zF ?_ { tk:=[13] }
   cases soI a
   exact zO
  ·replace a:=cF b a
   refine zF ?_ { tk:=[13] }
   cases soI a
   exact zO
 ·rintro _ rfl
  refine nT (zr ?_)
  cases soI h
  exact zq

theorem K89w {A:Ar} (hA:SA A) {e g:List D} {c:Int} (h:K89 A e g=some c):ACall Try.prog 89 [zl 1 e,zl 1 g] [] (zi c) []:=by
 unfold K89 at h
 refine zI Try.func89 ?_
 refine zs ?_
 refine zA ?_
 refine nT (zs (zb (zs (zn ?_))))
 obtain ⟨k,i,h⟩:=bindS h
 refine zC (K15w hA i) ?_
 refine zE ?_
 refine nT ?_
 rcases tf k with a | a
 ·replace h:=cT a h
  refine zU ?_
  refine zs (zn ?_)
  obtain ⟨l,j,h⟩:=bindS h
  refine zD (K42w hA j) ?_
  refine zF ?_
  refine nT ?_
  rcases tf l with b | b
  ·replace h:=cT b h
   refine zU ?_
   refine zk (nB (nT (zs ?_)))
   refine zB ?_
   refine nT (zr ?_)
   cases soI h
   exact zq
  ·replace h:=cF b h
   refine zT ?_
   refine zs ?_
   refine zB ?_
   refine nT (zr (rB (rT ?_)))
   cases soI h
   exact zq
 ·replace h:=cF a h
  refine zT ?_
  refine zs ?_
  refine zB ?_
  refine nT (zr (rB (rT ?_)))
  cases soI h
  exact zq

theorem K69w {A:Ar} (hA:SA A) {c e a b:List D} (h:K69 A c e=some (a,b)):ACall Try.prog 69 [zl 1 c,zl 1 e] [] (.agg [zl 1 a,zl 1 b,zi 0,zi 0,zi 0,zi 0,zi 0,zi 0,zi 0,zi 0,zi 0,zi 0,zi 0,zi 0,zi 0,zi 0,zi 0,zi 0,zi 0,zi 0,.gref 0 6,.gref 3 1]) [.gro 6 [],.dead,.dead,.gro 1 [],.dead,.dead]:=by
 unfold K69 at h
 refine zI Try.func69 ?_
 refine zs ?_
 refine zA ?_ { esc:=[4] }
 refine nT ?_
 refine AWp.weak (Wk.settle 0 20 rfl rfl rfl) ?_
 refine AWp.weak (Wk.settle 0 21 rfl rfl rfl) ?_
 refine zs ?_
 refine zA ?_ { tk:=[7],nl:=[7] }
 refine nT ?_
 refine AWp.weak (Wk.settle 0 20 rfl rfl rfl) ?_
 refine AWp.weak (Wk.settle 0 21 rfl rfl rfl) ?_
 refine AWp.weak (Wk.ren [some 7,some 8,some 9,some 10,some 11,some 12,some 0] [4] rfl rfl) ?_
 refine zr ?_
 cases soI h
 exact zq

theorem K70w {A:Ar} (hA:SA A) {g:Int} {u B:List D} {C E F G J K i j k l m o p q r s v w:Int} {y z:List D} {R:Bool} (h:K70 A g u B C E F G J K i j k l m o p q r s v w y z=some R):ACall Try.prog 70 [.ptr 0 0,zi g] [.cells [zl 1 u,zl 1 B,zi C,zi E,zi F,zi G,zi J,zi K,zi i,zi j,zi k,zi l,zi m,zi o,zi p,zi q,zi r,zi s,zi v,zi w,.gref 1 6,.gref 4 1],.gro 6 y,.dead,.dead,.gro 1 z,.dead,.dead] (.d (.bool R)) [.cells [zl 1 u,zl 1 B,zi C,zi E,zi F,zi G,zi J,zi K,zi i,zi j,zi k,zi l,zi m,zi o,zi p,zi q,zi r,zi s,zi v,zi w,.gref 1 6,.gref 4 1],.gro 6 y,.dead,.dead,.gro 1 z,.dead,.dead]:=by
 unfold K70 at h
 refine zI Try.func70 ?_
 refine zs ?_
 refine zA ?_
 refine nT (zs ?_)
 obtain ⟨g0,a,h⟩:=bindS h
 refine AWp.cutW (fun τ=>τ={ env:=[(4,.d (.bool g0))],heap:=[.cells [zl 1 u,zl 1 B,zi C,zi E,zi F,zi G,zi J,zi K,zi i,zi j,zi k,zi l,zi m,zi o,zi p,zi q,zi r,zi s,zi v,zi w,.gref 1 6,.gref 4 1],.gro 6 y,.dead,.dead,.gro 1 z,.dead,.dead],n:=31 }) ?_ ?_
 ·skip
  refine AWp.regionDraw rfl (lb rfl) ?_
  obtain ⟨e0,S,a⟩:=bindS a
  refine DOps.c0 hT hA { tk:=[30] } rfl zc (K47w hA S) rfl rfl (lb rfl) rfl rfl ?_
  rcases tf e0 with b | b
  ·replace a:=cT b a
   rcases tf (A.zeq g 0) with c | c
   ·replace a:=cT c a
    obtain ⟨W,X,L⟩:=ixF hA (n:=2) c (by decide)
    obtain ⟨i0,U,a⟩:=bindS a
    obtain ⟨Y,M⟩:=gtI U
    have N:=M
    rw [L] at N
    refine DOps.cd hT hA { tk:=[30] } rfl (by (repeat (cbv;simp only [b,W,X,L,N,Y,M]));try cbv) (by kernel_rfl) ?_
    cases soI a
    exact oWi ⟨_,(zR [some 0,some 1,some 2,some 3,some 4,some 5,some 6] [4] (h:=(by first | (cbv;done) | ((repeat (cbv;simp only [b]));try cbv)))),rfl⟩
   ·replace a:=cF c a
    rcases tf (A.zeq g 1) with e | e
    ·replace a:=cT e a
     obtain ⟨a0,b0,O⟩:=ixF hA (n:=2) e (by decide)
     obtain ⟨j0,V,a⟩:=bindS a
     obtain ⟨d0,P⟩:=gtI V
     have Q:=P
     rw [O] at Q
     refine DOps.cd hT hA { tk:=[30] } rfl (by (repeat (cbv;simp only [b,a0,b0,O,Q,d0,P]));try cbv) (by kernel_rfl) ?_
     cases soI a
     exact oWi ⟨_,(zR [some 0,some 1,some 2,some 3,some 4,some 5,some 6] [4] (h:=(by first | (cbv;done) | ((repeat (cbv;simp only [b]));try cbv)))),rfl⟩
    ·replace a:=cF e a
     cases a
  ·replace a:=cF b a
   refine DOps.cd hT hA { tk:=[30] } rfl (by (repeat (cbv;simp only [b]));try cbv) (by kernel_rfl) ?_
   cases soI a
   exact oWi ⟨_,(zR [some 0,some 1,some 2,some 3,some 4,some 5,some 6] [4] (h:=(by first | (cbv;done) | ((repeat (cbv;simp only [b]));try cbv)))),rfl⟩
 ·rintro _ rfl
  refine nT (zr ?_)
  cases soI h
  exact zq

theorem K143w {A:Ar} (hA:SA A) {c i j k l m e:Int} {g:Bool} (h:K143 A c i j k l m e=some g):ACall Try.prog 143 [.d (.agg [.int .i64 c,.int .i64 i,.int .i64 j,.int .i64 k,.int .i64 l,.int .i64 m]),.iptr [.int .i64 e]] [] (.d (.bool g)) []:=by
 unfold K143 at h
 refine zI Try.func143 ?_
 refine zs ?_
 refine zA ?_
 refine nT (zs ?_)
 obtain ⟨o,a,h⟩:=bindS h
 refine AWp.cutN [3] [] 0 (lb rfl) (fun τ=>τ={ env:=[(3,.d (.bool o))],heap:=[],n:=13 }) ?_ ?_
 ·skip
  rcases tf (A.zeq c e) with b | b
  ·replace a:=cT b a
   refine zB ?_ { tk:=[12] }
   cases soI a
   exact zO
  ·replace a:=cF b a
   refine zB ?_ { tk:=[12] }
   cases soI a
   exact zO
 ·rintro _ rfl
  refine nT (zr ?_)
  cases soI h
  exact zq

theorem K166w {A:Ar} (hA:SA A) {M:Int} {r w:List D} {y z B C E F e g i j k l m o p q s u:Int} {b v:List D} {L:Int} (h:K166 A M r w y z B C E F e g i j k l m o p q s u b v=some L):ACall Try.prog 166 [.gref 1 6,(.func 143 [] [.iptr [.int .i64 M]])] [.cells [zl 1 r,zl 1 w,zi y,zi z,zi B,zi C,zi E,zi F,zi e,zi g,zi i,zi j,zi k,zi l,zi m,zi o,zi p,zi q,zi s,zi u,.gref 1 6,.gref 4 1],.gro 6 b,.dead,.dead,.gro 1 v,.dead,.dead] (zi L) [.cells [zl 1 r,zl 1 w,zi y,zi z,zi B,zi C,zi E,zi F,zi e,zi g,zi i,zi j,zi k,zi l,zi m,zi o,zi p,zi q,zi s,zi u,.gref 1 6,.gref 4 1],.gro 6 b,.dead,.dead,.gro 1 v,.dead,.dead]:=by
 unfold K166 at h
 refine zI Try.func166 ?_
 refine zs ?_
 refine zA ?_
 refine nT (zs (zs ?_))
 refine zA ?_
 refine nT (zb ?_)
 obtain ⟨j0,U,O,N,c⟩:=bindK h
 refine AWp.cutXW 0 (fun τ=>O (.inl ())=some L/\τ={ env:=[],heap:=[.cells [zl 1 r,zl 1 w,zi y,zi z,zi B,zi C,zi E,zi F,zi e,zi g,zi i,zi j,zi k,zi l,zi m,zi o,zi p,zi q,zi s,zi u,.gref 1 6,.gref 4 1],.gro 6 b,.dead,.dead,.gro 1 v,.dead,.dead],n:=19 }) ?_ ?_
 ·skip
  refine AWp.iterW U (fun K=>{ env:=[(0,.gref 1 6),(1,(.func 143 [] [.iptr [.int .i64 M]])),(7,(.d (.int .i64 (A.len b)))),(8,zi K)],heap:=[.cells [zl 1 r,zl 1 w,zi y,zi z,zi B,zi C,zi E,zi F,zi e,zi g,zi i,zi j,zi k,zi l,zi m,zi o,zi p,zi q,zi s,zi u,.gref 1 6,.gref 4 1],.gro 6 b,.dead,.dead,.gro 1 v,.dead,.dead],n:=19 }) ⟨_,zR [some 0,some 1,some 2,some 3,some 4,some 5,some 6] [0,1,7,8],rfl⟩ ?_
  rintro K d0 a
  dsimp only [K166L0] at a
  refine zs ?_
  refine zA ?_
  refine nT (zs ?_)
  rcases tf (A.zlt K (A.len b)) with G | G
  ·replace a:=cT G a
   refine zT ?_
   refine zk (nT (zs (zb (zs ?_))))
   refine zB ?_ { tk:=[8,10] }
   refine nT (zs (zn ?_))
   obtain ⟨_,P,a⟩:=bindS a
   have e0:=ckI P
   obtain ⟨_,Q,a⟩:=bindS a
   have g0:=ckI Q
   obtain ⟨⟨W,X,Y,a0,b0,c0⟩,R,a⟩:=bindS a
   have i0:=gcI R
   obtain ⟨V,S,a⟩:=bindS a
   refine zD (K143w hA S) ?_
   refine zF ?_
   refine nT ?_
   rcases tf V with J | J
   ·replace a:=cT J a
    refine zT ?_
    refine zs ?_
    refine zB ?_ { tk:=[5,17] }
    refine nT (zr (rB (rT (rT ?_))))
    refine exL a fun hx => ?_
    subst hx
    refine oxWR ?_
    replace c:=(eR (N _ c))
    refine rB (rT ?_)
    cases soI c
    exact zq
   ·replace a:=cF J a
    refine zU ?_
    refine zk (nB (nT ?_))
    refine zB ?_ { tk:=[18] }
    exact nT ⟨_,(soI a).symm,_,zR [some 0,some 1,some 2,some 3,some 4,some 5,some 6] [0,1,7,8],rfl⟩
  ·replace a:=cF G a
   refine zU ?_
   refine AWp.exit (xT (xT ?_))
   refine exL a fun hx => ?_
   subst hx
   exact oxWI ⟨_,zR [some 0,some 1,some 2,some 3,some 4,some 5,some 6] [],c,rfl⟩
 ·rintro _ ⟨c,rfl⟩
  have h:=(eL (N _ c))
  refine xB (nT (zs ?_))
  refine zA ?_
  refine nT (zr ?_)
  cases soI h
  exact zq
end Go.Am
