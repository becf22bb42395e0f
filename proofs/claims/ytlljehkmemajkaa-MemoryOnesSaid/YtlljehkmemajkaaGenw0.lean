/- Own text: Genw0. -/
import Derived.Test.YtlljehkmemajkaaGenp0
import Derived.Test.YtlljehkmemajkaaAmSrt
import Derived.Test.YtlljehkmemajkaaAmLaw
import Derived.Test.YtlljehkmemajkaaAmSrt
import Derived.Test.YtlljehkmemajkaaAmSrt
import Derived.Test.YtlljehkmemajkaaAmThw
import Derived.Test.YtlljehkmemajkaaAmThw
import Derived.Test.YtlljehkmemajkaaAmThw
import Derived.Test.YtlljehkmemajkaaAmThw
import Derived.Test.YtlljehkmemajkaaAmThw
import Derived.Test.YtlljehkmemajkaaAmSortO
import Derived.Test.YtlljehkmemajkaaAmSrt
import Derived.Test.YtlljehkmemajkaaAmSrt
import Derived.Test.YtlljehkmemajkaaM1T
import Derived.Test.YtlljehkmemajkaaM1K
set_option maxRecDepth 100000
set_option maxHeartbeats 2000000
set_option linter.unusedVariables false
set_option linter.unusedSimpArgs false
namespace Go.Am
open Go Go.Proofs
theorem zqa : (!true) = false := rfl
theorem zqb : (!false) = true := rfl
theorem zqc {α : Type} {a b : α} : cond true a b = a := rfl
theorem zqd {α : Type} {a b : α} : cond false a b = b := rfl
def SA (A:Ar):Prop:=A=Ar.std
section
variable {p:Prop} {A:Ar} {m k t:Nat} {Q:Exit->St->Prop} {K R:St->Prop} {σ σ':St} {ops:Array Oper} {id:Nat} {c x y:Code} {ts sf:List Nat} {b:Bool} {l rest:List Oper} {f:FuncId} {fn:Func} {args:List AV} {o:Oper} {σ1:St} {H Hr H':List Obj} {r:AV} {d:Nat} {xs xs1:List Rec}
theorem zv (h:p:=by first|(cbv;done)|((repeat (cbv;simp only [*]));try cbv)):p:=h
theorem zu (h:p:=by (repeat (cbv;simp only [*]));try cbv):p:=h
theorem zc (h:p:=by cbv):p:=h
theorem zq (h:p:=by exact ⟨rfl,rfl,rfl,lb rfl,_,rfl⟩):p:=h
theorem zA (k:Q .normal σ') (an:Ann:={}) (hA:SA A:=by assumption) (h:runP A T an ops.toList ops.toList σ=.done σ':=by cbv) (hm:m<=σ.heap.length:=by exact lb rfl):AWp Try.prog m (.region id ops false) Q σ:=AWp.rg hT hA an h hm k
theorem zB (k:Q .normal σ') (an:Ann:={}) (hA:SA A:=by assumption) (h:runP A T an ops.toList ops.toList σ=.done σ':=by (repeat (cbv;simp only [*]));try cbv) (hm:m<=σ.heap.length:=by exact lb rfl):AWp Try.prog m (.region id ops false) Q σ:=AWp.rg hT hA an h hm k
theorem zC (hc:ACall Try.prog f args H r H') (k:AOps Try.prog m ops rest Q {σ1 with env:=eset σ1.env d r,heap:=H'++Hr}) (an:Ann:={}) (hA:SA A:=by assumption) (h:runP A T an ops.toList l σ=.call f args o rest σ1:=by cbv) (hm:m<=σ.heap.length:=by exact lb rfl) (hH:σ1.heap=H++Hr:=by exact rfl) (hr:Hr=[]\/H'.length=H.length:=by first|exact .inl rfl|exact .inr rfl) (hi:objsInb H.length H=true:=by exact rfl) (ha:inbL H.length args=true:=by exact rfl) (hd:o.dst=some d:=by exact rfl) (hl:d<σ1.n:=by exact lb rfl) (hb:(σ1.get d).isBox=false:=by exact rfl) (hf:args.all AV.free=true:=by exact rfl):AOps Try.prog m ops l Q σ:=AOps.cc hT hA an h hm hc hH hr hi ha hd hl hb hf k
theorem zD (hc:ACall Try.prog f args H r H') (k:AOps Try.prog m ops rest Q {σ1 with env:=eset σ1.env d r,heap:=H'++Hr}) (an:Ann:={}) (hA:SA A:=by assumption) (h:runP A T an ops.toList l σ=.call f args o rest σ1:=by (repeat (cbv;simp only [*]));try cbv) (hm:m<=σ.heap.length:=by exact lb rfl) (hH:σ1.heap=H++Hr:=by exact rfl) (hr:Hr=[]\/H'.length=H.length:=by first|exact .inl rfl|exact .inr rfl) (hi:objsInb H.length H=true:=by exact rfl) (ha:inbL H.length args=true:=by exact rfl) (hd:o.dst=some d:=by exact rfl) (hl:d<σ1.n:=by exact lb rfl) (hb:(σ1.get d).isBox=false:=by exact rfl) (hf:args.all AV.free=true:=by exact rfl):AOps Try.prog m ops l Q σ:=AOps.cc hT hA an h hm hc hH hr hi ha hd hl hb hf k
theorem zE (k:Q .normal σ') (an:Ann:={}) (hA:SA A:=by assumption) (h:runP A T an ops.toList l σ=.done σ':=by cbv) (hm:m<=σ.heap.length:=by exact lb rfl):AOps Try.prog m ops l Q σ:=AOps.cd hT hA an h hm k
theorem zF (k:Q .normal σ') (an:Ann:={}) (hA:SA A:=by assumption) (h:runP A T an ops.toList l σ=.done σ':=by (repeat (cbv;simp only [*]));try cbv) (hm:m<=σ.heap.length:=by exact lb rfl):AOps Try.prog m ops l Q σ:=AOps.cd hT hA an h hm k
theorem zT (h:AWp Try.prog m x Q σ) (hc:σ.get t=.d (.bool b):=by exact rfl) (hb:b=true:=by first|exact rfl|simp only [*,zqa,zqb,zqc,zqd]):AWp Try.prog m (.cond (.tmp t) x y) Q σ:=AWp.cdT hc hb h
theorem zU (h:AWp Try.prog m y Q σ) (hc:σ.get t=.d (.bool b):=by exact rfl) (hb:b=false:=by first|exact rfl|simp only [*,zqa,zqb,zqc,zqd]):AWp Try.prog m (.cond (.tmp t) x y) Q σ:=AWp.cdF hc hb h
theorem zO (h:σ.fits ts k=true:=by exact rfl) (g:R (σ.fitS ts sf k):=by first|(cbv;done)|((repeat (cbv;simp only [*]));try cbv)):AExit.onN ts sf k R Q .normal σ:=⟨h,g⟩
theorem zR (sel:List (Option Nat)) (ts:List Nat) (hm:okSel m sel 0=true:=by exact rfl) (h:σ.ren sel ts=some σ':=by first|(cbv;done)|((repeat (cbv;simp only [*]));try cbv)):Wk m σ σ':=Wk.ren sel ts hm h
theorem zI (hf:Try.prog.funcs[f]?=some fn) (h:AWp Try.prog H.length c (FnPost T fn H.length r H') {env:=envOf 0 args,heap:=H,n:=fn.ntmps}) (hb:fn.body=some c:=by exact rfl) (hn:fn.name≠"runtime.NumGoroutine":=by decide) (ha:args.length<=fn.ntmps:=by exact lb rfl) (hr:args.all AV.free=true:=by exact rfl) (h1:r.isLocal=false:=by exact rfl) (h2:r.inb H'.length=true:=by exact rfl) (h3:objsInb H'.length H'=true:=by exact rfl) (h4:H.length<=H'.length:=by exact lb rfl):ACall Try.prog f args H r H':=ACall.enter hT hf hb hn ha hr h1 h2 h3 h4 h
end
abbrev zs := @AWp.seq
abbrev zg := @AWp.rg
abbrev zr := @AWp.ret
abbrev zt := @AWp.cdT
abbrev zf := @AWp.cdF
abbrev zn := @AWp.region
abbrev zk := @AWp.skip
abbrev zb := @AWp.block
abbrev zi (x : Int) : AV := .d (.int .i64 x)
abbrev zl (k : Nat) (x : List D) : AV := .d (.list k x)
theorem M17w {A:Ar} (hA:SA A) {c:List D} {i:Bool} (h:M17 A c=some i):ACall Try.prog 17 [zl 1 c] [] (.d (.bool i)) []:=by
 unfold M17 at h
 refine zI Try.func17 ?_
 refine zs ?_
 refine zA ?_
 refine nT (zs (zs ?_))
 refine zA ?_
 refine nT (zb ?_)
 obtain ⟨u,p,l,k,b⟩:=bindK h
 refine AWp.cutX 0 [0] [] 0 (lb rfl) (fun τ=>l (.inl ())=some i/\τ={ env:=[(0,zl 1 c)],heap:=[],n:=19 }) ?_ ?_
 ·skip
  refine AWp.iter p [0,3] [] 0 (lb rfl) (fun j=>{ env:=[(0,zl 1 c),(3,zi j)],heap:=[],n:=19 }) ⟨rfl,zc⟩ ?_
  rintro j q a
  dsimp only [M17L0] at a
  refine zs (zs ?_)
  refine zA ?_
  refine nT ?_
  rcases tf (A.zlt j (A.len c)) with g | g
  ·replace a:=cT g a
   refine zT ?_
   refine zk (nT (zs (zb (zs ?_))))
   obtain ⟨m,o,a⟩:=bindS a
   obtain ⟨r,s⟩:=gtI o
   refine zB ?_
   refine nT ?_
   rcases tf (A.zlt 20 (A.len m)) with e | e
   ·replace a:=cT e a
    refine zT ?_
    refine zs ?_
    refine zB ?_
    refine nT (zr (rB (rT (rT ?_))))
    refine exL a fun hx => ?_
    subst hx
    refine oxR ?_
    replace b:=(eR (k _ b))
    refine rB (rT ?_)
    cases soI b
    exact zq
   ·replace a:=cF e a
    refine zU ?_
    refine zk (nB (nT ?_))
    refine zB ?_
    exact nT ⟨_,(soI a).symm,rfl,zv⟩
  ·replace a:=cF g a
   refine zU ?_
   refine AWp.exit (xT (xT ?_))
   refine exL a fun hx => ?_
   subst hx
   exact oxI ⟨rfl,b,zv⟩
 ·rintro _ ⟨b,rfl⟩
  have h:=(eL (k _ b))
  refine xB (nT (zs ?_))
  refine zA ?_ { tk:=[18] }
  refine nT (zr ?_)
  cases soI h
  exact zq

theorem M66w {A:Ar} (hA:SA A) {c e i:Int} {g:Bool} (h:M66 A c e i=some g):ACall Try.prog 66 [zi c,zi e,zi i] [] (.d (.bool g)) []:=by
 unfold M66 at h
 refine zI Try.func66 ?_
 refine zs ?_
 refine zA ?_
 refine nT (zs ?_)
 obtain ⟨j,a,h⟩:=bindS h
 refine AWp.cutN [6] [] 0 (lb rfl) (fun τ=>τ={ env:=[(6,.d (.bool j))],heap:=[],n:=15 }) ?_ ?_
 ·skip
  rcases tf (A.zle c e) with b | b
  ·replace a:=cT b a
   refine zB ?_ { tk:=[14] }
   cases soI a
   exact zO
  ·replace a:=cF b a
   refine zB ?_ { tk:=[14] }
   cases soI a
   exact zO
 ·rintro _ rfl
  refine nT (zr ?_)
  cases soI h
  exact zq

theorem M67w {A:Ar} (hA:SA A) {e o q:Int} {p:Bool} (h:M67 A e o q=some p):ACall Try.prog 67 [.d (.agg [.int .i64 e,.int .i64 o,.int .i64 q])] [] (.d (.bool p)) []:=by
 unfold M67 at h
 refine zI Try.func67 ?_
 refine zs ?_
 refine zA ?_
 refine nT (zs (zs ?_))
 refine zA ?_
 refine nT (zb (zs ?_))
 refine zA ?_
 refine nT ?_
 rcases tf (A.zeq e 1) with l | l
 ·replace h:=cT l h
  refine zT ?_
  refine zs ?_
  obtain ⟨B,c,h⟩:=bindS h
  refine AWp.cutN [2] [] 0 (lb rfl) (fun τ=>τ={ env:=[(2,.d (.bool B))],heap:=[],n:=38 }) ?_ ?_
  ·skip
   refine zn ?_
   obtain ⟨w,u,c⟩:=bindS c
   refine zD (M66w hA u) ?_ { tk:=[14] }
   rcases tf w with m | m
   ·replace c:=cT m c
    refine zF ?_ { tk:=[14] }
    cases soI c
    exact zO
   ·replace c:=cF m c
    refine zF ?_ { tk:=[14] }
    cases soI c
    exact zO
  ·rintro _ rfl
   refine nT (zr (rB (rT ?_)))
   cases soI h
   exact zq
 ·replace h:=cF l h
  refine zU ?_
  refine zs ?_
  refine zB ?_
  refine nT ?_
  rcases tf (A.zeq e 2) with g | g
  ·replace h:=cT g h
   refine zT ?_
   refine zs ?_
   obtain ⟨y,b,h⟩:=bindS h
   refine AWp.cutN [2] [] 0 (lb rfl) (fun τ=>τ={ env:=[(2,.d (.bool y))],heap:=[],n:=38 }) ?_ ?_
   ·skip
    refine zn ?_
    obtain ⟨v,r,b⟩:=bindS b
    refine zD (M66w hA r) ?_ { tk:=[24] }
    rcases tf v with i | i
    ·replace b:=cT i b
     obtain ⟨C,s,b⟩:=bindS b
     refine zD (M66w hA s) ?_ { tk:=[24] }
     refine zF ?_ { tk:=[24] }
     cases soI b
     exact zO
    ·replace b:=cF i b
     refine zF ?_ { tk:=[24] }
     cases soI b
     exact zO
   ·rintro _ rfl
    refine nT (zr (rB (rT ?_)))
    cases soI h
    exact zq
  ·replace h:=cF g h
   refine zU ?_
   refine zk (nB (nT (zs ?_)))
   obtain ⟨z,a,h⟩:=bindS h
   refine AWp.cutN [2] [] 0 (lb rfl) (fun τ=>τ={ env:=[(2,.d (.bool z))],heap:=[],n:=38 }) ?_ ?_
   ·skip
    rcases tf (A.zeq e 3) with j | j
    ·replace a:=cT j a
     rcases tf (A.zeq o 0) with k | k
     ·replace a:=cT k a
      refine zB ?_ { tk:=[37] }
      cases soI a
      exact zO
     ·replace a:=cF k a
      refine zB ?_ { tk:=[37] }
      cases soI a
      exact zO
    ·replace a:=cF j a
     refine zB ?_ { tk:=[37] }
     cases soI a
     exact zO
   ·rintro _ rfl
    refine nT (zr ?_)
    cases soI h
    exact zq

theorem M24w {A:Ar} (hA:SA A) {e:List D} {z:Bool} (h:M24 A e=some z):ACall Try.prog 24 [zl 1 e] [] (.d (.bool z)) []:=by
 unfold M24 at h
 refine zI Try.func24 ?_
 refine zs ?_
 refine zA ?_
 refine nT (zs (zs (zn ?_)))
 obtain ⟨R,K,h⟩:=bindS h
 refine zC (M66w hA K) ?_
 refine zE ?_
 refine nT ?_
 rcases tf R with p | p
 ·replace h:=cT p h
  refine zU ?_
  refine zk (nT (zs ?_))
  refine zB ?_
  refine nT (zs (zs ?_))
  refine zB ?_
  refine nT (zb ?_)
  obtain ⟨e0,Q,G,l,c⟩:=bindK h
  refine AWp.cutX 0 [3] [] 0 (lb rfl) (fun τ => ∃ y,G (.inl y)=some z/\τ={ env:=[(3,zi y)],heap:=[],n:=59 }) ?_ ?_
  ·skip
   refine AWp.iter Q [0,3,4] [] 0 (lb rfl) (fun (k,j)=>{ env:=[(0,zl 1 e),(3,zi k),(4,zi j)],heap:=[],n:=59 }) ⟨rfl,zv⟩ ?_
   rintro ⟨k,j⟩ O a
   dsimp only [M24L1] at a
   refine zs (zs ?_)
   refine zA ?_
   refine nT ?_
   rcases tf (A.zlt j (A.len e)) with q | q
   ·replace a:=cT q a
    refine zT ?_
    refine zk (nT (zs (zb (zs (zs ?_)))))
    obtain ⟨B,L,a⟩:=bindS a
    obtain ⟨Y,a0⟩:=gtI L
    refine zB ?_
    refine nT ?_
    rcases tf (A.zlt 7 (A.len B)) with r | r
    ·replace a:=cT r a
     refine zT ?_
     refine zs ?_
     refine zB ?_
     refine nT (zr (rT (rB (rT (rT ?_)))))
     refine exL a fun hx => ?_
     subst hx
     refine oxR ?_
     replace c:=(eR (l _ c))
     refine rB (rT ?_)
     cases soI c
     exact zq
    ·replace a:=cF r a
     refine zU ?_
     refine zk (nT (zs ?_))
     refine zB ?_
     refine nT (zs (zs ?_))
     refine zB ?_
     refine nT (zb ?_)
     obtain ⟨d0,P,F,C,g⟩:=bindK a
     refine AWp.cutX 2 [0,3,4,5] [] 0 (lb rfl) (fun τ => ∃ o,F (.inl o)=some O/\τ={ env:=[(0,zl 1 e),(3,zi k),(4,zi j),(5,zi o)],heap:=[],n:=59 }) ?_ ?_
     ·skip
      refine AWp.iter P [0,3,4,5,6] [] 0 (lb rfl) (fun (E,m)=>{ env:=[(0,zl 1 e),(3,zi k),(4,zi j),(5,zi E),(6,zi m)],heap:=[],n:=59 }) ⟨rfl,zv⟩ ?_
      rintro ⟨E,m⟩ X b
      dsimp only [M24L0] at b
      refine zs (zs ?_)
      refine zB ?_
      refine nT ?_
      rcases tf (A.zlt m (A.len B)) with s | s
      ·replace b:=cT s b
       refine zT ?_
       refine zk (nT (zs (zb (zs (zs (zn ?_))))))
       obtain ⟨⟨J,V,W⟩,M,b⟩:=bindS b
       obtain ⟨b0,c0⟩:=gtI M
       obtain ⟨S,N,b⟩:=bindS b
       refine zD (M67w hA N) ?_
       refine zF ?_
       refine nT ?_
       rcases tf S with u | u
       ·replace b:=cT u b
        refine zU ?_
        refine zk (nT (zs ?_))
        refine zB ?_
        refine nT ?_
        obtain ⟨U,i,b⟩:=bindS b
        refine AWp.cutN [0,3,4,5,6] [] 0 (lb rfl) (fun τ=>τ={ env:=[(0,zl 1 e),(3,zi k),(4,zi j),(5,zi U),(6,zi m)],heap:=[],n:=59 }) ?_ ?_
        ·skip
         rcases tf (A.zeq J 3) with v | v
         ·replace i:=cT v i
          refine zU ?_
          refine zk ?_
          cases soI i
          exact zO
         ·replace i:=cF v i
          refine zT ?_
          refine zB ?_
          cases soI i
          exact zO
        ·rintro _ rfl
         refine nB (nT ?_)
         refine zA ?_
         exact nT ⟨_,(soI b).symm,rfl,zc⟩
       ·replace b:=cF u b
        refine zT ?_
        refine zs ?_
        refine zB ?_
        refine nT (zr (rT (rB (rT (rT ?_)))))
        refine exL b fun hx => ?_
        subst hx
        refine oxR ?_
        replace g:=(eR (C _ g))
        refine rB (rT (rB (rT (rT ?_))))
        refine exL g fun hx => ?_
        subst hx
        refine oxR ?_
        replace c:=(eR (l _ c))
        refine rB (rT ?_)
        cases soI c
        exact zq
      ·replace b:=cF s b
       refine zU ?_
       refine AWp.exit (xT (xT ?_))
       refine exL b fun hx => ?_
       subst hx
       exact oxI ⟨rfl,_,g,zv⟩
     ·rintro _ ⟨o,g,rfl⟩
      have a:=(eL (C _ g))
      refine xB (nT (zs (zs ?_)))
      refine zA ?_
      refine nT ?_
      rcases tf (A.zlt 4 o) with w | w
      ·replace a:=cT w a
       refine zT ?_
       refine zs ?_
       refine zB ?_
       refine nT (zr (rT (rB (rT (rT ?_)))))
       refine exL a fun hx => ?_
       subst hx
       refine oxR ?_
       replace c:=(eR (l _ c))
       refine rB (rT ?_)
       cases soI c
       exact zq
      ·replace a:=cF w a
       refine zU ?_
       refine zk (nT ?_)
       refine zB ?_
       refine nB (nT ?_)
       refine zB ?_
       exact nT ⟨_,(soI a).symm,rfl,zv⟩
   ·replace a:=cF q a
    refine zU ?_
    refine AWp.exit (xT (xT ?_))
    refine exL a fun hx => ?_
    subst hx
    exact oxI ⟨rfl,_,c,zv⟩
  ·rintro _ ⟨y,c,rfl⟩
   have h:=(eL (l _ c))
   refine xB (nT (zs ?_))
   refine zA ?_ { tk:=[58] }
   refine nT (zr ?_)
   cases soI h
   exact zq
 ·replace h:=cF p h
  refine zT ?_
  refine zs ?_
  refine zB ?_
  refine nT (zr (rT ?_))
  cases soI h
  exact zq

theorem M65w {A:Ar} (hA:SA A) {c e i:Int} {g:Bool} (h:M65 A c e i=some g):ACall Try.prog 65 [zi c,zi e,zi i] [] (.d (.bool g)) []:=by
 unfold M65 at h
 refine zI Try.func65 ?_
 refine zs ?_
 refine zA ?_
 refine nT (zs ?_)
 obtain ⟨j,a,h⟩:=bindS h
 refine AWp.cutN [6] [] 0 (lb rfl) (fun τ=>τ={ env:=[(6,.d (.bool j))],heap:=[],n:=15 }) ?_ ?_
 ·skip
  rcases tf (A.zle c e) with b | b
  ·replace a:=cT b a
   refine zB ?_ { tk:=[14] }
   cases soI a
   exact zO
  ·replace a:=cF b a
   refine zB ?_ { tk:=[14] }
   cases soI a
   exact zO
 ·rintro _ rfl
  refine nT (zr ?_)
  cases soI h
  exact zq

theorem M62w {A:Ar} (hA:SA A) {c l m:Int} {k:Bool} (h:M62 A c l m=some k):ACall Try.prog 62 [.d (.agg [.int .i64 c,.int .i64 l,.int .i64 m])] [] (.d (.bool k)) []:=by
 unfold M62 at h
 refine zI Try.func62 ?_
 refine zs ?_
 refine zA ?_
 refine nT (zs (zs ?_))
 refine zA ?_
 refine nT (zb (zs ?_))
 refine zA ?_
 refine nT ?_
 rcases tf (A.zeq c 1) with i | i
 ·replace h:=cT i h
  refine zT ?_
  refine zs ?_
  obtain ⟨v,b,h⟩:=bindS h
  refine AWp.cutN [2] [] 0 (lb rfl) (fun τ=>τ={ env:=[(2,.d (.bool v))],heap:=[],n:=28 }) ?_ ?_
  ·skip
   refine zn ?_
   obtain ⟨s,q,b⟩:=bindS b
   refine zD (M65w hA q) ?_ { tk:=[14] }
   rcases tf s with j | j
   ·replace b:=cT j b
    refine zF ?_ { tk:=[14] }
    cases soI b
    exact zO
   ·replace b:=cF j b
    refine zF ?_ { tk:=[14] }
    cases soI b
    exact zO
  ·rintro _ rfl
   refine nT (zr (rB (rT ?_)))
   cases soI h
   exact zq
 ·replace h:=cF i h
  refine zU ?_
  refine zs ?_
  refine zB ?_
  refine nT ?_
  rcases tf (A.zeq c 2) with e | e
  ·replace h:=cT e h
   refine zT ?_
   refine zs ?_
   obtain ⟨u,a,h⟩:=bindS h
   refine AWp.cutN [2] [] 0 (lb rfl) (fun τ=>τ={ env:=[(2,.d (.bool u))],heap:=[],n:=28 }) ?_ ?_
   ·skip
    refine zn ?_
    obtain ⟨r,o,a⟩:=bindS a
    refine zD (M65w hA o) ?_ { tk:=[24] }
    rcases tf r with g | g
    ·replace a:=cT g a
     obtain ⟨w,p,a⟩:=bindS a
     refine zD (M65w hA p) ?_ { tk:=[24] }
     refine zF ?_ { tk:=[24] }
     cases soI a
     exact zO
    ·replace a:=cF g a
     refine zF ?_ { tk:=[24] }
     cases soI a
     exact zO
   ·rintro _ rfl
    refine nT (zr (rB (rT ?_)))
    cases soI h
    exact zq
  ·replace h:=cF e h
   refine zU ?_
   refine zk (nB (nT (zs ?_)))
   refine zB ?_ { tk:=[27] }
   refine nT (zr ?_)
   cases soI h
   exact zq

theorem M61w {A:Ar} (hA:SA A) {b c e:Int} {a:Bool} (h:M61 A b c e=some a):ACall Try.prog 61 [.d (.agg [.int .i64 b,.int .i64 c,.int .i64 e])] [] (.d (.bool a)) []:=by
 unfold M61 at h
 refine zI Try.func61 ?_
 refine zs ?_
 refine zA ?_
 refine nT (zs (zn ?_))
 obtain ⟨i,g,h⟩:=bindS h
 refine zC (M62w hA g) ?_ { tk:=[5] }
 refine zE ?_ { tk:=[5] }
 refine nT (zr ?_)
 cases soI h
 exact zq

theorem M104w {A:Ar} (hA:SA A) {c:List D} {j:Int} (h:M104 A c=some j):ACall Try.prog 104 [zl 3 c,(.func 61 [] [])] [] (zi j) []:=by
 unfold M104 at h
 refine zI Try.func104 ?_
 refine zs ?_
 refine zA ?_
 refine nT (zs (zs ?_))
 refine zA ?_
 refine nT (zb ?_)
 obtain ⟨z,p,l,k,b⟩:=bindK h
 refine AWp.cutX 0 [] [] 0 (lb rfl) (fun τ=>l (.inl ())=some j/\τ={ env:=[],heap:=[],n:=19 }) ?_ ?_
 ·skip
  refine AWp.iter p [0,1,7,8] [] 0 (lb rfl) (fun i=>{ env:=[(0,zl 3 c),(1,(.func 61 [] [])),(7,(.d (.int .i64 (A.len c)))),(8,zi i)],heap:=[],n:=19 }) ⟨rfl,zc⟩ ?_
  rintro i v a
  dsimp only [M104L0] at a
  refine zs ?_
  refine zA ?_
  refine nT (zs ?_)
  rcases tf (A.zlt i (A.len c)) with e | e
  ·replace a:=cT e a
   refine zT ?_
   refine zk (nT (zs (zb (zs ?_))))
   refine zB ?_ { tk:=[8,10] }
   refine nT (zs (zn ?_))
   obtain ⟨⟨r,s,u⟩,m,a⟩:=bindS a
   obtain ⟨w,y⟩:=gtI m
   obtain ⟨q,o,a⟩:=bindS a
   refine zD (M61w hA o) ?_
   refine zF ?_
   refine nT ?_
   rcases tf q with g | g
   ·replace a:=cT g a
    refine zT ?_
    refine zs ?_
    refine zB ?_ { tk:=[5,17] }
    refine nT (zr (rB (rT (rT ?_))))
    refine exL a fun hx => ?_
    subst hx
    refine oxR ?_
    replace b:=(eR (k _ b))
    refine rB (rT ?_)
    cases soI b
    exact zq
   ·replace a:=cF g a
    refine zU ?_
    refine zk (nB (nT ?_))
    refine zB ?_ { tk:=[18] }
    exact nT ⟨_,(soI a).symm,rfl,zv⟩
  ·replace a:=cF e a
   refine zU ?_
   refine AWp.exit (xT (xT ?_))
   refine exL a fun hx => ?_
   subst hx
   exact oxI ⟨rfl,b,zv⟩
 ·rintro _ ⟨b,rfl⟩
  have h:=(eL (k _ b))
  refine xB (nT (zs ?_))
  refine zA ?_
  refine nT (zr ?_)
  cases soI h
  exact zq

theorem M60w {A:Ar} (hA:SA A) {b:List D} {a:Bool} (h:M60 A b=some a):ACall Try.prog 60 [zl 3 b,(.func 61 [] [])] [] (.d (.bool a)) []:=by
 unfold M60 at h
 refine zI Try.func60 ?_
 refine zs ?_
 refine zA ?_
 refine nT (zs (zn ?_))
 obtain ⟨e,c,h⟩:=bindS h
 refine zC (M104w hA c) ?_ { tk:=[8] }
 refine zE ?_ { tk:=[8] }
 refine nT (zr ?_)
 cases soI h
 exact zq

theorem M64w {A:Ar} (hA:SA A) {b c e:Int} {a:Bool} (h:M64 A b c e=some a):ACall Try.prog 64 [.d (.agg [.int .i64 b,.int .i64 c,.int .i64 e])] [] (.d (.bool a)) []:=by
 unfold M64 at h
 refine zI Try.func64 ?_
 refine zs ?_
 refine zA ?_
 refine nT (zs ?_)
 refine zA ?_ { tk:=[5] }
 refine nT (zr ?_)
 cases soI h
 exact zq

theorem M63w {A:Ar} (hA:SA A) {b:List D} {l:Int} (h:M63 A b=some l):ACall Try.prog 63 [zl 3 b,(.func 64 [] [])] [] (zi l) []:=by
 unfold M63 at h
 refine zI Try.func63 ?_
 refine zs ?_
 refine zA ?_
 refine nT (zs ?_)
 refine zA ?_
 refine nT (zs (zs ?_))
 refine zA ?_
 refine nT (zb ?_)
 obtain ⟨F,s,o,r,j⟩:=bindK h
 refine AWp.cutX 0 [5] [] 0 (lb rfl) (fun τ => ∃ k,o k=some l/\τ={ env:=[(5,zi k)],heap:=[],n:=21 }) ?_ ?_
 ·skip
  refine AWp.iter s [1,5,8,9,10] [] 0 (lb rfl) (fun (m,e)=>{ env:=[(1,(.func 64 [] [])),(5,zi m),(8,zl 3 b),(9,(.d (.int .i64 (A.len b)))),(10,zi e)],heap:=[],n:=21 }) ⟨rfl,zc⟩ ?_
  rintro ⟨m,e⟩ B a
  dsimp only [M63L0] at a
  refine zs ?_
  refine zA ?_
  refine nT (zs ?_)
  rcases tf (A.zlt e (A.len b)) with g | g
  ·replace a:=cT g a
   refine zT ?_
   refine zk (nT (zs (zb (zs ?_))))
   obtain ⟨⟨w,y,z⟩,p,a⟩:=bindS a
   obtain ⟨C,E⟩:=gtI p
   refine zB ?_ { tk:=[13] }
   refine nT (zs (zn ?_))
   obtain ⟨u,q,a⟩:=bindS a
   refine zD (M64w hA q) ?_
   refine zF ?_
   refine nT ?_
   obtain ⟨v,c,a⟩:=bindS a
   refine AWp.cutN [1,5,8,9,10] [] 0 (lb rfl) (fun τ=>τ={ env:=[(1,(.func 64 [] [])),(5,zi v),(8,zl 3 b),(9,(.d (.int .i64 (A.len b)))),(10,zi e)],heap:=[],n:=21 }) ?_ ?_
   ·skip
    rcases tf u with i | i
    ·replace c:=cT i c
     refine zT ?_
     refine zB ?_ { tk:=[18] }
     cases soI c
     exact zO
    ·replace c:=cF i c
     refine zU ?_
     refine zk ?_
     cases soI c
     exact zO
   ·rintro _ rfl
    refine nB (nT ?_)
    refine zA ?_
    exact nT ⟨_,(soI a).symm,rfl,zc⟩
  ·replace a:=cF g a
   refine zU ?_
   refine AWp.exit (xT (xT ?_))
   refine exL a fun hx => ?_
   subst hx
   exact oxI ⟨rfl,_,j,zv⟩
 ·rintro _ ⟨k,j,rfl⟩
  have h:=(r _ j)
  refine xB (nT (zs ?_))
  refine zA ?_ { tk:=[5,20] }
  refine nT (zr ?_)
  cases soI h
  exact zq

theorem M23w {A:Ar} (hA:SA A) {c:List D} {r:Bool} (h:M23 A c=some r):ACall Try.prog 23 [zl 1 c] [] (.d (.bool r)) []:=by
 unfold M23 at h
 refine zI Try.func23 ?_
 refine zs ?_
 refine zA ?_
 refine nT (zs ?_)
 refine zA ?_
 refine nT (zs (zs ?_))
 refine zA ?_
 refine nT (zb ?_)
 obtain ⟨Q,F,w,u,g⟩:=bindK h
 refine AWp.cutX 0 [0,3] [] 0 (lb rfl) (fun τ => ∃ q,w (.inl q)=some r/\τ={ env:=[(0,zl 1 c),(3,zi q)],heap:=[],n:=36 }) ?_ ?_
 ·skip
  refine AWp.iter F [0,3,6,7,8] [] 0 (lb rfl) (fun (p,i)=>{ env:=[(0,zl 1 c),(3,zi p),(6,zl 1 c),(7,(.d (.int .i64 (A.len c)))),(8,zi i)],heap:=[],n:=36 }) ⟨rfl,zc⟩ ?_
  rintro ⟨p,i⟩ L a
  dsimp only [M23L0] at a
  refine zs ?_
  refine zA ?_
  refine nT (zs ?_)
  rcases tf (A.zlt i (A.len c)) with j | j
  ·replace a:=cT j a
   refine zT ?_
   refine zk (nT (zs (zb (zs ?_))))
   obtain ⟨s,y,a⟩:=bindS a
   obtain ⟨M,N⟩:=gtI y
   refine zB ?_
   refine nT (zs (zs ?_))
   obtain ⟨v,b,a⟩:=bindS a
   refine AWp.cutN [0,3,5,6,7,8,23] [] 0 (lb rfl) (fun τ=>τ={ env:=[(0,zl 1 c),(3,zi p),(5,zl 3 s),(6,zl 1 c),(7,(.d (.int .i64 (A.len c)))),(8,zi i),(23,.d (.bool v))],heap:=[],n:=36 }) ?_ ?_
   ·skip
    refine zn ?_
    rcases tf (A.zlt 7 (A.len s)) with k | k
    ·replace b:=cT k b
     refine zF ?_
     cases soI b
     exact zO
    ·replace b:=cF k b
     obtain ⟨G,z,b⟩:=bindS b
     refine zD (M60w hA z) ?_
     rcases tf G with l | l
     ·replace b:=cT l b
      refine zF ?_
      cases soI b
      exact zO
     ·replace b:=cF l b
      obtain ⟨O,B,b⟩:=bindS b
      refine zD (M63w hA B) ?_
      refine zF ?_
      cases soI b
      exact zO
   ·rintro _ rfl
    refine nT ?_
    rcases tf v with m | m
    ·replace a:=cT m a
     refine zT ?_
     refine zs ?_
     refine zB ?_
     refine nT (zr (rT (rB (rT (rT ?_)))))
     refine exL a fun hx => ?_
     subst hx
     refine oxR ?_
     replace g:=(eR (u _ g))
     refine rB (rT ?_)
     cases soI g
     exact zq
    ·replace a:=cF m a
     refine zU ?_
     refine zk (nT (zn ?_))
     obtain ⟨P,C,a⟩:=bindS a
     refine zD (M63w hA C) ?_
     refine zF ?_
     refine nB (nT ?_)
     refine zB ?_
     exact nT ⟨_,(soI a).symm,rfl,zv⟩
  ·replace a:=cF j a
   refine zU ?_
   refine AWp.exit (xT (xT ?_))
   refine exL a fun hx => ?_
   subst hx
   exact oxI ⟨rfl,_,g,zv⟩
 ·rintro _ ⟨q,g,rfl⟩
  have h:=(eL (u _ g))
  refine xB (nT (zs ?_))
  obtain ⟨K,e,h⟩:=bindS h
  refine AWp.cutN [2] [] 0 (lb rfl) (fun τ=>τ={ env:=[(2,.d (.bool K))],heap:=[],n:=36 }) ?_ ?_
  ·skip
   refine zn ?_
   obtain ⟨J,E,e⟩:=bindS e
   refine zC (M65w hA E) ?_ { tk:=[35] }
   rcases tf J with o | o
   ·replace e:=cT o e
    refine zF ?_ { tk:=[35] }
    cases soI e
    exact zO
   ·replace e:=cF o e
    refine zF ?_ { tk:=[35] }
    cases soI e
    exact zO
  ·rintro _ rfl
   refine nT (zr ?_)
   cases soI h
   exact zq

theorem M95w {A:Ar} (hA:SA A) {a g:Int} (h:M95 A a=some g):ACall Try.prog 95 [zi a] [] (.d (.iface g)) []:=by
 unfold M95 at h
 refine zI Try.func95 ?_
 refine zs ?_
 refine zA ?_
 refine nT (zs (zs ?_))
 refine zA ?_
 refine nT (zb (zs ?_))
 refine zA ?_
 refine nT ?_
 rcases tf (A.zeq a 1) with b | b
 ·replace h:=cT b h
  refine zT ?_
  refine zs ?_
  refine zB ?_ { tk:=[7] }
  refine nT (zr (rB (rT ?_)))
  cases soI h
  exact zq
 ·replace h:=cF b h
  refine zU ?_
  refine zs ?_
  refine zB ?_
  refine nT ?_
  rcases tf (A.zeq a 2) with c | c
  ·replace h:=cT c h
   refine zT ?_
   refine zs ?_
   refine zB ?_ { tk:=[11] }
   refine nT (zr (rB (rT ?_)))
   cases soI h
   exact zq
  ·replace h:=cF c h
   refine zU ?_
   refine zs ?_
   refine zB ?_
   refine nT ?_
   rcases tf (A.zeq a 3) with e | e
   ·replace h:=cT e h
    refine zT ?_
    refine zs ?_
    refine zB ?_ { tk:=[15] }
    refine nT (zr (rB (rT ?_)))
    cases soI h
    exact zq
   ·replace h:=cF e h
    refine zU ?_
    refine zk (nB (nT (zs ?_)))
    refine zB ?_
    refine nT (zr ?_)
    cases soI h
    exact zq

theorem M55w {A:Ar} (hA:SA A) {q c l:List D} {m:Int} (h:M55 A q c=some (l,m)):ACall Try.prog 55 [zl 1 q,zl 1 c] [] (.tuple [zl 1 l,zi m]) []:=by
 unfold M55 at h
 refine zI Try.func55 ?_
 refine zs ?_
 refine zA ?_
 refine nT (zs (zs (zn ?_)))
 obtain ⟨B,w,h⟩:=bindS h
 refine zC (M23w hA w) ?_
 refine zE ?_
 refine nT ?_
 rcases tf B with i | i
 ·replace h:=cT i h
  refine zU ?_
  refine zk (nT (zs ?_))
  refine zB ?_
  refine nT (zs (zs ?_))
  refine zB ?_
  refine nT (zb ?_)
  obtain ⟨M,y,r,o,b⟩:=bindK h
  refine AWp.cutX 0 [6] [] 0 (lb rfl) (fun τ => ∃ k,r (.inl k)=some (l,m)/\τ={ env:=[(6,(.own 1 k))],heap:=[],n:=29 }) ?_ ?_
  ·skip
   refine AWp.iter y [6,13,14,15] [] 0 (lb rfl) (fun (p,j)=>{ env:=[(6,(.own 1 p)),(13,zl 1 c),(14,(.d (.int .i64 (A.len c)))),(15,zi j)],heap:=[],n:=29 }) ⟨rfl,zv⟩ ?_
   rintro ⟨p,j⟩ E a
   dsimp only [M55L0] at a
   refine zs ?_
   refine zA ?_
   refine nT (zs ?_)
   rcases tf (A.zlt j (A.len c)) with e | e
   ·replace a:=cT e a
    refine zT ?_
    refine zk (nT (zs (zb (zs ?_))))
    obtain ⟨C,s,a⟩:=bindS a
    obtain ⟨F,G⟩:=gtI s
    refine zB ?_
    refine nT (zs (zn ?_))
    obtain ⟨z,u,a⟩:=bindS a
    refine zD (M95w hA u) ?_
    refine zF ?_
    refine nT (zs (zs ?_))
    refine zB ?_
    refine nT ?_
    rcases tf (A.zlt z 0) with g | g
    ·replace a:=cT g a
     refine zT ?_
     refine zs ?_
     refine zB ?_
     refine nT (zr (rT (rB (rT (rT ?_)))))
     refine exL a fun hx => ?_
     subst hx
     refine oxR ?_
     replace b:=(eR (o _ b))
     refine rB (rT ?_)
     cases soI b
     exact zq
    ·replace a:=cF g a
     refine zU ?_
     refine zk (nT ?_)
     obtain ⟨L,v,a⟩:=bindS a
     obtain ⟨J,K⟩:=apI v
     refine zB ?_ { tk:=[6,26] }
     refine nB (nT ?_)
     refine zB ?_
     exact nT ⟨_,(soI a).symm,rfl,zv⟩
   ·replace a:=cF e a
    refine zU ?_
    refine AWp.exit (xT (xT ?_))
    refine exL a fun hx => ?_
    subst hx
    exact oxI ⟨rfl,_,b,zv⟩
  ·rintro _ ⟨k,b,rfl⟩
   have h:=(eL (o _ b))
   refine xB (nT (zs ?_))
   refine zA ?_
   refine nT (zr ?_)
   cases soI h
   exact zq
 ·replace h:=cF i h
  refine zT ?_
  refine zs ?_
  refine zB ?_
  refine nT (zr (rT ?_))
  cases soI h
  exact zq

theorem M77w {A:Ar} (hA:SA A) {g c:List D} {m:Bool} (h:M77 A g c=some m):ACall Try.prog 77 [.d (.agg g),zl 1 c] [] (.d (.bool m)) []:=by
 unfold M77 at h
 refine zI Try.func77 ?_
 refine zs ?_
 obtain ⟨_,y,h⟩:=bindS h
 have L:=ckI y
 refine zB ?_ { arr:=[2] }
 refine nT (zs (zs ?_))
 refine zA ?_
 refine nT (zb ?_)
 obtain ⟨W,G,q,o,e⟩:=bindK h
 refine AWp.cutX 0 [] [] 1 (lb rfl) (fun τ=>q (.inl ())=some m/\τ={ env:=[],heap:=[(.arr 1 g)],n:=31 }) ?_ ?_
 ·skip
  refine AWp.iter G [1,2,7,8] [] 1 (lb rfl) (fun i=>{ env:=[(1,zl 1 c),(2,.ptr 0 0),(7,(.d (.int .i64 (A.len c)))),(8,zi i)],heap:=[(.arr 1 g)],n:=31 }) ⟨rfl,zc⟩ ?_
  rintro i K b
  dsimp only [M77L0] at b
  refine zs ?_
  refine zA ?_
  refine nT (zs ?_)
  rcases tf (A.zlt i (A.len c)) with j | j
  ·replace b:=cT j b
   refine zT ?_
   refine zk (nT (zs (zb (zs ?_))))
   refine zB ?_
   refine nT (zs ?_)
   obtain ⟨p,a,b⟩:=bindS b
   refine AWp.cutN [1,2,7,8,29] [] 1 (lb rfl) (fun τ=>τ={ env:=[(1,zl 1 c),(2,.ptr 0 0),(7,(.d (.int .i64 (A.len c)))),(8,zi i),(29,.d (.bool p))],heap:=[(.arr 1 g)],n:=31 }) ?_ ?_
   ·skip
    obtain ⟨_,u,a⟩:=bindS a
    have M:=ckI u
    obtain ⟨_,v,a⟩:=bindS a
    have N:=ckI v
    obtain ⟨r,w,a⟩:=bindS a
    have O:=gcI w
    obtain ⟨s,z,a⟩:=bindS a
    obtain ⟨P,Q⟩:=gtI z
    obtain ⟨_,B,a⟩:=bindS a
    have R:=nkI B
    rcases tf (A.zeq r (A.wrp .u8 (A.zsub (A.shl .u8 1 (A.len s)) 1))) with k | k
    ·replace a:=cT k a
     obtain ⟨_,C,a⟩:=bindS a
     have S:=ckI C
     obtain ⟨_,E,a⟩:=bindS a
     have U:=ckI E
     obtain ⟨J,F,a⟩:=bindS a
     have V:=gcI F
     refine AWp.rd hT hA {} rfl zu (by kernel_rfl) (lb rfl) ?_
     cases soI a
     exact zO
    ·replace a:=cF k a
     refine AWp.rd hT hA {} rfl zu (by kernel_rfl) (lb rfl) ?_
     cases soI a
     exact zO
   ·rintro _ rfl
    refine nT ?_
    rcases tf p with l | l
    ·replace b:=cT l b
     refine zT ?_
     refine zs ?_
     refine zB ?_
     refine nT (zr (rB (rT (rT ?_))))
     refine exL b fun hx => ?_
     subst hx
     refine oxR ?_
     replace e:=(eR (o _ e))
     refine rB (rT ?_)
     cases soI e
     exact zq
    ·replace b:=cF l b
     refine zU ?_
     refine zk (nB (nT ?_))
     refine zB ?_
     exact nT ⟨_,(soI b).symm,rfl,zv⟩
  ·replace b:=cF j b
   refine zU ?_
   refine AWp.exit (xT (xT ?_))
   refine exL b fun hx => ?_
   subst hx
   exact oxI ⟨rfl,e,zv⟩
 ·rintro _ ⟨e,rfl⟩
  have h:=(eL (o _ e))
  refine xB (nT (zs ?_))
  refine zA ?_
  refine nT (zr ?_)
  cases soI h
  exact zq

theorem M80w {A:Ar} (hA:SA A) {b c e:Int} {a:Bool} (h:M80 A b c e=some a):ACall Try.prog 80 [.d (.agg [.int .i64 b,.int .i64 c,.int .i64 e])] [] (.d (.bool a)) []:=by
 unfold M80 at h
 refine zI Try.func80 ?_
 refine zs ?_
 refine zA ?_
 refine nT (zs ?_)
 refine zA ?_ { tk:=[5] }
 refine nT (zr ?_)
 cases soI h
 exact zq

theorem M63aw {A:Ar} (hA:SA A) {b:List D} {l:Int} (h:M63a A b=some l):ACall Try.prog 63 [zl 3 b,(.func 80 [] [])] [] (zi l) []:=by
 unfold M63a at h
 refine zI Try.func63 ?_
 refine zs ?_
 refine zA ?_
 refine nT (zs ?_)
 refine zA ?_
 refine nT (zs (zs ?_))
 refine zA ?_
 refine nT (zb ?_)
 obtain ⟨F,s,o,r,j⟩:=bindK h
 refine AWp.cutX 0 [5] [] 0 (lb rfl) (fun τ => ∃ k,o k=some l/\τ={ env:=[(5,zi k)],heap:=[],n:=21 }) ?_ ?_
 ·skip
  refine AWp.iter s [1,5,8,9,10] [] 0 (lb rfl) (fun (m,e)=>{ env:=[(1,(.func 80 [] [])),(5,zi m),(8,zl 3 b),(9,(.d (.int .i64 (A.len b)))),(10,zi e)],heap:=[],n:=21 }) ⟨rfl,zc⟩ ?_
  rintro ⟨m,e⟩ B a
  dsimp only [M63aL0] at a
  refine zs ?_
  refine zA ?_
  refine nT (zs ?_)
  rcases tf (A.zlt e (A.len b)) with g | g
  ·replace a:=cT g a
   refine zT ?_
   refine zk (nT (zs (zb (zs ?_))))
   obtain ⟨⟨w,y,z⟩,p,a⟩:=bindS a
   obtain ⟨C,E⟩:=gtI p
   refine zB ?_ { tk:=[13] }
   refine nT (zs (zn ?_))
   obtain ⟨u,q,a⟩:=bindS a
   refine zD (M80w hA q) ?_
   refine zF ?_
   refine nT ?_
   obtain ⟨v,c,a⟩:=bindS a
   refine AWp.cutN [1,5,8,9,10] [] 0 (lb rfl) (fun τ=>τ={ env:=[(1,(.func 80 [] [])),(5,zi v),(8,zl 3 b),(9,(.d (.int .i64 (A.len b)))),(10,zi e)],heap:=[],n:=21 }) ?_ ?_
   ·skip
    rcases tf u with i | i
    ·replace c:=cT i c
     refine zT ?_
     refine zB ?_ { tk:=[18] }
     cases soI c
     exact zO
    ·replace c:=cF i c
     refine zU ?_
     refine zk ?_
     cases soI c
     exact zO
   ·rintro _ rfl
    refine nB (nT ?_)
    refine zA ?_
    exact nT ⟨_,(soI a).symm,rfl,zc⟩
  ·replace a:=cF g a
   refine zU ?_
   refine AWp.exit (xT (xT ?_))
   refine exL a fun hx => ?_
   subst hx
   exact oxI ⟨rfl,_,j,zv⟩
 ·rintro _ ⟨k,j,rfl⟩
  have h:=(r _ j)
  refine xB (nT (zs ?_))
  refine zA ?_ { tk:=[5,20] }
  refine nT (zr ?_)
  cases soI h
  exact zq

theorem M107w {A:Ar} (hA:SA A) {c d:Int} {a b:List D} (h:M107 A c d a=some b):ACall Try.prog 107 [.mref 0 1 c d] [(.arr 1 a)] (.own 1 b) [(.arr 1 a)]:=by
 unfold M107 at h
 refine zI Try.func107 ?_
 refine zs ?_
 refine zA ?_
 refine nT (zs (zs ?_))
 refine zA ?_
 refine nT ?_
 refine zU ?_
 refine zk (nT (zs ?_))
 obtain ⟨_,g,h⟩:=bindS h
 have k:=ckI g
 obtain ⟨l,e,h⟩:=bindS h
 obtain ⟨i,j⟩:=apI e
 refine zB ?_ { tk:=[7] }
 refine nT (zr ?_)
 cases soI h
 exact zq

theorem M78w {A:Ar} (hA:SA A) {g c e:List D} (h:M78 A g c=some e):ACall Try.prog 78 [.d (.agg g),zl 1 c] [] (.own 1 e) []:=by
 unfold M78 at h
 refine zI Try.func78 ?_
 refine zs ?_
 obtain ⟨_,N,h⟩:=bindS h
 have f3:=ckI N
 refine zB ?_ { arr:=[2] }
 refine nT (zs ?_)
 refine zA ?_
 refine nT (zs ?_)
 refine zA ?_
 refine nT (zs (zs ?_))
 refine zA ?_
 refine nT (zb ?_)
 obtain ⟨a1,V,v,S,k⟩:=bindK h
 refine AWp.cutX 0 [2,5,6] [] 1 (lb rfl) (fun τ => ∃ p,v p=some e/\τ={ env:=[(2,.ptr 0 0),(5,(.own 1 [])),(6,zi p)],heap:=[(.arr 1 g)],n:=41 }) ?_ ?_
 ·skip
  refine AWp.iter V [2,5,6,11,12,13] [] 1 (lb rfl) (fun (s,o)=>{ env:=[(2,.ptr 0 0),(5,(.own 1 [])),(6,zi s),(11,zl 1 c),(12,(.d (.int .i64 (A.len c)))),(13,zi o)],heap:=[(.arr 1 g)],n:=41 }) ⟨rfl,zc⟩ ?_
  rintro ⟨s,o⟩ a0 a
  dsimp only [M78L0] at a
  refine zs ?_
  refine zA ?_
  refine nT (zs ?_)
  rcases tf (A.zlt o (A.len c)) with i | i
  ·replace a:=cT i a
   refine zT ?_
   refine zk (nT (zs (zb (zs ?_))))
   obtain ⟨X,y,a⟩:=bindS a
   obtain ⟨c0,d0⟩:=gtI y
   refine zB ?_
   refine nT (zn ?_)
   obtain ⟨y0,z,a⟩:=bindS a
   refine zD (M63aw hA z) ?_
   refine zF ?_
   refine nB (nT ?_)
   refine zB ?_
   exact nT ⟨_,(soI a).symm,rfl,zv⟩
  ·replace a:=cF i a
   refine zU ?_
   refine AWp.exit (xT (xT ?_))
   refine exL a fun hx => ?_
   subst hx
   exact oxI ⟨rfl,_,k,zv⟩
 ·rintro _ ⟨p,k,rfl⟩
  have h:=(S _ k)
  refine xB (nT (zs (zs ?_)))
  refine AWp.regionDraw rfl (lb rfl) ?_
  obtain ⟨_,B,h⟩:=bindS h
  have e0:=ckI B
  obtain ⟨_,C,h⟩:=bindS h
  have g0:=ckI C
  obtain ⟨_,E,h⟩:=bindS h
  have i0:=ckI E
  obtain ⟨_,F,h⟩:=bindS h
  have j0:=ckI F
  obtain ⟨z0,G,h⟩:=bindS h
  refine DOps.cp hT hA {} rfl zu (M107w hA G) rfl rfl rfl rfl (lb rfl) rfl rfl ?_
  obtain ⟨_,J,h⟩:=bindS h
  have k0:=ckI J
  obtain ⟨_,K,h⟩:=bindS h
  have l0:=ckI K
  obtain ⟨_,L,h⟩:=bindS h
  have m0:=ckI L
  obtain ⟨_,M,h⟩:=bindS h
  have n0:=ckI M
  obtain ⟨_,P,h⟩:=bindS h
  have q0:=ckI P
  obtain ⟨m,O,h⟩:=bindS h
  obtain ⟨o0,p0⟩:=apI O
  refine DOps.cd hT hA {} rfl zu (by kernel_rfl) ?_
  refine nT (zb ?_)
  refine AWp.weak (Wk.ren [] [5,28,29,30] rfl rfl) ?_
  obtain ⟨b1,W,w,U,l⟩:=bindK h
  refine AWp.cutX 2 [5] [] 0 (lb rfl) (fun τ => ∃ r,w r=some e/\τ={ env:=[(5,(.own 1 r))],heap:=[],n:=41 }) ?_ ?_
  ·skip
   refine AWp.iter W [5,28,29,30] [] 0 (lb rfl) (fun (u,q)=>{ env:=[(5,(.own 1 u)),(28,(.own 1 m)),(29,(.d (.int .i64 (A.len m)))),(30,zi q)],heap:=[],n:=41 }) ⟨rfl,zc⟩ ?_
   rintro ⟨u,q⟩ b0 b
   dsimp only [M78L1] at b
   refine zs ?_
   refine zA ?_
   refine nT (zs ?_)
   rcases tf (A.zlt q (A.len m)) with j | j
   ·replace b:=cT j b
    refine zT ?_
    refine zk (nT (zs (zb (zs ?_))))
    obtain ⟨Y,Q,b⟩:=bindS b
    obtain ⟨r0,s0⟩:=gtI Q
    refine zB ?_
    refine nT ?_
    obtain ⟨w0,R,b⟩:=bindS b
    obtain ⟨u0,v0⟩:=apI R
    refine zB ?_ { tk:=[5,38] }
    refine nB (nT ?_)
    refine zB ?_
    exact nT ⟨_,(soI b).symm,rfl,zv⟩
   ·replace b:=cF j b
    refine zU ?_
    refine AWp.exit (xT (xT ?_))
    refine exL b fun hx => ?_
    subst hx
    exact oxI ⟨rfl,_,l,zv⟩
  ·rintro _ ⟨r,l,rfl⟩
   have h:=(U _ l)
   refine xB (nT (zs ?_))
   refine zA ?_ { tk:=[5,40] }
   refine nT (zr ?_)
   cases soI h
   exact zq

theorem M75w {A:Ar} (hA:SA A) {b:List D} {k j:Int} (h:M75 A b k=some j):ACall Try.prog 75 [.d (.agg b),zi k] [] (zi j) []:=by
 unfold M75 at h
 refine zI Try.func75 ?_
 refine zs ?_
 obtain ⟨_,s,h⟩:=bindS h
 have E:=ckI s
 refine zB ?_ { arr:=[2] }
 refine nT (zs ?_)
 refine zA ?_
 refine nT (zs (zb ?_))
 obtain ⟨F,v,l,u,e⟩:=bindK h
 refine AWp.cutX 0 [5] [] 1 (lb rfl) (fun τ => ∃ i,l i=some j/\τ={ env:=[(5,zi i)],heap:=[(.arr 1 b)],n:=17 }) ?_ ?_
 ·skip
  refine AWp.iter v [1,2,5] [] 1 (lb rfl) (fun g=>{ env:=[(1,zi k),(2,.ptr 0 0),(5,zi g)],heap:=[(.arr 1 b)],n:=17 }) ⟨rfl,zc⟩ ?_
  rintro g w a
  dsimp only [M75L0] at a
  refine zs (zs ?_)
  obtain ⟨_,o,a⟩:=bindS a
  have y:=ckI o
  obtain ⟨_,p,a⟩:=bindS a
  have z:=ckI p
  obtain ⟨m,q,a⟩:=bindS a
  have B:=gcI q
  obtain ⟨_,r,a⟩:=bindS a
  have C:=nkI r
  refine zB ?_
  refine nT ?_
  rcases tf (A.zeq (A.bits .and .u8 (A.shr .u8 m g) 1) 1) with c | c
  ·replace a:=cT c a
   refine zT ?_
   refine zk (nT (zb ?_))
   refine zB ?_ { tk:=[15] }
   refine nB ?_
   exact nT ⟨_,(soI a).symm,rfl,zv⟩
  ·replace a:=cF c a
   refine zU ?_
   refine AWp.exit (xT (xT ?_))
   refine exL a fun hx => ?_
   subst hx
   exact oxI ⟨rfl,_,e,zv⟩
 ·rintro _ ⟨i,e,rfl⟩
  have h:=(u _ e)
  refine xB (nT (zs ?_))
  refine zA ?_ { tk:=[5,16] }
  refine nT (zr ?_)
  cases soI h
  exact zq

theorem M106w {A:Ar} (hA:SA A) {l:List D} {m o j:Int} (h:M106 A l m o=some j):ACall Try.prog 106 [zl 1 l,zi m,zi o] [] (zi j) []:=by
 unfold M106 at h
 refine zI Try.func106 ?_
 refine zs ?_
 refine zA ?_
 refine nT (zs (zn ?_))
 obtain ⟨C,v,h⟩:=bindS h
 obtain ⟨R,S⟩:=gtI v
 obtain ⟨U,w,h⟩:=bindS h
 obtain ⟨F,G,J,K⟩:=slI w
 obtain ⟨V,q,h⟩:=bindS h
 refine zD (M63aw hA q) ?_ { tk:=[16] }
 refine zF ?_ { tk:=[16] }
 refine nT (zs (zs ?_))
 obtain ⟨e,r,h⟩:=bindS h
 obtain ⟨L,M,N,O⟩:=slI r
 refine zB ?_
 refine nT (zb ?_)
 obtain ⟨X,z,p,y,c⟩:=bindK h
 refine AWp.cutX 0 [7] [] 0 (lb rfl) (fun τ => ∃ i,p i=some j/\τ={ env:=[(7,zi i)],heap:=[],n:=31 }) ?_ ?_
 ·skip
  refine AWp.iter z [7,19,20,21] [] 0 (lb rfl) (fun (k,g)=>{ env:=[(7,zi k),(19,zl 1 e),(20,(.d (.int .i64 (A.len e)))),(21,zi g)],heap:=[],n:=31 }) ⟨rfl,zc⟩ ?_
  rintro ⟨k,g⟩ E a
  dsimp only [M106L0] at a
  refine zs ?_
  refine zA ?_
  refine nT (zs ?_)
  rcases tf (A.zlt g (A.len e)) with b | b
  ·replace a:=cT b a
   refine zT ?_
   refine zk (nT (zs (zb (zs ?_))))
   obtain ⟨B,s,a⟩:=bindS a
   obtain ⟨P,Q⟩:=gtI s
   refine zB ?_
   refine nT (zn ?_)
   obtain ⟨W,u,a⟩:=bindS a
   refine zD (M63aw hA u) ?_ { tk:=[28] }
   refine zF ?_ { tk:=[28] }
   refine nB (nT ?_)
   refine zB ?_
   exact nT ⟨_,(soI a).symm,rfl,zv⟩
  ·replace a:=cF b a
   refine zU ?_
   refine AWp.exit (xT (xT ?_))
   refine exL a fun hx => ?_
   subst hx
   exact oxI ⟨rfl,_,c,zv⟩
 ·rintro _ ⟨i,c,rfl⟩
  have h:=(y _ c)
  refine xB (nT (zs ?_))
  refine zA ?_ { tk:=[7,30] }
  refine nT (zr ?_)
  cases soI h
  exact zq

theorem M76w {A:Ar} (hA:SA A) {j k:List D} {l m:Int} {i:List D} (h:M76 A j k l m=some i):ACall Try.prog 76 [.d (.agg j),zl 1 k,zi l,zi m] [] (.d (.agg i)) []:=by
 unfold M76 at h
 refine zI Try.func76 ?_
 refine zs ?_
 obtain ⟨_,J,h⟩:=bindS h
 have f5:=ckI J
 refine zB ?_ { arr:=[4,8] }
 refine nT (zs ?_)
 obtain ⟨_,O,h⟩:=bindS h
 have f9:=ckI O
 obtain ⟨_,P,h⟩:=bindS h
 have i0:=ckI P
 obtain ⟨S,o,h⟩:=bindS h
 have j0:=gcI o
 obtain ⟨_,p,h⟩:=bindS h
 have k0:=nkI p
 obtain ⟨_,q,h⟩:=bindS h
 have l0:=ckI q
 obtain ⟨_,r,h⟩:=bindS h
 have m0:=ckI r
 obtain ⟨Y,d0,h⟩:=bindS h
 refine AWp.rd hT hA { tk:=[16] } rfl zu (by kernel_rfl) (lb rfl) ?_
 refine nT (zs (zs ?_))
 obtain ⟨U,s,h⟩:=bindS h
 obtain ⟨n0,o0⟩:=gtI s
 obtain ⟨⟨g,V,W⟩,u,h⟩:=bindS h
 obtain ⟨p0,q0⟩:=gtI u
 refine zB ?_ { tk:=[25] }
 refine nT (zs ?_)
 refine zA ?_
 refine nT (zb (zs ?_))
 refine zA ?_
 refine nT ?_
 obtain ⟨R,a,h⟩:=bindS h
 refine AWp.cutN [4,8] [] 2 (lb rfl) (fun τ=>τ={ env:=[(4,.ptr 0 0),(8,.ptr 1 0)],heap:=[(.arr 1 R),(.arr 1 ((.int .u8 0)::(.int .u8 0)::(.int .u8 0)::(.int .i8 0)::(.int .i8 0)::(.int .i8 0)::(.int .i8 0)::(.int .i8 0)::(.int .i8 0)::(.int .i8 0)::(.int .i8 0)::(.int .i8 0)::(.int .i8 0)::(.int .i8 0)::(.int .i8 0)::(.int .i8 0)::(.int .i8 0)::(.int .i8 0)::(.int .i8 0)::(.int .i8 0)::(.int .i8 0)::(.int .i8 0)::(.int .i8 0)::(.int .i8 0)::(.int .i8 0)::(.int .i8 0)::(.int .i8 0)::(.int .i8 0)::(.int .i8 0)::(.int .i8 0)::(.int .i8 0)::(.int .i8 0)::(.int .i8 0)::(.int .i8 0)::(.int .i8 0)::(.int .i8 0)::(.int .i8 0)::(.int .i8 0)::(.int .i64 0)::(.int .i64 0)::(.int .i64 0)::[]))],n:=51 }) ?_ ?_
 ·skip
  rcases tf (A.zeq g 1) with c | c
  ·replace a:=cT c a
   refine zT ?_
   refine AWp.regionDraw rfl (lb rfl) ?_
   obtain ⟨k1,v,a⟩:=bindS a
   refine DOps.c0 hT hA { tk:=[38] } rfl zu (M106w hA v) rfl rfl (lb rfl) rfl rfl ?_
   obtain ⟨_,w,a⟩:=bindS a
   have r0:=ckI w
   obtain ⟨_,y,a⟩:=bindS a
   have s0:=ckI y
   obtain ⟨X,z,a⟩:=bindS a
   have u0:=gcI z
   obtain ⟨_,B,a⟩:=bindS a
   have v0:=ckI B
   obtain ⟨_,C,a⟩:=bindS a
   have w0:=ckI C
   obtain ⟨a0,e0,a⟩:=bindS a
   refine DOps.cd hT hA { tk:=[38] } rfl zu (by kernel_rfl) ?_
   cases soI a
   exact zO
  ·replace a:=cF c a
   refine zU ?_
   refine zs ?_
   refine zB ?_
   refine nT ?_
   obtain ⟨Q,b,a⟩:=bindS a
   refine AWp.cutN [4,8] [] 2 (lb rfl) (fun τ=>τ={ env:=[(4,.ptr 0 0),(8,.ptr 1 0)],heap:=[(.arr 1 Q),(.arr 1 ((.int .u8 0)::(.int .u8 0)::(.int .u8 0)::(.int .i8 0)::(.int .i8 0)::(.int .i8 0)::(.int .i8 0)::(.int .i8 0)::(.int .i8 0)::(.int .i8 0)::(.int .i8 0)::(.int .i8 0)::(.int .i8 0)::(.int .i8 0)::(.int .i8 0)::(.int .i8 0)::(.int .i8 0)::(.int .i8 0)::(.int .i8 0)::(.int .i8 0)::(.int .i8 0)::(.int .i8 0)::(.int .i8 0)::(.int .i8 0)::(.int .i8 0)::(.int .i8 0)::(.int .i8 0)::(.int .i8 0)::(.int .i8 0)::(.int .i8 0)::(.int .i8 0)::(.int .i8 0)::(.int .i8 0)::(.int .i8 0)::(.int .i8 0)::(.int .i8 0)::(.int .i8 0)::(.int .i8 0)::(.int .i64 0)::(.int .i64 0)::(.int .i64 0)::[]))],n:=51 }) ?_ ?_
   ·skip
    rcases tf (A.zeq g 2) with e | e
    ·replace b:=cT e b
     refine zT ?_
     obtain ⟨_,E,b⟩:=bindS b
     have y0:=ckI E
     obtain ⟨_,F,b⟩:=bindS b
     have z0:=ckI F
     obtain ⟨b0,g0,b⟩:=bindS b
     refine zB ?_ { tk:=[47] }
     cases soI b
     exact zO
    ·replace b:=cF e b
     refine zU ?_
     refine zk ?_
     cases soI b
     exact zO
   ·rintro _ rfl
    cases soI a
    exact zO
 ·rintro _ rfl
  refine nB (nT (zs ?_))
  obtain ⟨j1,G,h⟩:=bindS h
  obtain ⟨a1,b1,c1⟩:=gaI G
  obtain ⟨_,L,h⟩:=bindS h
  have e1:=ckI L
  obtain ⟨_,K,h⟩:=bindS h
  have d1:=ckI K
  refine zB ?_ { tk:=[50] }
  refine nT ?_
  obtain ⟨_,M,h⟩:=bindS h
  have g1:=ckI M
  obtain ⟨_,N,h⟩:=bindS h
  have i1:=ckI N
  refine zr ?_
  cases soI h
  exact ⟨(rs1 (resCk rfl rfl rfl rfl (lnN hA (by assumption)) (onN hA (by assumption)))),rfl,rfl,lb rfl,_,rfl⟩

theorem M96w {A:Ar} (hA:SA A) {g:List D} {i:List (D×D)} {c j:List D} {m:List (D×D)} {o:List D} (h:M96 A g i c j=some (m,o)):ACall Try.prog 96 [.d (.agg g),.ptr 0 0,.ptr 2 0] [(.cells [(.map 1)]),(.map true (.int .u8 :: .int .u8 :: .int .u8 :: .int .i8 :: .int .i8 :: .int .i8 :: .int .i8 :: .int .i8 :: .int .i8 :: .int .i8 :: .int .i8 :: .int .i8 :: .int .i8 :: .int .i8 :: .int .i8 :: .int .i8 :: .int .i8 :: .int .i8 :: .int .i8 :: .int .i8 :: .int .i8 :: .int .i8 :: .int .i8 :: .int .i8 :: .int .i8 :: .int .i8 :: .int .i8 :: .int .i8 :: .int .i8 :: .int .i8 :: .int .i8 :: .int .i8 :: .int .i8 :: .int .i8 :: .int .i8 :: .int .i8 :: .int .i8 :: .int .i8 :: .int .i64 :: .int .i64 :: .int .i64::[]) i),.cells [.gref 7 41],.dead,.dead,.dead,(.arr 1 c),.gro 41 j,.dead,.dead] (.tuple []) [(.cells [(.map 1)]),(.map true (.int .u8 :: .int .u8 :: .int .u8 :: .int .i8 :: .int .i8 :: .int .i8 :: .int .i8 :: .int .i8 :: .int .i8 :: .int .i8 :: .int .i8 :: .int .i8 :: .int .i8 :: .int .i8 :: .int .i8 :: .int .i8 :: .int .i8 :: .int .i8 :: .int .i8 :: .int .i8 :: .int .i8 :: .int .i8 :: .int .i8 :: .int .i8 :: .int .i8 :: .int .i8 :: .int .i8 :: .int .i8 :: .int .i8 :: .int .i8 :: .int .i8 :: .int .i8 :: .int .i8 :: .int .i8 :: .int .i8 :: .int .i8 :: .int .i8 :: .int .i8 :: .int .i64 :: .int .i64 :: .int .i64::[]) m),.cells [.gref 10 41],.dead,.dead,.dead,(.arr 1 c),.dead,.dead,.dead,.gro 41 o,.dead,.dead]:=by
 unfold M96 at h
 refine zI Try.func96 ?_
 refine zs ?_
 obtain ⟨_,v,h⟩:=bindS h
 have P:=ckI v
 refine zB ?_ { arr:=[3] }
 refine nT (zs ?_)
 obtain ⟨l,b,h⟩:=bindS h
 refine AWp.cutW (fun τ=>τ={ env:=[(1,.ptr 0 0),(2,.ptr 2 0),(3,.ptr 10 0),(5,.d (.bool l))],heap:=[(.cells [(.map 1)]),(.map true (.int .u8 :: .int .u8 :: .int .u8 :: .int .i8 :: .int .i8 :: .int .i8 :: .int .i8 :: .int .i8 :: .int .i8 :: .int .i8 :: .int .i8 :: .int .i8 :: .int .i8 :: .int .i8 :: .int .i8 :: .int .i8 :: .int .i8 :: .int .i8 :: .int .i8 :: .int .i8 :: .int .i8 :: .int .i8 :: .int .i8 :: .int .i8 :: .int .i8 :: .int .i8 :: .int .i8 :: .int .i8 :: .int .i8 :: .int .i8 :: .int .i8 :: .int .i8 :: .int .i8 :: .int .i8 :: .int .i8 :: .int .i8 :: .int .i8 :: .int .i8 :: .int .i64 :: .int .i64 :: .int .i64::[]) i),.cells [.gref 7 41],.dead,.dead,.dead,(.arr 1 c),.gro 41 j,.dead,.dead,(.arr 1 g)],n:=21 }) ?_ ?_
 ·skip
  obtain ⟨S,w,b⟩:=bindS b
  obtain ⟨Q,R,E⟩:=gaI w
  obtain ⟨_,p,b⟩:=bindS b
  have F:=ckI p
  obtain ⟨z,k,b⟩:=bindS b
  rcases z with _ | _
  ·have y:=lkN k
   refine zB ?_ { tk:=[10] }
   cases soI b
   exact oWi ⟨_,zR [some 0,some 1,some 2,some 3,some 4,some 5,some 6,some 7,some 8,some 9,some 10] [1,2,3,5],rfl⟩
  ·have y:=lkS k
   refine zB ?_ { tk:=[10] }
   cases soI b
   exact oWi ⟨_,zR [some 0,some 1,some 2,some 3,some 4,some 5,some 6,some 7,some 8,some 9,some 10] [1,2,3,5],rfl⟩
 ·rintro _ rfl
  refine nT (zs ?_)
  refine zA ?_
  refine nT ?_
  obtain ⟨⟨B,C⟩,a,h⟩:=bindS h
  refine AWp.cutW (fun τ=>τ={ env:=[],heap:=[(.cells [(.map 1)]),(.map true (.int .u8 :: .int .u8 :: .int .u8 :: .int .i8 :: .int .i8 :: .int .i8 :: .int .i8 :: .int .i8 :: .int .i8 :: .int .i8 :: .int .i8 :: .int .i8 :: .int .i8 :: .int .i8 :: .int .i8 :: .int .i8 :: .int .i8 :: .int .i8 :: .int .i8 :: .int .i8 :: .int .i8 :: .int .i8 :: .int .i8 :: .int .i8 :: .int .i8 :: .int .i8 :: .int .i8 :: .int .i8 :: .int .i8 :: .int .i8 :: .int .i8 :: .int .i8 :: .int .i8 :: .int .i8 :: .int .i8 :: .int .i8 :: .int .i8 :: .int .i8 :: .int .i64 :: .int .i64 :: .int .i64::[]) B),.cells [.gref 10 41],.dead,.dead,.dead,(.arr 1 c),.dead,.dead,.dead,.gro 41 C,.dead,.dead],n:=21 }) ?_ ?_
  ·skip
   rcases tf l with e | e
   ·replace a:=cT e a
    refine zU ?_
    refine zk ?_
    cases soI a
    exact oWi ⟨_,zR [some 0,some 1,some 2,some 3,some 4,some 5,some 6,none,none,none,some 7,some 8,some 9] [],rfl⟩
   ·replace a:=cF e a
    refine zT ?_
    refine zs ?_
    obtain ⟨U,q,a⟩:=bindS a
    obtain ⟨G,J,K⟩:=gaI q
    obtain ⟨_,r,a⟩:=bindS a
    have L:=ckI r
    refine zB ?_
    refine nT ?_
    obtain ⟨_,s,a⟩:=bindS a
    have M:=ckI s
    obtain ⟨V,u,a⟩:=bindS a
    obtain ⟨N,O⟩:=apI u
    refine zB ?_ { tk:=[17,20] }
    cases soI a
    exact oWi ⟨_,(Wk.trans (Wk.settle 2 0 rfl rfl rfl) (zR [some 0,some 1,some 2,some 3,some 4,some 5,some 6,some 7,some 8,some 9,some 11,some 12,some 13] [])),rfl⟩
  ·rintro _ rfl
   cases soI h
   exact zq
end Go.Am
