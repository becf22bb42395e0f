/- Own text: Genw0. -/
import Derived.Test.YtlljehkmemajkaaGenp0
import Derived.Test.YtlljehkmemajkaaAmEach
import Derived.Test.YtlljehkmemajkaaAmSrt
import Derived.Test.YtlljehkmemajkaaAmLaw
import Derived.Test.YtlljehkmemajkaaAmSrt
import Derived.Test.YtlljehkmemajkaaAmSrt
import Derived.Test.YtlljehkmemajkaaAmThw
import Derived.Test.YtlljehkmemajkaaAmThw
import Derived.Test.YtlljehkmemajkaaAmThw
import Derived.Test.YtlljehkmemajkaaAmThw
import Derived.Test.YtlljehkmemajkaaAmThw
import Derived.Test.YtlljehkmemajkaaAmSortO
import Derived.Test.YtlljehkmemajkaaAmSrt
import Derived.Test.YtlljehkmemajkaaAmSrt
import Derived.Test.YtlljehkmemajkaaM1T
import Derived.Test.YtlljehkmemajkaaM1S
set_option maxRecDepth 100000
set_option maxHeartbeats 2000000
set_option linter.unusedVariables false
set_option linter.unusedSimpArgs false
namespace Go.Am
open Go Go.Proofs
theorem zqa : (!true) = false := rfl
theorem zqb : (!false) = true := rfl
theorem zqc {α : Type} {a b : α} : cond true a b = a := rfl
theorem zqd {α : Type} {a b : α} : cond false a b = b := rfl
def SA (A:Ar):Prop:=A=Ar.std
section
variable {p:Prop} {A:Ar} {m k t:Nat} {Q:Exit->St->Prop} {K R:St->Prop} {σ σ':St} {ops:Array Oper} {id:Nat} {c x y:Code} {ts sf:List Nat} {b:Bool} {l rest:List Oper} {f:FuncId} {fn:Func} {args:List AV} {o:Oper} {σ1:St} {H Hr H':List Obj} {r:AV} {d:Nat} {xs xs1:List Rec}
theorem zv (h:p:=by first|(cbv;done)|((repeat (cbv;simp only [*]));try cbv)):p:=h
theorem zu (h:p:=by (repeat (cbv;simp only [*]));try cbv):p:=h
theorem zc (h:p:=by cbv):p:=h
theorem zq (h:p:=by exact ⟨rfl,rfl,rfl,lb rfl,_,rfl⟩):p:=h
theorem zA (k:Q .normal σ') (an:Ann:={}) (hA:SA A:=by assumption) (h:runP A T an ops.toList ops.toList σ=.done σ':=by cbv) (hm:m<=σ.heap.length:=by exact lb rfl):AWp Try.prog m (.region id ops false) Q σ:=AWp.rg hT hA an h hm k
theorem zB (k:Q .normal σ') (an:Ann:={}) (hA:SA A:=by assumption) (h:runP A T an ops.toList ops.toList σ=.done σ':=by (repeat (cbv;simp only [*]));try cbv) (hm:m<=σ.heap.length:=by exact lb rfl):AWp Try.prog m (.region id ops false) Q σ:=AWp.rg hT hA an h hm k
theorem zC (hc:ACall Try.prog f args H r H') (k:AOps Try.prog m ops rest Q {σ1 with env:=eset σ1.env d r,heap:=H'++Hr}) (an:Ann:={}) (hA:SA A:=by assumption) (h:runP A T an ops.toList l σ=.call f args o rest σ1:=by cbv) (hm:m<=σ.heap.length:=by exact lb rfl) (hH:σ1.heap=H++Hr:=by exact rfl) (hr:Hr=[]\/H'.length=H.length:=by first|exact .inl rfl|exact .inr rfl) (hi:objsInb H.length H=true:=by exact rfl) (ha:inbL H.length args=true:=by exact rfl) (hd:o.dst=some d:=by exact rfl) (hl:d<σ1.n:=by exact lb rfl) (hb:(σ1.get d).isBox=false:=by exact rfl) (hf:args.all AV.free=true:=by exact rfl):AOps Try.prog m ops l Q σ:=AOps.cc hT hA an h hm hc hH hr hi ha hd hl hb hf k
theorem zD (hc:ACall Try.prog f args H r H') (k:AOps Try.prog m ops rest Q {σ1 with env:=eset σ1.env d r,heap:=H'++Hr}) (an:Ann:={}) (hA:SA A:=by assumption) (h:runP A T an ops.toList l σ=.call f args o rest σ1:=by (repeat (cbv;simp only [*]));try cbv) (hm:m<=σ.heap.length:=by exact lb rfl) (hH:σ1.heap=H++Hr:=by exact rfl) (hr:Hr=[]\/H'.length=H.length:=by first|exact .inl rfl|exact .inr rfl) (hi:objsInb H.length H=true:=by exact rfl) (ha:inbL H.length args=true:=by exact rfl) (hd:o.dst=some d:=by exact rfl) (hl:d<σ1.n:=by exact lb rfl) (hb:(σ1.get d).isBox=false:=by exact rfl) (hf:args.all AV.free=true:=by exact rfl):AOps Try.prog m ops l Q σ:=AOps.cc hT hA an h hm hc hH hr hi ha hd hl hb hf k
theorem zE (k:Q .normal σ') (an:Ann:={}) (hA:SA A:=by assumption) (h:runP A T an ops.toList l σ=.done σ':=by cbv) (hm:m<=σ.heap.length:=by exact lb rfl):AOps Try.prog m ops l Q σ:=AOps.cd hT hA an h hm k
theorem zF (k:Q .normal σ') (an:Ann:={}) (hA:SA A:=by assumption) (h:runP A T an ops.toList l σ=.done σ':=by (repeat (cbv;simp only [*]));try cbv) (hm:m<=σ.heap.length:=by exact lb rfl):AOps Try.prog m ops l Q σ:=AOps.cd hT hA an h hm k
theorem zT (h:AWp Try.prog m x Q σ) (hc:σ.get t=.d (.bool b):=by exact rfl) (hb:b=true:=by first|exact rfl|simp only [*,zqa,zqb,zqc,zqd]):AWp Try.prog m (.cond (.tmp t) x y) Q σ:=AWp.cdT hc hb h
theorem zU (h:AWp Try.prog m y Q σ) (hc:σ.get t=.d (.bool b):=by exact rfl) (hb:b=false:=by first|exact rfl|simp only [*,zqa,zqb,zqc,zqd]):AWp Try.prog m (.cond (.tmp t) x y) Q σ:=AWp.cdF hc hb h
theorem zO (h:σ.fits ts k=true:=by exact rfl) (g:R (σ.fitS ts sf k):=by first|(cbv;done)|((repeat (cbv;simp only [*]));try cbv)):AExit.onN ts sf k R Q .normal σ:=⟨h,g⟩
theorem zR (sel:List (Option Nat)) (ts:List Nat) (hm:okSel m sel 0=true:=by exact rfl) (h:σ.ren sel ts=some σ':=by first|(cbv;done)|((repeat (cbv;simp only [*]));try cbv)):Wk m σ σ':=Wk.ren sel ts hm h
theorem zI (hf:Try.prog.funcs[f]?=some fn) (h:AWp Try.prog H.length c (FnPost T fn H.length r H') {env:=envOf 0 args,heap:=H,n:=fn.ntmps}) (hb:fn.body=some c:=by exact rfl) (hn:fn.name≠"runtime.NumGoroutine":=by decide) (ha:args.length<=fn.ntmps:=by exact lb rfl) (hr:args.all AV.free=true:=by exact rfl) (h1:r.isLocal=false:=by exact rfl) (h2:r.inb H'.length=true:=by exact rfl) (h3:objsInb H'.length H'=true:=by exact rfl) (h4:H.length<=H'.length:=by exact lb rfl):ACall Try.prog f args H r H':=ACall.enter hT hf hb hn ha hr h1 h2 h3 h4 h
end
abbrev zs := @AWp.seq
abbrev zg := @AWp.rg
abbrev zr := @AWp.ret
abbrev zt := @AWp.cdT
abbrev zf := @AWp.cdF
abbrev zn := @AWp.region
abbrev zk := @AWp.skip
abbrev zb := @AWp.block
abbrev zi (x : Int) : AV := .d (.int .i64 x)
abbrev zl (k : Nat) (x : List D) : AV := .d (.list k x)
theorem M71w {A:Ar} (hA:SA A) {a b c e:List D} (h:M71 A a=some (b,c,e)):ACall Try.prog 71 [zl 1 a] [] (.ptr 0 0) [.cells [zl 1 b,.gref 1 1,.gref 4 1,zi 0,zi 0,zi 0],.gro 1 c,.dead,.dead,.gro 1 e,.dead,.dead]:=by
 unfold M71 at h
 refine zI Try.func71 ?_
 refine zs ?_
 refine zA ?_
 refine nT (zs ?_)
 obtain ⟨_,l,h⟩:=bindS h
 have q:=ckI l
 obtain ⟨_,m,h⟩:=bindS h
 have r:=ckI m
 obtain ⟨_,o,h⟩:=bindS h
 have s:=ckI o
 obtain ⟨_,i,h⟩:=bindS h
 have u:=ckI i
 obtain ⟨_,j,h⟩:=bindS h
 have v:=ckI j
 obtain ⟨_,k,h⟩:=bindS h
 have p:=ckI k
 refine AWp.re hT hA { tk:=[11],esc:=[11],gr:=[6,9] } rfl (fun σ'=>σ'.ren [some 6,some 0,some 1,some 2,some 3,some 4,some 5] [2]=some { env:=[(2,.ptr 0 0)],heap:=[.cells [zl 1 a,.gref 1 1,.gref 4 1,zi 0,zi 0,zi 0],(.gro 1 (A.rep (A.len a) (.int .i64 0))),.dead,.dead,(.gro 1 (A.rep (A.len a) (.list 1 []))),.dead,.dead],n:=12 }\/σ'.ren [some 6,some 3,some 4,some 5,some 0,some 1,some 2] [2]=some { env:=[(2,.ptr 0 0)],heap:=[.cells [zl 1 a,.gref 1 1,.gref 4 1,zi 0,zi 0,zi 0],(.gro 1 (A.rep (A.len a) (.int .i64 0))),.dead,.dead,(.gro 1 (A.rep (A.len a) (.list 1 []))),.dead,.dead],n:=12 }) ?_ (lb rfl) ?_
 ·iterate 14 ((try cbv);(try simp only [q,r,s,u,v,p,if_true,and_true,true_and,and_self,Bool.true_or,Bool.false_or,Bool.or_true,Bool.true_and,Bool.and_true,↓reduceIte,true_or,or_true]))
 rintro σ' (g | g)
 ·refine nT ?_
  refine AWp.weak (Wk.ren _ [2] rfl g) ?_
  refine zr ?_
  cases soI h
  exact zq
 ·refine nT ?_
  refine AWp.weak (Wk.ren _ [2] rfl g) ?_
  refine zr ?_
  cases soI h
  exact zq

theorem M17w {A:Ar} (hA:SA A) {c:List D} {i:Bool} (h:M17 A c=some i):ACall Try.prog 17 [zl 1 c] [] (.d (.bool i)) []:=by
 unfold M17 at h
 refine zI Try.func17 ?_
 refine zs ?_
 refine zA ?_
 refine nT (zs (zs ?_))
 refine zA ?_
 refine nT (zb ?_)
 obtain ⟨u,p,l,k,b⟩:=bindK h
 refine AWp.cutX 0 [0] [] 0 (lb rfl) (fun τ=>l (.inl ())=some i/\τ={ env:=[(0,zl 1 c)],heap:=[],n:=19 }) ?_ ?_
 ·skip
  refine AWp.iter p [0,3] [] 0 (lb rfl) (fun j=>{ env:=[(0,zl 1 c),(3,zi j)],heap:=[],n:=19 }) ⟨rfl,zc⟩ ?_
  rintro j q a
  dsimp only [M17L0] at a
  refine zs (zs ?_)
  refine zA ?_
  refine nT ?_
  rcases tf (A.zlt j (A.len c)) with g | g
  ·replace a:=cT g a
   refine zT ?_
   refine zk (nT (zs (zb (zs ?_))))
   obtain ⟨m,o,a⟩:=bindS a
   obtain ⟨r,s⟩:=gtI o
   refine zB ?_
   refine nT ?_
   rcases tf (A.zlt 20 (A.len m)) with e | e
   ·replace a:=cT e a
    refine zT ?_
    refine zs ?_
    refine zB ?_
    refine nT (zr (rB (rT (rT ?_))))
    refine exL a fun hx => ?_
    subst hx
    refine oxR ?_
    replace b:=(eR (k _ b))
    refine rB (rT ?_)
    cases soI b
    exact zq
   ·replace a:=cF e a
    refine zU ?_
    refine zk (nB (nT ?_))
    refine zB ?_
    exact nT ⟨_,(soI a).symm,rfl,zv⟩
  ·replace a:=cF g a
   refine zU ?_
   refine AWp.exit (xT (xT ?_))
   refine exL a fun hx => ?_
   subst hx
   exact oxI ⟨rfl,b,zv⟩
 ·rintro _ ⟨b,rfl⟩
  have h:=(eL (k _ b))
  refine xB (nT (zs ?_))
  refine zA ?_ { tk:=[18] }
  refine nT (zr ?_)
  cases soI h
  exact zq

theorem M66w {A:Ar} (hA:SA A) {c e i:Int} {g:Bool} (h:M66 A c e i=some g):ACall Try.prog 66 [zi c,zi e,zi i] [] (.d (.bool g)) []:=by
 unfold M66 at h
 refine zI Try.func66 ?_
 refine zs ?_
 refine zA ?_
 refine nT (zs ?_)
 obtain ⟨j,a,h⟩:=bindS h
 refine AWp.cutN [6] [] 0 (lb rfl) (fun τ=>τ={ env:=[(6,.d (.bool j))],heap:=[],n:=15 }) ?_ ?_
 ·skip
  rcases tf (A.zle c e) with b | b
  ·replace a:=cT b a
   refine zB ?_ { tk:=[14] }
   cases soI a
   exact zO
  ·replace a:=cF b a
   refine zB ?_ { tk:=[14] }
   cases soI a
   exact zO
 ·rintro _ rfl
  refine nT (zr ?_)
  cases soI h
  exact zq

theorem M67w {A:Ar} (hA:SA A) {e o q:Int} {p:Bool} (h:M67 A e o q=some p):ACall Try.prog 67 [.d (.agg [.int .i64 e,.int .i64 o,.int .i64 q])] [] (.d (.bool p)) []:=by
 unfold M67 at h
 refine zI Try.func67 ?_
 refine zs ?_
 refine zA ?_
 refine nT (zs (zs ?_))
 refine zA ?_
 refine nT (zb (zs ?_))
 refine zA ?_
 refine nT ?_
 rcases tf (A.zeq e 1) with l | l
 ·replace h:=cT l h
  refine zT ?_
  refine zs ?_
  obtain ⟨B,c,h⟩:=bindS h
  refine AWp.cutN [2] [] 0 (lb rfl) (fun τ=>τ={ env:=[(2,.d (.bool B))],heap:=[],n:=38 }) ?_ ?_
  ·skip
   refine zn ?_
   obtain ⟨w,u,c⟩:=bindS c
   refine zD (M66w hA u) ?_ { tk:=[14] }
   rcases tf w with m | m
   ·replace c:=cT m c
    refine zF ?_ { tk:=[14] }
    cases soI c
    exact zO
   ·replace c:=cF m c
    refine zF ?_ { tk:=[14] }
    cases soI c
    exact zO
  ·rintro _ rfl
   refine nT (zr (rB (rT ?_)))
   cases soI h
   exact zq
 ·replace h:=cF l h
  refine zU ?_
  refine zs ?_
  refine zB ?_
  refine nT ?_
  rcases tf (A.zeq e 2) with g | g
  ·replace h:=cT g h
   refine zT ?_
   refine zs ?_
   obtain ⟨y,b,h⟩:=bindS h
   refine AWp.cutN [2] [] 0 (lb rfl) (fun τ=>τ={ env:=[(2,.d (.bool y))],heap:=[],n:=38 }) ?_ ?_
   ·skip
    refine zn ?_
    obtain ⟨v,r,b⟩:=bindS b
    refine zD (M66w hA r) ?_ { tk:=[24] }
    rcases tf v with i | i
    ·replace b:=cT i b
     obtain ⟨C,s,b⟩:=bindS b
     refine zD (M66w hA s) ?_ { tk:=[24] }
     refine zF ?_ { tk:=[24] }
     cases soI b
     exact zO
    ·replace b:=cF i b
     refine zF ?_ { tk:=[24] }
     cases soI b
     exact zO
   ·rintro _ rfl
    refine nT (zr (rB (rT ?_)))
    cases soI h
    exact zq
  ·replace h:=cF g h
   refine zU ?_
   refine zk (nB (nT (zs ?_)))
   obtain ⟨z,a,h⟩:=bindS h
   refine AWp.cutN [2] [] 0 (lb rfl) (fun τ=>τ={ env:=[(2,.d (.bool z))],heap:=[],n:=38 }) ?_ ?_
   ·skip
    rcases tf (A.zeq e 3) with j | j
    ·replace a:=cT j a
     rcases tf (A.zeq o 0) with k | k
     ·replace a:=cT k a
      refine zB ?_ { tk:=[37] }
      cases soI a
      exact zO
     ·replace a:=cF k a
      refine zB ?_ { tk:=[37] }
      cases soI a
      exact zO
    ·replace a:=cF j a
     refine zB ?_ { tk:=[37] }
     cases soI a
     exact zO
   ·rintro _ rfl
    refine nT (zr ?_)
    cases soI h
    exact zq

theorem M24w {A:Ar} (hA:SA A) {e:List D} {z:Bool} (h:M24 A e=some z):ACall Try.prog 24 [zl 1 e] [] (.d (.bool z)) []:=by
 unfold M24 at h
 refine zI Try.func24 ?_
 refine zs ?_
 refine zA ?_
 refine nT (zs (zs (zn ?_)))
 obtain ⟨R,K,h⟩:=bindS h
 refine zC (M66w hA K) ?_
 refine zE ?_
 refine nT ?_
 rcases tf R with p | p
 ·replace h:=cT p h
  refine zU ?_
  refine zk (nT (zs ?_))
  refine zB ?_
  refine nT (zs (zs ?_))
  refine zB ?_
  refine nT (zb ?_)
  obtain ⟨e0,Q,G,l,c⟩:=bindK h
  refine AWp.cutX 0 [3] [] 0 (lb rfl) (fun τ => ∃ y,G (.inl y)=some z/\τ={ env:=[(3,zi y)],heap:=[],n:=59 }) ?_ ?_
  ·skip
   refine AWp.iter Q [0,3,4] [] 0 (lb rfl) (fun (k,j)=>{ env:=[(0,zl 1 e),(3,zi k),(4,zi j)],heap:=[],n:=59 }) ⟨rfl,zv⟩ ?_
   rintro ⟨k,j⟩ O a
   dsimp only [M24L1] at a
   refine zs (zs ?_)
   refine zA ?_
   refine nT ?_
   rcases tf (A.zlt j (A.len e)) with q | q
   ·replace a:=cT q a
    refine zT ?_
    refine zk (nT (zs (zb (zs (zs ?_)))))
    obtain ⟨B,L,a⟩:=bindS a
    obtain ⟨Y,a0⟩:=gtI L
    refine zB ?_
    refine nT ?_
    rcases tf (A.zlt 7 (A.len B)) with r | r
    ·replace a:=cT r a
     refine zT ?_
     refine zs ?_
     refine zB ?_
     refine nT (zr (rT (rB (rT (rT ?_)))))
     refine exL a fun hx => ?_
     subst hx
     refine oxR ?_
     replace c:=(eR (l _ c))
     refine rB (rT ?_)
     cases soI c
     exact zq
    ·replace a:=cF r a
     refine zU ?_
     refine zk (nT (zs ?_))
     refine zB ?_
     refine nT (zs (zs ?_))
     refine zB ?_
     refine nT (zb ?_)
     obtain ⟨d0,P,F,C,g⟩:=bindK a
     refine AWp.cutX 2 [0,3,4,5] [] 0 (lb rfl) (fun τ => ∃ o,F (.inl o)=some O/\τ={ env:=[(0,zl 1 e),(3,zi k),(4,zi j),(5,zi o)],heap:=[],n:=59 }) ?_ ?_
     ·skip
      refine AWp.iter P [0,3,4,5,6] [] 0 (lb rfl) (fun (E,m)=>{ env:=[(0,zl 1 e),(3,zi k),(4,zi j),(5,zi E),(6,zi m)],heap:=[],n:=59 }) ⟨rfl,zv⟩ ?_
      rintro ⟨E,m⟩ X b
      dsimp only [M24L0] at b
      refine zs (zs ?_)
      refine zB ?_
      refine nT ?_
      rcases tf (A.zlt m (A.len B)) with s | s
      ·replace b:=cT s b
       refine zT ?_
       refine zk (nT (zs (zb (zs (zs (zn ?_))))))
       obtain ⟨⟨J,V,W⟩,M,b⟩:=bindS b
       obtain ⟨b0,c0⟩:=gtI M
       obtain ⟨S,N,b⟩:=bindS b
       refine zD (M67w hA N) ?_
       refine zF ?_
       refine nT ?_
       rcases tf S with u | u
       ·replace b:=cT u b
        refine zU ?_
        refine zk (nT (zs ?_))
        refine zB ?_
        refine nT ?_
        obtain ⟨U,i,b⟩:=bindS b
        refine AWp.cutN [0,3,4,5,6] [] 0 (lb rfl) (fun τ=>τ={ env:=[(0,zl 1 e),(3,zi k),(4,zi j),(5,zi U),(6,zi m)],heap:=[],n:=59 }) ?_ ?_
        ·skip
         rcases tf (A.zeq J 3) with v | v
         ·replace i:=cT v i
          refine zU ?_
          refine zk ?_
          cases soI i
          exact zO
         ·replace i:=cF v i
          refine zT ?_
          refine zB ?_
          cases soI i
          exact zO
        ·rintro _ rfl
         refine nB (nT ?_)
         refine zA ?_
         exact nT ⟨_,(soI b).symm,rfl,zc⟩
       ·replace b:=cF u b
        refine zT ?_
        refine zs ?_
        refine zB ?_
        refine nT (zr (rT (rB (rT (rT ?_)))))
        refine exL b fun hx => ?_
        subst hx
        refine oxR ?_
        replace g:=(eR (C _ g))
        refine rB (rT (rB (rT (rT ?_))))
        refine exL g fun hx => ?_
        subst hx
        refine oxR ?_
        replace c:=(eR (l _ c))
        refine rB (rT ?_)
        cases soI c
        exact zq
      ·replace b:=cF s b
       refine zU ?_
       refine AWp.exit (xT (xT ?_))
       refine exL b fun hx => ?_
       subst hx
       exact oxI ⟨rfl,_,g,zv⟩
     ·rintro _ ⟨o,g,rfl⟩
      have a:=(eL (C _ g))
      refine xB (nT (zs (zs ?_)))
      refine zA ?_
      refine nT ?_
      rcases tf (A.zlt 4 o) with w | w
      ·replace a:=cT w a
       refine zT ?_
       refine zs ?_
       refine zB ?_
       refine nT (zr (rT (rB (rT (rT ?_)))))
       refine exL a fun hx => ?_
       subst hx
       refine oxR ?_
       replace c:=(eR (l _ c))
       refine rB (rT ?_)
       cases soI c
       exact zq
      ·replace a:=cF w a
       refine zU ?_
       refine zk (nT ?_)
       refine zB ?_
       refine nB (nT ?_)
       refine zB ?_
       exact nT ⟨_,(soI a).symm,rfl,zv⟩
   ·replace a:=cF q a
    refine zU ?_
    refine AWp.exit (xT (xT ?_))
    refine exL a fun hx => ?_
    subst hx
    exact oxI ⟨rfl,_,c,zv⟩
  ·rintro _ ⟨y,c,rfl⟩
   have h:=(eL (l _ c))
   refine xB (nT (zs ?_))
   refine zA ?_ { tk:=[58] }
   refine nT (zr ?_)
   cases soI h
   exact zq
 ·replace h:=cF p h
  refine zT ?_
  refine zs ?_
  refine zB ?_
  refine nT (zr (rT ?_))
  cases soI h
  exact zq

theorem M65w {A:Ar} (hA:SA A) {c e i:Int} {g:Bool} (h:M65 A c e i=some g):ACall Try.prog 65 [zi c,zi e,zi i] [] (.d (.bool g)) []:=by
 unfold M65 at h
 refine zI Try.func65 ?_
 refine zs ?_
 refine zA ?_
 refine nT (zs ?_)
 obtain ⟨j,a,h⟩:=bindS h
 refine AWp.cutN [6] [] 0 (lb rfl) (fun τ=>τ={ env:=[(6,.d (.bool j))],heap:=[],n:=15 }) ?_ ?_
 ·skip
  rcases tf (A.zle c e) with b | b
  ·replace a:=cT b a
   refine zB ?_ { tk:=[14] }
   cases soI a
   exact zO
  ·replace a:=cF b a
   refine zB ?_ { tk:=[14] }
   cases soI a
   exact zO
 ·rintro _ rfl
  refine nT (zr ?_)
  cases soI h
  exact zq

theorem M62w {A:Ar} (hA:SA A) {c l m:Int} {k:Bool} (h:M62 A c l m=some k):ACall Try.prog 62 [.d (.agg [.int .i64 c,.int .i64 l,.int .i64 m])] [] (.d (.bool k)) []:=by
 unfold M62 at h
 refine zI Try.func62 ?_
 refine zs ?_
 refine zA ?_
 refine nT (zs (zs ?_))
 refine zA ?_
 refine nT (zb (zs ?_))
 refine zA ?_
 refine nT ?_
 rcases tf (A.zeq c 1) with i | i
 ·replace h:=cT i h
  refine zT ?_
  refine zs ?_
  obtain ⟨v,b,h⟩:=bindS h
  refine AWp.cutN [2] [] 0 (lb rfl) (fun τ=>τ={ env:=[(2,.d (.bool v))],heap:=[],n:=28 }) ?_ ?_
  ·skip
   refine zn ?_
   obtain ⟨s,q,b⟩:=bindS b
   refine zD (M65w hA q) ?_ { tk:=[14] }
   rcases tf s with j | j
   ·replace b:=cT j b
    refine zF ?_ { tk:=[14] }
    cases soI b
    exact zO
   ·replace b:=cF j b
    refine zF ?_ { tk:=[14] }
    cases soI b
    exact zO
  ·rintro _ rfl
   refine nT (zr (rB (rT ?_)))
   cases soI h
   exact zq
 ·replace h:=cF i h
  refine zU ?_
  refine zs ?_
  refine zB ?_
  refine nT ?_
  rcases tf (A.zeq c 2) with e | e
  ·replace h:=cT e h
   refine zT ?_
   refine zs ?_
   obtain ⟨u,a,h⟩:=bindS h
   refine AWp.cutN [2] [] 0 (lb rfl) (fun τ=>τ={ env:=[(2,.d (.bool u))],heap:=[],n:=28 }) ?_ ?_
   ·skip
    refine zn ?_
    obtain ⟨r,o,a⟩:=bindS a
    refine zD (M65w hA o) ?_ { tk:=[24] }
    rcases tf r with g | g
    ·replace a:=cT g a
     obtain ⟨w,p,a⟩:=bindS a
     refine zD (M65w hA p) ?_ { tk:=[24] }
     refine zF ?_ { tk:=[24] }
     cases soI a
     exact zO
    ·replace a:=cF g a
     refine zF ?_ { tk:=[24] }
     cases soI a
     exact zO
   ·rintro _ rfl
    refine nT (zr (rB (rT ?_)))
    cases soI h
    exact zq
  ·replace h:=cF e h
   refine zU ?_
   refine zk (nB (nT (zs ?_)))
   refine zB ?_ { tk:=[27] }
   refine nT (zr ?_)
   cases soI h
   exact zq

theorem M61w {A:Ar} (hA:SA A) {b c e:Int} {a:Bool} (h:M61 A b c e=some a):ACall Try.prog 61 [.d (.agg [.int .i64 b,.int .i64 c,.int .i64 e])] [] (.d (.bool a)) []:=by
 unfold M61 at h
 refine zI Try.func61 ?_
 refine zs ?_
 refine zA ?_
 refine nT (zs (zn ?_))
 obtain ⟨i,g,h⟩:=bindS h
 refine zC (M62w hA g) ?_ { tk:=[5] }
 refine zE ?_ { tk:=[5] }
 refine nT (zr ?_)
 cases soI h
 exact zq

theorem M104w {A:Ar} (hA:SA A) {c:List D} {j:Int} (h:M104 A c=some j):ACall Try.prog 104 [zl 3 c,(.func 61 [] [])] [] (zi j) []:=by
 unfold M104 at h
 refine zI Try.func104 ?_
 refine zs ?_
 refine zA ?_
 refine nT (zs (zs ?_))
 refine zA ?_
 refine nT (zb ?_)
 obtain ⟨z,p,l,k,b⟩:=bindK h
 refine AWp.cutX 0 [] [] 0 (lb rfl) (fun τ=>l (.inl ())=some j/\τ={ env:=[],heap:=[],n:=19 }) ?_ ?_
 ·skip
  refine AWp.iter p [0,1,7,8] [] 0 (lb rfl) (fun i=>{ env:=[(0,zl 3 c),(1,(.func 61 [] [])),(7,(.d (.int .i64 (A.len c)))),(8,zi i)],heap:=[],n:=19 }) ⟨rfl,zc⟩ ?_
  rintro i v a
  dsimp only [M104L0] at a
  refine zs ?_
  refine zA ?_
  refine nT (zs ?_)
  rcases tf (A.zlt i (A.len c)) with e | e
  ·replace a:=cT e a
   refine zT ?_
   refine zk (nT (zs (zb (zs ?_))))
   refine zB ?_ { tk:=[8,10] }
   refine nT (zs (zn ?_))
   obtain ⟨⟨r,s,u⟩,m,a⟩:=bindS a
   obtain ⟨w,y⟩:=gtI m
   obtain ⟨q,o,a⟩:=bindS a
   refine zD (M61w hA o) ?_
   refine zF ?_
   refine nT ?_
   rcases tf q with g | g
   ·replace a:=cT g a
    refine zT ?_
    refine zs ?_
    refine zB ?_ { tk:=[5,17] }
    refine nT (zr (rB (rT (rT ?_))))
    refine exL a fun hx => ?_
    subst hx
    refine oxR ?_
    replace b:=(eR (k _ b))
    refine rB (rT ?_)
    cases soI b
    exact zq
   ·replace a:=cF g a
    refine zU ?_
    refine zk (nB (nT ?_))
    refine zB ?_ { tk:=[18] }
    exact nT ⟨_,(soI a).symm,rfl,zv⟩
  ·replace a:=cF e a
   refine zU ?_
   refine AWp.exit (xT (xT ?_))
   refine exL a fun hx => ?_
   subst hx
   exact oxI ⟨rfl,b,zv⟩
 ·rintro _ ⟨b,rfl⟩
  have h:=(eL (k _ b))
  refine xB (nT (zs ?_))
  refine zA ?_
  refine nT (zr ?_)
  cases soI h
  exact zq

theorem M60w {A:Ar} (hA:SA A) {b:List D} {a:Bool} (h:M60 A b=some a):ACall Try.prog 60 [zl 3 b,(.func 61 [] [])] [] (.d (.bool a)) []:=by
 unfold M60 at h
 refine zI Try.func60 ?_
 refine zs ?_
 refine zA ?_
 refine nT (zs (zn ?_))
 obtain ⟨e,c,h⟩:=bindS h
 refine zC (M104w hA c) ?_ { tk:=[8] }
 refine zE ?_ { tk:=[8] }
 refine nT (zr ?_)
 cases soI h
 exact zq

theorem M64w {A:Ar} (hA:SA A) {b c e:Int} {a:Bool} (h:M64 A b c e=some a):ACall Try.prog 64 [.d (.agg [.int .i64 b,.int .i64 c,.int .i64 e])] [] (.d (.bool a)) []:=by
 unfold M64 at h
 refine zI Try.func64 ?_
 refine zs ?_
 refine zA ?_
 refine nT (zs ?_)
 refine zA ?_ { tk:=[5] }
 refine nT (zr ?_)
 cases soI h
 exact zq

theorem M63w {A:Ar} (hA:SA A) {b:List D} {l:Int} (h:M63 A b=some l):ACall Try.prog 63 [zl 3 b,(.func 64 [] [])] [] (zi l) []:=by
 unfold M63 at h
 refine zI Try.func63 ?_
 refine zs ?_
 refine zA ?_
 refine nT (zs ?_)
 refine zA ?_
 refine nT (zs (zs ?_))
 refine zA ?_
 refine nT (zb ?_)
 obtain ⟨F,s,o,r,j⟩:=bindK h
 refine AWp.cutX 0 [5] [] 0 (lb rfl) (fun τ => ∃ k,o k=some l/\τ={ env:=[(5,zi k)],heap:=[],n:=21 }) ?_ ?_
 ·skip
  refine AWp.iter s [1,5,8,9,10] [] 0 (lb rfl) (fun (m,e)=>{ env:=[(1,(.func 64 [] [])),(5,zi m),(8,zl 3 b),(9,(.d (.int .i64 (A.len b)))),(10,zi e)],heap:=[],n:=21 }) ⟨rfl,zc⟩ ?_
  rintro ⟨m,e⟩ B a
  dsimp only [M63L0] at a
  refine zs ?_
  refine zA ?_
  refine nT (zs ?_)
  rcases tf (A.zlt e (A.len b)) with g | g
  ·replace a:=cT g a
   refine zT ?_
   refine zk (nT (zs (zb (zs ?_))))
   obtain ⟨⟨w,y,z⟩,p,a⟩:=bindS a
   obtain ⟨C,E⟩:=gtI p
   refine zB ?_ { tk:=[13] }
   refine nT (zs (zn ?_))
   obtain ⟨u,q,a⟩:=bindS a
   refine zD (M64w hA q) ?_
   refine zF ?_
   refine nT ?_
   obtain ⟨v,c,a⟩:=bindS a
   refine AWp.cutN [1,5,8,9,10] [] 0 (lb rfl) (fun τ=>τ={ env:=[(1,(.func 64 [] [])),(5,zi v),(8,zl 3 b),(9,(.d (.int .i64 (A.len b)))),(10,zi e)],heap:=[],n:=21 }) ?_ ?_
   ·skip
    rcases tf u with i | i
    ·replace c:=cT i c
     refine zT ?_
     refine zB ?_ { tk:=[18] }
     cases soI c
     exact zO
    ·replace c:=cF i c
     refine zU ?_
     refine zk ?_
     cases soI c
     exact zO
   ·rintro _ rfl
    refine nB (nT ?_)
    refine zA ?_
    exact nT ⟨_,(soI a).symm,rfl,zc⟩
  ·replace a:=cF g a
   refine zU ?_
   refine AWp.exit (xT (xT ?_))
   refine exL a fun hx => ?_
   subst hx
   exact oxI ⟨rfl,_,j,zv⟩
 ·rintro _ ⟨k,j,rfl⟩
  have h:=(r _ j)
  refine xB (nT (zs ?_))
  refine zA ?_ { tk:=[5,20] }
  refine nT (zr ?_)
  cases soI h
  exact zq

theorem M23w {A:Ar} (hA:SA A) {c:List D} {r:Bool} (h:M23 A c=some r):ACall Try.prog 23 [zl 1 c] [] (.d (.bool r)) []:=by
 unfold M23 at h
 refine zI Try.func23 ?_
 refine zs ?_
 refine zA ?_
 refine nT (zs ?_)
 refine zA ?_
 refine nT (zs (zs ?_))
 refine zA ?_
 refine nT (zb ?_)
 obtain ⟨Q,F,w,u,g⟩:=bindK h
 refine AWp.cutX 0 [0,3] [] 0 (lb rfl) (fun τ => ∃ q,w (.inl q)=some r/\τ={ env:=[(0,zl 1 c),(3,zi q)],heap:=[],n:=36 }) ?_ ?_
 ·skip
  refine AWp.iter F [0,3,6,7,8] [] 0 (lb rfl) (fun (p,i)=>{ env:=[(0,zl 1 c),(3,zi p),(6,zl 1 c),(7,(.d (.int .i64 (A.len c)))),(8,zi i)],heap:=[],n:=36 }) ⟨rfl,zc⟩ ?_
  rintro ⟨p,i⟩ L a
  dsimp only [M23L0] at a
  refine zs ?_
  refine zA ?_
  refine nT (zs ?_)
  rcases tf (A.zlt i (A.len c)) with j | j
  ·replace a:=cT j a
   refine zT ?_
   refine zk (nT (zs (zb (zs ?_))))
   obtain ⟨s,y,a⟩:=bindS a
   obtain ⟨M,N⟩:=gtI y
   refine zB ?_
   refine nT (zs (zs ?_))
   obtain ⟨v,b,a⟩:=bindS a
   refine AWp.cutN [0,3,5,6,7,8,23] [] 0 (lb rfl) (fun τ=>τ={ env:=[(0,zl 1 c),(3,zi p),(5,zl 3 s),(6,zl 1 c),(7,(.d (.int .i64 (A.len c)))),(8,zi i),(23,.d (.bool v))],heap:=[],n:=36 }) ?_ ?_
   ·skip
    refine zn ?_
    rcases tf (A.zlt 7 (A.len s)) with k | k
    ·replace b:=cT k b
     refine zF ?_
     cases soI b
     exact zO
    ·replace b:=cF k b
     obtain ⟨G,z,b⟩:=bindS b
     refine zD (M60w hA z) ?_
     rcases tf G with l | l
     ·replace b:=cT l b
      refine zF ?_
      cases soI b
      exact zO
     ·replace b:=cF l b
      obtain ⟨O,B,b⟩:=bindS b
      refine zD (M63w hA B) ?_
      refine zF ?_
      cases soI b
      exact zO
   ·rintro _ rfl
    refine nT ?_
    rcases tf v with m | m
    ·replace a:=cT m a
     refine zT ?_
     refine zs ?_
     refine zB ?_
     refine nT (zr (rT (rB (rT (rT ?_)))))
     refine exL a fun hx => ?_
     subst hx
     refine oxR ?_
     replace g:=(eR (u _ g))
     refine rB (rT ?_)
     cases soI g
     exact zq
    ·replace a:=cF m a
     refine zU ?_
     refine zk (nT (zn ?_))
     obtain ⟨P,C,a⟩:=bindS a
     refine zD (M63w hA C) ?_
     refine zF ?_
     refine nB (nT ?_)
     refine zB ?_
     exact nT ⟨_,(soI a).symm,rfl,zv⟩
  ·replace a:=cF j a
   refine zU ?_
   refine AWp.exit (xT (xT ?_))
   refine exL a fun hx => ?_
   subst hx
   exact oxI ⟨rfl,_,g,zv⟩
 ·rintro _ ⟨q,g,rfl⟩
  have h:=(eL (u _ g))
  refine xB (nT (zs ?_))
  obtain ⟨K,e,h⟩:=bindS h
  refine AWp.cutN [2] [] 0 (lb rfl) (fun τ=>τ={ env:=[(2,.d (.bool K))],heap:=[],n:=36 }) ?_ ?_
  ·skip
   refine zn ?_
   obtain ⟨J,E,e⟩:=bindS e
   refine zC (M65w hA E) ?_ { tk:=[35] }
   rcases tf J with o | o
   ·replace e:=cT o e
    refine zF ?_ { tk:=[35] }
    cases soI e
    exact zO
   ·replace e:=cF o e
    refine zF ?_ { tk:=[35] }
    cases soI e
    exact zO
  ·rintro _ rfl
   refine nT (zr ?_)
   cases soI h
   exact zq

theorem M95w {A:Ar} (hA:SA A) {a g:Int} (h:M95 A a=some g):ACall Try.prog 95 [zi a] [] (.d (.iface g)) []:=by
 unfold M95 at h
 refine zI Try.func95 ?_
 refine zs ?_
 refine zA ?_
 refine nT (zs (zs ?_))
 refine zA ?_
 refine nT (zb (zs ?_))
 refine zA ?_
 refine nT ?_
 rcases tf (A.zeq a 1) with b | b
 ·replace h:=cT b h
  refine zT ?_
  refine zs ?_
  refine zB ?_ { tk:=[7] }
  refine nT (zr (rB (rT ?_)))
  cases soI h
  exact zq
 ·replace h:=cF b h
  refine zU ?_
  refine zs ?_
  refine zB ?_
  refine nT ?_
  rcases tf (A.zeq a 2) with c | c
  ·replace h:=cT c h
   refine zT ?_
   refine zs ?_
   refine zB ?_ { tk:=[11] }
   refine nT (zr (rB (rT ?_)))
   cases soI h
   exact zq
  ·replace h:=cF c h
   refine zU ?_
   refine zs ?_
   refine zB ?_
   refine nT ?_
   rcases tf (A.zeq a 3) with e | e
   ·replace h:=cT e h
    refine zT ?_
    refine zs ?_
    refine zB ?_ { tk:=[15] }
    refine nT (zr (rB (rT ?_)))
    cases soI h
    exact zq
   ·replace h:=cF e h
    refine zU ?_
    refine zk (nB (nT (zs ?_)))
    refine zB ?_
    refine nT (zr ?_)
    cases soI h
    exact zq

theorem M55w {A:Ar} (hA:SA A) {q c l:List D} {m:Int} (h:M55 A q c=some (l,m)):ACall Try.prog 55 [zl 1 q,zl 1 c] [] (.tuple [zl 1 l,zi m]) []:=by
 unfold M55 at h
 refine zI Try.func55 ?_
 refine zs ?_
 refine zA ?_
 refine nT (zs (zs (zn ?_)))
 obtain ⟨B,w,h⟩:=bindS h
 refine zC (M23w hA w) ?_
 refine zE ?_
 refine nT ?_
 rcases tf B with i | i
 ·replace h:=cT i h
  refine zU ?_
  refine zk (nT (zs ?_))
  refine zB ?_
  refine nT (zs (zs ?_))
  refine zB ?_
  refine nT (zb ?_)
  obtain ⟨M,y,r,o,b⟩:=bindK h
  refine AWp.cutX 0 [6] [] 0 (lb rfl) (fun τ => ∃ k,r (.inl k)=some (l,m)/\τ={ env:=[(6,(.own 1 k))],heap:=[],n:=29 }) ?_ ?_
  ·skip
   refine AWp.iter y [6,13,14,15] [] 0 (lb rfl) (fun (p,j)=>{ env:=[(6,(.own 1 p)),(13,zl 1 c),(14,(.d (.int .i64 (A.len c)))),(15,zi j)],heap:=[],n:=29 }) ⟨rfl,zv⟩ ?_
   rintro ⟨p,j⟩ E a
   dsimp only [M55L0] at a
   refine zs ?_
   refine zA ?_
   refine nT (zs ?_)
   rcases tf (A.zlt j (A.len c)) with e | e
   ·replace a:=cT e a
    refine zT ?_
    refine zk (nT (zs (zb (zs ?_))))
    obtain ⟨C,s,a⟩:=bindS a
    obtain ⟨F,G⟩:=gtI s
    refine zB ?_
    refine nT (zs (zn ?_))
    obtain ⟨z,u,a⟩:=bindS a
    refine zD (M95w hA u) ?_
    refine zF ?_
    refine nT (zs (zs ?_))
    refine zB ?_
    refine nT ?_
    rcases tf (A.zlt z 0) with g | g
    ·replace a:=cT g a
     refine zT ?_
     refine zs ?_
     refine zB ?_
     refine nT (zr (rT (rB (rT (rT ?_)))))
     refine exL a fun hx => ?_
     subst hx
     refine oxR ?_
     replace b:=(eR (o _ b))
     refine rB (rT ?_)
     cases soI b
     exact zq
    ·replace a:=cF g a
     refine zU ?_
     refine zk (nT ?_)
     obtain ⟨L,v,a⟩:=bindS a
     obtain ⟨J,K⟩:=apI v
     refine zB ?_ { tk:=[6,26] }
     refine nB (nT ?_)
     refine zB ?_
     exact nT ⟨_,(soI a).symm,rfl,zv⟩
   ·replace a:=cF e a
    refine zU ?_
    refine AWp.exit (xT (xT ?_))
    refine exL a fun hx => ?_
    subst hx
    exact oxI ⟨rfl,_,b,zv⟩
  ·rintro _ ⟨k,b,rfl⟩
   have h:=(eL (o _ b))
   refine xB (nT (zs ?_))
   refine zA ?_
   refine nT (zr ?_)
   cases soI h
   exact zq
 ·replace h:=cF i h
  refine zT ?_
  refine zs ?_
  refine zB ?_
  refine nT (zr (rT ?_))
  cases soI h
  exact zq

theorem M77w {A:Ar} (hA:SA A) {g c:List D} {m:Bool} (h:M77 A g c=some m):ACall Try.prog 77 [.d (.agg g),zl 1 c] [] (.d (.bool m)) []:=by
 unfold M77 at h
 refine zI Try.func77 ?_
 refine zs ?_
 obtain ⟨_,y,h⟩:=bindS h
 have L:=ckI y
 refine zB ?_ { arr:=[2] }
 refine nT (zs (zs ?_))
 refine zA ?_
 refine nT (zb ?_)
 obtain ⟨W,G,q,o,e⟩:=bindK h
 refine AWp.cutX 0 [] [] 1 (lb rfl) (fun τ=>q (.inl ())=some m/\τ={ env:=[],heap:=[(.arr 1 g)],n:=31 }) ?_ ?_
 ·skip
  refine AWp.iter G [1,2,7,8] [] 1 (lb rfl) (fun i=>{ env:=[(1,zl 1 c),(2,.ptr 0 0),(7,(.d (.int .i64 (A.len c)))),(8,zi i)],heap:=[(.arr 1 g)],n:=31 }) ⟨rfl,zc⟩ ?_
  rintro i K b
  dsimp only [M77L0] at b
  refine zs ?_
  refine zA ?_
  refine nT (zs ?_)
  rcases tf (A.zlt i (A.len c)) with j | j
  ·replace b:=cT j b
   refine zT ?_
   refine zk (nT (zs (zb (zs ?_))))
   refine zB ?_
   refine nT (zs ?_)
   obtain ⟨p,a,b⟩:=bindS b
   refine AWp.cutN [1,2,7,8,29] [] 1 (lb rfl) (fun τ=>τ={ env:=[(1,zl 1 c),(2,.ptr 0 0),(7,(.d (.int .i64 (A.len c)))),(8,zi i),(29,.d (.bool p))],heap:=[(.arr 1 g)],n:=31 }) ?_ ?_
   ·skip
    obtain ⟨_,u,a⟩:=bindS a
    have M:=ckI u
    obtain ⟨_,v,a⟩:=bindS a
    have N:=ckI v
    obtain ⟨r,w,a⟩:=bindS a
    have O:=gcI w
    obtain ⟨s,z,a⟩:=bindS a
    obtain ⟨P,Q⟩:=gtI z
    obtain ⟨_,B,a⟩:=bindS a
    have R:=nkI B
    rcases tf (A.zeq r (A.wrp .u8 (A.zsub (A.shl .u8 1 (A.len s)) 1))) with k | k
    ·replace a:=cT k a
     obtain ⟨_,C,a⟩:=bindS a
     have S:=ckI C
     obtain ⟨_,E,a⟩:=bindS a
     have U:=ckI E
     obtain ⟨J,F,a⟩:=bindS a
     have V:=gcI F
     refine AWp.rd hT hA {} rfl zu (by kernel_rfl) (lb rfl) ?_
     cases soI a
     exact zO
    ·replace a:=cF k a
     refine AWp.rd hT hA {} rfl zu (by kernel_rfl) (lb rfl) ?_
     cases soI a
     exact zO
   ·rintro _ rfl
    refine nT ?_
    rcases tf p with l | l
    ·replace b:=cT l b
     refine zT ?_
     refine zs ?_
     refine zB ?_
     refine nT (zr (rB (rT (rT ?_))))
     refine exL b fun hx => ?_
     subst hx
     refine oxR ?_
     replace e:=(eR (o _ e))
     refine rB (rT ?_)
     cases soI e
     exact zq
    ·replace b:=cF l b
     refine zU ?_
     refine zk (nB (nT ?_))
     refine zB ?_
     exact nT ⟨_,(soI b).symm,rfl,zv⟩
  ·replace b:=cF j b
   refine zU ?_
   refine AWp.exit (xT (xT ?_))
   refine exL b fun hx => ?_
   subst hx
   exact oxI ⟨rfl,e,zv⟩
 ·rintro _ ⟨e,rfl⟩
  have h:=(eL (o _ e))
  refine xB (nT (zs ?_))
  refine zA ?_
  refine nT (zr ?_)
  cases soI h
  exact zq

theorem M80w {A:Ar} (hA:SA A) {b c e:Int} {a:Bool} (h:M80 A b c e=some a):ACall Try.prog 80 [.d (.agg [.int .i64 b,.int .i64 c,.int .i64 e])] [] (.d (.bool a)) []:=by
 unfold M80 at h
 refine zI Try.func80 ?_
 refine zs ?_
 refine zA ?_
 refine nT (zs ?_)
 refine zA ?_ { tk:=[5] }
 refine nT (zr ?_)
 cases soI h
 exact zq

theorem M63aw {A:Ar} (hA:SA A) {b:List D} {l:Int} (h:M63a A b=some l):ACall Try.prog 63 [zl 3 b,(.func 80 [] [])] [] (zi l) []:=by
 unfold M63a at h
 refine zI Try.func63 ?_
 refine zs ?_
 refine zA ?_
 refine nT (zs ?_)
 refine zA ?_
 refine nT (zs (zs ?_))
 refine zA ?_
 refine nT (zb ?_)
 obtain ⟨F,s,o,r,j⟩:=bindK h
 refine AWp.cutX 0 [5] [] 0 (lb rfl) (fun τ => ∃ k,o k=some l/\τ={ env:=[(5,zi k)],heap:=[],n:=21 }) ?_ ?_
 ·skip
  refine AWp.iter s [1,5,8,9,10] [] 0 (lb rfl) (fun (m,e)=>{ env:=[(1,(.func 80 [] [])),(5,zi m),(8,zl 3 b),(9,(.d (.int .i64 (A.len b)))),(10,zi e)],heap:=[],n:=21 }) ⟨rfl,zc⟩ ?_
  rintro ⟨m,e⟩ B a
  dsimp only [M63aL0] at a
  refine zs ?_
  refine zA ?_
  refine nT (zs ?_)
  rcases tf (A.zlt e (A.len b)) with g | g
  ·replace a:=cT g a
   refine zT ?_
   refine zk (nT (zs (zb (zs ?_))))
   obtain ⟨⟨w,y,z⟩,p,a⟩:=bindS a
   obtain ⟨C,E⟩:=gtI p
   refine zB ?_ { tk:=[13] }
   refine nT (zs (zn ?_))
   obtain ⟨u,q,a⟩:=bindS a
   refine zD (M80w hA q) ?_
   refine zF ?_
   refine nT ?_
   obtain ⟨v,c,a⟩:=bindS a
   refine AWp.cutN [1,5,8,9,10] [] 0 (lb rfl) (fun τ=>τ={ env:=[(1,(.func 80 [] [])),(5,zi v),(8,zl 3 b),(9,(.d (.int .i64 (A.len b)))),(10,zi e)],heap:=[],n:=21 }) ?_ ?_
   ·skip
    rcases tf u with i | i
    ·replace c:=cT i c
     refine zT ?_
     refine zB ?_ { tk:=[18] }
     cases soI c
     exact zO
    ·replace c:=cF i c
     refine zU ?_
     refine zk ?_
     cases soI c
     exact zO
   ·rintro _ rfl
    refine nB (nT ?_)
    refine zA ?_
    exact nT ⟨_,(soI a).symm,rfl,zc⟩
  ·replace a:=cF g a
   refine zU ?_
   refine AWp.exit (xT (xT ?_))
   refine exL a fun hx => ?_
   subst hx
   exact oxI ⟨rfl,_,j,zv⟩
 ·rintro _ ⟨k,j,rfl⟩
  have h:=(r _ j)
  refine xB (nT (zs ?_))
  refine zA ?_ { tk:=[5,20] }
  refine nT (zr ?_)
  cases soI h
  exact zq

theorem M107w {A:Ar} (hA:SA A) {c d:Int} {a b:List D} (h:M107 A c d a=some b):ACall Try.prog 107 [.mref 0 1 c d] [(.arr 1 a)] (.own 1 b) [(.arr 1 a)]:=by
 unfold M107 at h
 refine zI Try.func107 ?_
 refine zs ?_
 refine zA ?_
 refine nT (zs (zs ?_))
 refine zA ?_
 refine nT ?_
 refine zU ?_
 refine zk (nT (zs ?_))
 obtain ⟨_,g,h⟩:=bindS h
 have k:=ckI g
 obtain ⟨l,e,h⟩:=bindS h
 obtain ⟨i,j⟩:=apI e
 refine zB ?_ { tk:=[7] }
 refine nT (zr ?_)
 cases soI h
 exact zq

theorem M78w {A:Ar} (hA:SA A) {g c e:List D} (h:M78 A g c=some e):ACall Try.prog 78 [.d (.agg g),zl 1 c] [] (.own 1 e) []:=by
 unfold M78 at h
 refine zI Try.func78 ?_
 refine zs ?_
 obtain ⟨_,N,h⟩:=bindS h
 have f3:=ckI N
 refine zB ?_ { arr:=[2] }
 refine nT (zs ?_)
 refine zA ?_
 refine nT (zs ?_)
 refine zA ?_
 refine nT (zs (zs ?_))
 refine zA ?_
 refine nT (zb ?_)
 obtain ⟨a1,V,v,S,k⟩:=bindK h
 refine AWp.cutX 0 [2,5,6] [] 1 (lb rfl) (fun τ => ∃ p,v p=some e/\τ={ env:=[(2,.ptr 0 0),(5,(.own 1 [])),(6,zi p)],heap:=[(.arr 1 g)],n:=41 }) ?_ ?_
 ·skip
  refine AWp.iter V [2,5,6,11,12,13] [] 1 (lb rfl) (fun (s,o)=>{ env:=[(2,.ptr 0 0),(5,(.own 1 [])),(6,zi s),(11,zl 1 c),(12,(.d (.int .i64 (A.len c)))),(13,zi o)],heap:=[(.arr 1 g)],n:=41 }) ⟨rfl,zc⟩ ?_
  rintro ⟨s,o⟩ a0 a
  dsimp only [M78L0] at a
  refine zs ?_
  refine zA ?_
  refine nT (zs ?_)
  rcases tf (A.zlt o (A.len c)) with i | i
  ·replace a:=cT i a
   refine zT ?_
   refine zk (nT (zs (zb (zs ?_))))
   obtain ⟨X,y,a⟩:=bindS a
   obtain ⟨c0,d0⟩:=gtI y
   refine zB ?_
   refine nT (zn ?_)
   obtain ⟨y0,z,a⟩:=bindS a
   refine zD (M63aw hA z) ?_
   refine zF ?_
   refine nB (nT ?_)
   refine zB ?_
   exact nT ⟨_,(soI a).symm,rfl,zv⟩
  ·replace a:=cF i a
   refine zU ?_
   refine AWp.exit (xT (xT ?_))
   refine exL a fun hx => ?_
   subst hx
   exact oxI ⟨rfl,_,k,zv⟩
 ·rintro _ ⟨p,k,rfl⟩
  have h:=(S _ k)
  refine xB (nT (zs (zs ?_)))
  refine AWp.regionDraw rfl (lb rfl) ?_
  obtain ⟨_,B,h⟩:=bindS h
  have e0:=ckI B
  obtain ⟨_,C,h⟩:=bindS h
  have g0:=ckI C
  obtain ⟨_,E,h⟩:=bindS h
  have i0:=ckI E
  obtain ⟨_,F,h⟩:=bindS h
  have j0:=ckI F
  obtain ⟨z0,G,h⟩:=bindS h
  refine DOps.cp hT hA {} rfl zu (M107w hA G) rfl rfl rfl rfl (lb rfl) rfl rfl ?_
  obtain ⟨_,J,h⟩:=bindS h
  have k0:=ckI J
  obtain ⟨_,K,h⟩:=bindS h
  have l0:=ckI K
  obtain ⟨_,L,h⟩:=bindS h
  have m0:=ckI L
  obtain ⟨_,M,h⟩:=bindS h
  have n0:=ckI M
  obtain ⟨_,P,h⟩:=bindS h
  have q0:=ckI P
  obtain ⟨m,O,h⟩:=bindS h
  obtain ⟨o0,p0⟩:=apI O
  refine DOps.cd hT hA {} rfl zu (by kernel_rfl) ?_
  refine nT (zb ?_)
  refine AWp.weak (Wk.ren [] [5,28,29,30] rfl rfl) ?_
  obtain ⟨b1,W,w,U,l⟩:=bindK h
  refine AWp.cutX 2 [5] [] 0 (lb rfl) (fun τ => ∃ r,w r=some e/\τ={ env:=[(5,(.own 1 r))],heap:=[],n:=41 }) ?_ ?_
  ·skip
   refine AWp.iter W [5,28,29,30] [] 0 (lb rfl) (fun (u,q)=>{ env:=[(5,(.own 1 u)),(28,(.own 1 m)),(29,(.d (.int .i64 (A.len m)))),(30,zi q)],heap:=[],n:=41 }) ⟨rfl,zc⟩ ?_
   rintro ⟨u,q⟩ b0 b
   dsimp only [M78L1] at b
   refine zs ?_
   refine zA ?_
   refine nT (zs ?_)
   rcases tf (A.zlt q (A.len m)) with j | j
   ·replace b:=cT j b
    refine zT ?_
    refine zk (nT (zs (zb (zs ?_))))
    obtain ⟨Y,Q,b⟩:=bindS b
    obtain ⟨r0,s0⟩:=gtI Q
    refine zB ?_
    refine nT ?_
    obtain ⟨w0,R,b⟩:=bindS b
    obtain ⟨u0,v0⟩:=apI R
    refine zB ?_ { tk:=[5,38] }
    refine nB (nT ?_)
    refine zB ?_
    exact nT ⟨_,(soI b).symm,rfl,zv⟩
   ·replace b:=cF j b
    refine zU ?_
    refine AWp.exit (xT (xT ?_))
    refine exL b fun hx => ?_
    subst hx
    exact oxI ⟨rfl,_,l,zv⟩
  ·rintro _ ⟨r,l,rfl⟩
   have h:=(U _ l)
   refine xB (nT (zs ?_))
   refine zA ?_ { tk:=[5,40] }
   refine nT (zr ?_)
   cases soI h
   exact zq

theorem M75w {A:Ar} (hA:SA A) {b:List D} {k j:Int} (h:M75 A b k=some j):ACall Try.prog 75 [.d (.agg b),zi k] [] (zi j) []:=by
 unfold M75 at h
 refine zI Try.func75 ?_
 refine zs ?_
 obtain ⟨_,s,h⟩:=bindS h
 have E:=ckI s
 refine zB ?_ { arr:=[2] }
 refine nT (zs ?_)
 refine zA ?_
 refine nT (zs (zb ?_))
 obtain ⟨F,v,l,u,e⟩:=bindK h
 refine AWp.cutX 0 [5] [] 1 (lb rfl) (fun τ => ∃ i,l i=some j/\τ={ env:=[(5,zi i)],heap:=[(.arr 1 b)],n:=17 }) ?_ ?_
 ·skip
  refine AWp.iter v [1,2,5] [] 1 (lb rfl) (fun g=>{ env:=[(1,zi k),(2,.ptr 0 0),(5,zi g)],heap:=[(.arr 1 b)],n:=17 }) ⟨rfl,zc⟩ ?_
  rintro g w a
  dsimp only [M75L0] at a
  refine zs (zs ?_)
  obtain ⟨_,o,a⟩:=bindS a
  have y:=ckI o
  obtain ⟨_,p,a⟩:=bindS a
  have z:=ckI p
  obtain ⟨m,q,a⟩:=bindS a
  have B:=gcI q
  obtain ⟨_,r,a⟩:=bindS a
  have C:=nkI r
  refine zB ?_
  refine nT ?_
  rcases tf (A.zeq (A.bits .and .u8 (A.shr .u8 m g) 1) 1) with c | c
  ·replace a:=cT c a
   refine zT ?_
   refine zk (nT (zb ?_))
   refine zB ?_ { tk:=[15] }
   refine nB ?_
   exact nT ⟨_,(soI a).symm,rfl,zv⟩
  ·replace a:=cF c a
   refine zU ?_
   refine AWp.exit (xT (xT ?_))
   refine exL a fun hx => ?_
   subst hx
   exact oxI ⟨rfl,_,e,zv⟩
 ·rintro _ ⟨i,e,rfl⟩
  have h:=(u _ e)
  refine xB (nT (zs ?_))
  refine zA ?_ { tk:=[5,16] }
  refine nT (zr ?_)
  cases soI h
  exact zq

theorem M106w {A:Ar} (hA:SA A) {l:List D} {m o j:Int} (h:M106 A l m o=some j):ACall Try.prog 106 [zl 1 l,zi m,zi o] [] (zi j) []:=by
 unfold M106 at h
 refine zI Try.func106 ?_
 refine zs ?_
 refine zA ?_
 refine nT (zs (zn ?_))
 obtain ⟨C,v,h⟩:=bindS h
 obtain ⟨R,S⟩:=gtI v
 obtain ⟨U,w,h⟩:=bindS h
 obtain ⟨F,G,J,K⟩:=slI w
 obtain ⟨V,q,h⟩:=bindS h
 refine zD (M63aw hA q) ?_ { tk:=[16] }
 refine zF ?_ { tk:=[16] }
 refine nT (zs (zs ?_))
 obtain ⟨e,r,h⟩:=bindS h
 obtain ⟨L,M,N,O⟩:=slI r
 refine zB ?_
 refine nT (zb ?_)
 obtain ⟨X,z,p,y,c⟩:=bindK h
 refine AWp.cutX 0 [7] [] 0 (lb rfl) (fun τ => ∃ i,p i=some j/\τ={ env:=[(7,zi i)],heap:=[],n:=31 }) ?_ ?_
 ·skip
  refine AWp.iter z [7,19,20,21] [] 0 (lb rfl) (fun (k,g)=>{ env:=[(7,zi k),(19,zl 1 e),(20,(.d (.int .i64 (A.len e)))),(21,zi g)],heap:=[],n:=31 }) ⟨rfl,zc⟩ ?_
  rintro ⟨k,g⟩ E a
  dsimp only [M106L0] at a
  refine zs ?_
  refine zA ?_
  refine nT (zs ?_)
  rcases tf (A.zlt g (A.len e)) with b | b
  ·replace a:=cT b a
   refine zT ?_
   refine zk (nT (zs (zb (zs ?_))))
   obtain ⟨B,s,a⟩:=bindS a
   obtain ⟨P,Q⟩:=gtI s
   refine zB ?_
   refine nT (zn ?_)
   obtain ⟨W,u,a⟩:=bindS a
   refine zD (M63aw hA u) ?_ { tk:=[28] }
   refine zF ?_ { tk:=[28] }
   refine nB (nT ?_)
   refine zB ?_
   exact nT ⟨_,(soI a).symm,rfl,zv⟩
  ·replace a:=cF b a
   refine zU ?_
   refine AWp.exit (xT (xT ?_))
   refine exL a fun hx => ?_
   subst hx
   exact oxI ⟨rfl,_,c,zv⟩
 ·rintro _ ⟨i,c,rfl⟩
  have h:=(y _ c)
  refine xB (nT (zs ?_))
  refine zA ?_ { tk:=[7,30] }
  refine nT (zr ?_)
  cases soI h
  exact zq

theorem M74w {A:Ar} (hA:SA A) {e:Int} {c:List D} {o p q:Int} {g B:List D} {s:Bool} {u v w:Int} {y z:List D} (h:M74 A e c o p q g B=some (s,u,v,w,y,z)):ACall Try.prog 74 [.ptr 0 0,zi e] [.cells [zl 1 c,.gref 1 1,.gref 4 1,zi o,zi p,zi q],.gro 1 g,.dead,.dead,.gro 1 B,.dead,.dead] (.d (.bool s)) [.cells [zl 1 c,.gref 1 1,.gref 4 1,zi u,zi v,zi w],.gro 1 y,.dead,.dead,.gro 1 z,.dead,.dead]:=by
 unfold M74 at h
 refine zI Try.func74 ?_
 refine zs ?_
 refine zA ?_
 refine nT (zs (zs ?_))
 obtain ⟨_,e8,h⟩:=bindS h
 have m0:=ckI e8
 obtain ⟨_,e9,h⟩:=bindS h
 have n0:=ckI e9
 obtain ⟨i,G,h⟩:=bindS h
 have o0:=gcI G
 obtain ⟨C,J,h⟩:=bindS h
 obtain ⟨p0,q0⟩:=gtI J
 refine AWp.rd hT hA {} rfl zu (by kernel_rfl) (lb rfl) ?_
 refine nT ?_
 rcases tf (A.zle (A.len C) i) with k | k
 ·replace h:=cT k h
  refine zT ?_
  refine zs ?_
  refine zB ?_
  refine nT (zr (rT ?_))
  cases soI h
  exact zq
 ·replace h:=cF k h
  refine zU ?_
  refine zk (nT (zs ?_))
  obtain ⟨_,K,h⟩:=bindS h
  have r0:=ckI K
  obtain ⟨_,L,h⟩:=bindS h
  have s0:=ckI L
  obtain ⟨⟨j,E,F⟩,M,h⟩:=bindS h
  obtain ⟨u0,v0⟩:=gtI M
  refine AWp.rd hT hA { tk:=[37] } rfl zu (by kernel_rfl) (lb rfl) ?_
  refine nT (zs ?_)
  obtain ⟨_,N,h⟩:=bindS h
  have w0:=ckI N
  obtain ⟨_,O,h⟩:=bindS h
  have y0:=ckI O
  obtain ⟨_,P,h⟩:=bindS h
  have z0:=ckI P
  obtain ⟨_,Q,h⟩:=bindS h
  have a1:=ckI Q
  refine zB ?_ { tk:=[45] }
  refine nT (zs (zs ?_))
  refine zB ?_
  refine nT ?_
  obtain ⟨r,a,h⟩:=bindS h
  refine AWp.cutW (fun τ=>τ={ env:=[(0,.ptr 0 0),(5,(.lbox [zi j,zi E,zi F]))],heap:=[.cells [zl 1 c,.gref 1 1,.gref 4 1,zi o,zi p,zi q],(.gro 1 (A.lset g (A.nat e) (.int .i64 (A.wrp .i64 (A.zadd i 1))))),.dead,.dead,.gro 1 r,.dead,.dead],n:=85 }) ?_ ?_
  ·skip
   rcases tf (A.zeq j 1) with l | l
   ·replace a:=cT l a
    refine zT ?_
    obtain ⟨_,R,a⟩:=bindS a
    have b1:=ckI R
    obtain ⟨_,S,a⟩:=bindS a
    have c1:=ckI S
    obtain ⟨k0,U,a⟩:=bindS a
    have d1:=gcI U
    obtain ⟨r1,V,a⟩:=bindS a
    obtain ⟨e1,g1⟩:=apI V
    obtain ⟨_,W,a⟩:=bindS a
    have i1:=ckI W
    obtain ⟨_,X,a⟩:=bindS a
    have j1:=ckI X
    obtain ⟨l0,Y,a⟩:=bindS a
    have k1:=gcI Y
    obtain ⟨s1,a0,a⟩:=bindS a
    obtain ⟨l1,m1⟩:=apI a0
    obtain ⟨_,b0,a⟩:=bindS a
    have n1:=ckI b0
    obtain ⟨_,c0,a⟩:=bindS a
    have o1:=ckI c0
    refine AWp.rd hT hA { tk:=[72],vx:=[69] } rfl zu (by kernel_rfl) (lb rfl) ?_
    cases soI a
    exact oWi ⟨_,zR [some 0,some 1,some 2,some 3,some 4,some 5,some 6] [0,5],rfl⟩
   ·replace a:=cF l a
    refine zU ?_
    refine zk ?_
    cases soI a
    exact oWi ⟨_,zR [some 0,some 1,some 2,some 3,some 4,some 5,some 6] [0,5],rfl⟩
  ·rintro _ rfl
   refine nT (zs (zs ?_))
   refine zA ?_
   refine nT ?_
   obtain ⟨⟨g0,i0,j0⟩,b,h⟩:=bindS h
   refine AWp.cutW (fun τ=>τ={ env:=[],heap:=[.cells [zl 1 c,.gref 1 1,.gref 4 1,zi g0,zi i0,zi j0],(.gro 1 (A.lset g (A.nat e) (.int .i64 (A.wrp .i64 (A.zadd i 1))))),.dead,.dead,.gro 1 r,.dead,.dead],n:=85 }) ?_ ?_
   ·skip
    rcases tf (A.zeq j 2) with m | m
    ·replace b:=cT m b
     refine zT ?_
     obtain ⟨_,d0,b⟩:=bindS b
     have p1:=ckI d0
     obtain ⟨_,e0,b⟩:=bindS b
     have q1:=ckI e0
     refine AWp.rd hT hA { tk:=[81],vx:=[84] } rfl zu (by kernel_rfl) (lb rfl) ?_
     cases soI b
     exact oWi ⟨_,zR [some 0,some 1,some 2,some 3,some 4,some 5,some 6] [],rfl⟩
    ·replace b:=cF m b
     refine zU ?_
     refine zk ?_
     cases soI b
     exact oWi ⟨_,zR [some 0,some 1,some 2,some 3,some 4,some 5,some 6] [],rfl⟩
   ·rintro _ rfl
    refine nT (zs ?_)
    refine zA ?_
    refine nT (zr ?_)
    cases soI h
    exact zq

theorem M79w {A:Ar} (hA:SA A) {c:List D} {e g i:Int} {j k l:List D} (h:M79 A c e g i j k=some l):ACall Try.prog 79 [.ptr 0 0] [.cells [zl 1 c,.gref 1 1,.gref 4 1,zi e,zi g,zi i],.gro 1 j,.dead,.dead,.gro 1 k,.dead,.dead] (.own 1 l) [.cells [zl 1 c,.gref 1 1,.gref 4 1,zi e,zi g,zi i],.gro 1 j,.dead,.dead,.gro 1 k,.dead,.dead]:=by
 unfold M79 at h
 refine zI Try.func79 ?_
 refine zs ?_
 refine zA ?_
 refine nT (zs ?_)
 refine zA ?_
 refine nT (zs (zs ?_))
 refine zA ?_
 refine nT (zb ?_)
 obtain ⟨l0,P,z,N,p⟩:=bindK h
 refine AWp.cutXW 0 (fun τ => ∃ s,z s=some l/\τ={ env:=[(0,.ptr 0 0),(3,(.own 1 s))],heap:=[.cells [zl 1 c,.gref 1 1,.gref 4 1,zi e,zi g,zi i],.gro 1 j,.dead,.dead,.gro 1 k,.dead,.dead],n:=38 }) ?_ ?_
 ·skip
  refine AWp.iterW P (fun (w,r)=>{ env:=[(0,.ptr 0 0),(3,(.own 1 w)),(4,zi r)],heap:=[.cells [zl 1 c,.gref 1 1,.gref 4 1,zi e,zi g,zi i],.gro 1 j,.dead,.dead,.gro 1 k,.dead,.dead],n:=38 }) ⟨_,zR [some 0,some 1,some 2,some 3,some 4,some 5,some 6] [0,3,4],rfl⟩ ?_
  rintro ⟨w,r⟩ U a
  dsimp only [M79L0] at a
  refine zs (zs ?_)
  refine zA ?_
  refine nT ?_
  rcases tf (A.zlt r (A.len c)) with m | m
  ·replace a:=cT m a
   refine zT ?_
   refine zk (nT (zs (zb ?_)))
   obtain ⟨_,C,a⟩:=bindS a
   have W:=ckI C
   obtain ⟨_,E,a⟩:=bindS a
   have X:=ckI E
   obtain ⟨R,F,a⟩:=bindS a
   have Y:=gcI F
   obtain ⟨j0,G,a⟩:=bindS a
   obtain ⟨a0,b0⟩:=apI G
   refine zB ?_ { tk:=[3,23] }
   refine nB (nT ?_)
   refine zB ?_
   exact nT ⟨_,(soI a).symm,_,zR [some 0,some 1,some 2,some 3,some 4,some 5,some 6] [0,3,4],rfl⟩
  ·replace a:=cF m a
   refine zU ?_
   refine AWp.exit (xT (xT ?_))
   refine exL a fun hx => ?_
   subst hx
   exact oxWI ⟨_,zR [some 0,some 1,some 2,some 3,some 4,some 5,some 6] [0,3],_,p,rfl⟩
 ·rintro _ ⟨s,p,rfl⟩
  have h:=(N _ p)
  refine xB (nT (zs (zs ?_)))
  refine zA ?_
  refine nT (zb ?_)
  obtain ⟨m0,Q,B,O,q⟩:=bindK h
  refine AWp.cutXW 2 (fun τ => ∃ v,B v=some l/\τ={ env:=[(3,(.own 1 v))],heap:=[.cells [zl 1 c,.gref 1 1,.gref 4 1,zi e,zi g,zi i],.gro 1 j,.dead,.dead,.gro 1 k,.dead,.dead],n:=38 }) ?_ ?_
  ·skip
   refine AWp.iterW Q (fun (y,u)=>{ env:=[(0,.ptr 0 0),(3,(.own 1 y)),(5,zi u)],heap:=[.cells [zl 1 c,.gref 1 1,.gref 4 1,zi e,zi g,zi i],.gro 1 j,.dead,.dead,.gro 1 k,.dead,.dead],n:=38 }) ⟨_,zR [some 0,some 1,some 2,some 3,some 4,some 5,some 6] [0,3,5],rfl⟩ ?_
   rintro ⟨y,u⟩ V b
   dsimp only [M79L1] at b
   refine zs (zs ?_)
   refine zA ?_
   refine nT ?_
   rcases tf (A.zlt u 3) with o | o
   ·replace b:=cT o b
    refine zT ?_
    refine zk (nT (zs (zb ?_)))
    obtain ⟨_,J,b⟩:=bindS b
    have c0:=ckI J
    obtain ⟨_,K,b⟩:=bindS b
    have d0:=ckI K
    obtain ⟨S,L,b⟩:=bindS b
    have e0:=gcI L
    obtain ⟨k0,M,b⟩:=bindS b
    obtain ⟨g0,i0⟩:=apI M
    refine zB ?_ { tk:=[3,36],vx:=[33] }
    refine nB (nT ?_)
    refine zB ?_
    exact nT ⟨_,(soI b).symm,_,zR [some 0,some 1,some 2,some 3,some 4,some 5,some 6] [0,3,5],rfl⟩
   ·replace b:=cF o b
    refine zU ?_
    refine AWp.exit (xT (xT ?_))
    refine exL b fun hx => ?_
    subst hx
    exact oxWI ⟨_,zR [some 0,some 1,some 2,some 3,some 4,some 5,some 6] [3],_,q,rfl⟩
  ·rintro _ ⟨v,q,rfl⟩
   have h:=(O _ q)
   refine xB (nT (zs ?_))
   refine zA ?_ { tk:=[3,37] }
   refine nT (zr ?_)
   cases soI h
   exact zq
end Go.Am
