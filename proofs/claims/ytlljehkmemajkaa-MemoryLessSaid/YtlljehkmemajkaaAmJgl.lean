import Derived.Test.YtlljehkmemajkaaAmThw
import Derived.Test.YtlljehkmemajkaaAmSrt
set_option linter.unusedSimpArgs false
set_option linter.unusedSectionVars false
set_option linter.unusedVariables false
namespace Go.Am
open Go
theorem Rel.reJag {G:Gh} {σ:St} {a:Act} {w:World} (R:Rel G σ a w) {i k:Nat} {l l':List D} {o o':Option (Int×AV)} (hi:σ.heap[i]?=some (.jag k l o)) (hll:l'.length=l.length) (hu : ∀ x∈l',∃ y,x = .list k y) (ho : ∀ p,o'=some p->p.2.isCell=true/\p.2.free=true)
  (hent : ∀ vs e,0<G.β (.o (i+1))->w.heap[G.β (.o i)]?=some (.cells vs e (0,0))->(∀ (j:Nat) (hj:j<l.length),RepV G w (.oc i j) (a2A k o j l[j]) (vs.getD j Go.undef)) -> ∀ (j:Nat) (hj:j<l'.length),RepV G w (.oc i j) (a2A k o' j l'[j]) (vs.getD j Go.undef)) :
  Rel G { σ with heap:=σ.heap.set i (.jag k l' o') } a w:=by
 refine ⟨⟨R.h.sane,by simpa using R.h.nh,fun x ob hob => ?_,R.h.kept,R.h.disj⟩,R.size,R.slots,R.places,R.df⟩;by_cases hx:i=x
 ·subst hx;simp only at hob;rw [List.getElem?_set_self (zp2.1 hi).1] at hob;injection hob with hob;subst hob
  obtain ⟨g0,g1,g2,g3,go,g4⟩:=R.h.objs i _ hi;refine ⟨g0,by rw [hll];exact g1,by rw [hll];exact g2,hu,ho,fun hc => ?_⟩;obtain ⟨vs,e,h1,h2,h3,h4⟩:=g4 hc;exact ⟨vs,e,h1,h2,h3,hent vs e hc h2 h4⟩
 rw [List.getElem?_set_ne hx] at hob;exact R.h.objs x ob hob
theorem a6V {k:Nat} {t:Int} {x:AV} {d:D}:a2A k (some (t,x)) t.toNat d=x:=by simp [a2A]
theorem a6W {k j:Nat} {t:Int} {x:AV} {d:D} (h:j≠t.toNat):a2A k (some (t,x)) j d=frA k d:=by simp [a2A,h]
theorem Wk.openG {m:Nat} {σ:St} (i:Nat) (z:Int) {k:Nat} {l y:List D} (hi:σ.heap[i]?=some (.jag k l none)) (hz:0<=z) (hy:l[z.toNat]?=some (.list k y)) :
  Wk m σ { σ with heap:=σ.heap.set i (.jag k l (some (z,.gref σ.heap.length k)))++[.gro k y,.dead,.dead] }:=by
 intro G a w hm R;obtain ⟨g0,g1,g2,g3,go,g4⟩:=R.h.objs i _ hi;have hjl:z.toNat<l.length:=(zp2.1 hy).1;have hly:l[z.toNat] = .list k y:=(zp2.1 hy).2;have hil:i<σ.heap.length:=(zp2.1 hi).1;obtain ⟨vs,e,o1,o2,o3,o4⟩:=g4 (by omega);have h0:=o4 z.toNat hjl;rw [hly] at h0;simp only [a2A,frA,if_true] at h0;generalize hvv:vs.getD z.toNat Go.undef=v at h0;cases h0 with | fresh _ _ _ _ h0 =>
 obtain ⟨p,cap,hv,hu,hl,hb⟩:=h0;have R1:=R.reJag (l':=l) (o':=some (z,.junk)) hi rfl g3 (fun p e=>by cases e;exact ⟨rfl,rfl⟩) (fun vs' e' _ hw' hold j hj=>by
  rw [o2] at hw';cases hw';by_cases hjz:j=z.toNat
  ·subst hjz;rw [a6V,hvv,hv];exact .junk _ _ rfl
  rw [a6W hjz];exact hold j hj)
 obtain ⟨b,hb'⟩ : ∃ b,0<cap->p=some ⟨b,0,none⟩/\G.O b=some (.oc i z.toNat,0) /\ ∃ vs e,w.heap[b]?=some (.cells vs e (0,0))/\cap*k<=vs.size /\
   (∀ j,j<(D.flat y).length->(vs.getD j Go.undef).oneCell'=true) /\ ∀ (j:Nat) (hj:j<(D.flat y).length),RepD G.K (D.flat y)[j] (vs.getD j Go.undef):=by
  rcases Nat.eq_zero_or_pos cap with h | h
  ·exact ⟨0,fun h'=>by omega⟩
  obtain ⟨b,vs,e,q1,q2,q3,q4,q5,q6⟩:=hb h;exact ⟨b,fun _=>⟨q1,q2,vs,e,q3,q4,q5,q6⟩⟩
 have hN:({ σ with heap:=σ.heap.set i (.jag k l (some (z,.junk))) }:St).heap.length=σ.heap.length:=by simp
 obtain ⟨R2,hE,hrep⟩:=R1.toGro (w':=w) (k:=k) (l:=y) (cap:=cap) (b:=b) (p:=p) (fun hc=>(hb' hc).1) hu hl (Nat.le_refl _) ⟨rfl,rfl,fun _ _=>rfl,rfl,Nat.le_refl _⟩ (fun _ _ _=>rfl)
  (fun hc=>by
   obtain ⟨q1,q2,vs,e,q3,q4⟩:=hb' hc;exact ⟨(Array.getElem?_eq_some_iff.1 q3).1,.inr ⟨_,q2,.inr ⟨k,l,z,.junk,by simp [hil],rfl⟩⟩,vs,e,q3,q4⟩)
 rw [hN] at R2 hE hrep;have hβ:(G.gro σ.heap.length b cap y.length).β (.o i)=G.β (.o i):=by
  simp only [Gh.gro,Root.o.injEq];rw [if_neg (by omega),if_neg (by omega),if_neg (by omega)]
 have R3:=R2.reJag (i:=i) (k:=k) (l:=l) (l':=l) (o:=some (z,.junk)) (o':=some (z,.gref σ.heap.length k)) (by simp [zp7,hil]) rfl g3 (fun p e=>by cases e;exact ⟨rfl,rfl⟩) (fun vs' e' _ hw' hold j hj=>by
  rw [hβ,o2] at hw';cases hw';by_cases hjz:j=z.toNat
  ·subst hjz;rw [a6V,hvv,hv];exact hrep _
  have:=hold j hj;rw [a6W hjz] at this ⊢;exact this)
 refine ⟨_,?_,hE m hm,?_⟩
 ·have:(σ.heap.set i (Obj.jag k l (some (z,.junk)))++[Obj.gro k y,.dead,.dead]).set i (.jag k l (some (z,.gref σ.heap.length k)))=σ.heap.set i (.jag k l (some (z,.gref σ.heap.length k)))++[.gro k y,.dead,.dead]:=by
   rw [List.set_append_left _ _ (by simpa using hil),List.set_set]
  rw [this] at R3;exact R3
 have:=R.h.nh;simp only [Gh.gro];omega
theorem Wk.shutG {m:Nat} {σ:St} (i:Nat) {q k:Nat} {z:Int} {l y:List D} (hi:σ.heap[i]?=some (.jag k l (some (z,.gref q k)))) (hq:σ.heap[q]?=some (.gro k y)) (hz:z.toNat<l.length) :
  Wk m σ { σ with heap:=(σ.heap.set q .dead).set i (.jag k (l.set z.toNat (.list k y)) none) }:=by
 intro G a w hm R;have hiq:q≠i:=by rintro rfl;rw [hq] at hi;cases hi
 obtain ⟨g0,g1,g2,g3,go,g4⟩:=R.h.objs i _ hi;obtain ⟨vs,e,o1,o2,o3,o4⟩:=g4 (by omega);have hrep:=o4 _ hz;rw [a6V] at hrep;generalize hvv:vs.getD z.toNat Go.undef=v at hrep;cases hrep with | gref _ _ _ p ha hc hp =>
 obtain ⟨q0,q1,q2,q3,q4⟩:=R.h.objs q _ hq;have R1:=R.kill q;have hdead:lets { σ with heap:=σ.heap.set q .dead } (.o q):=by
  simp only [lets];rw [List.getElem?_set_self (zp2.1 hq).1]
 obtain ⟨R2,hext,hfr⟩:=R1.toLoc (.oc i z.toNat) (by simp [Loc.root]) (w':=w) (k:=k) (l:=y) (cap:=G.β (.o (q+1))) (b:=G.β (.o q)) (p:=p) hp q3 q2 (Nat.le_refl _)
  ⟨rfl,rfl,fun _ _=>rfl,rfl,Nat.le_refl _⟩ (fun _ _ _=>rfl) (fun hc=>by
   obtain ⟨vs,e',h1,h2,h3,h4,h5⟩:=q4 hc;exact ⟨(Array.getElem?_eq_some_iff.1 h2).1,.inr ⟨_,h1,hdead⟩,vs,e',h2,h3,h4,h5⟩)
 have R3:=R2.reJag (i:=i) (k:=k) (l:=l) (l':=l.set z.toNat (.list k y)) (o:=some (z,.gref q k)) (o':=none) (by simp only;rw [List.getElem?_set_ne hiq];exact hi) (by simp) (fun x hx=>by
   rcases List.mem_or_eq_of_mem_set hx with hx | rfl
   ·exact g3 x hx
   exact ⟨y,rfl⟩) (fun p e=>by cases e) (fun vs' e' _ hw' hold j hj=>by
  have hβ:(G.give (G.β (.o q)) (G.β (.o (q+1))) (.oc i z.toNat)).β=G.β:=rfl;rw [hβ,o2] at hw';cases hw';by_cases hjz:j=z.toNat
  ·subst hjz;rw [List.getElem_set_self];simp only [a2A,frA,if_true];rw [hvv,<-q1];exact .fresh _ _ _ _ hfr
  rw [List.getElem_set_ne (Ne.symm hjz)];have hj':j<l.length:=by simpa using hj
  have:=hold j hj';rw [a6W hjz] at this;exact this)
 exact ⟨_,R3,hext m hm,hm⟩
def a2o (i:Nat):Loc->Bool
 | .o j=>j == i
 | .oc j _=>j == i
 | _=>false
def Gh.own1 (G:Gh) (i b:Nat):Bool:=match G.O b with | some (ℓ,_)=>a2o i ℓ | none=>false
def Gh.frz (G:Gh) (w:World) (i:Nat):Gh :=
 { G with K:=fun x=>if G.own1 i x.block then w.cell? x else G.K x,O:=fun b=>if G.own1 i b then none else G.O b }
theorem Rel.frzAll {G:Gh} {σ:St} {a:Act} {w:World} (R:Rel G σ a w) (i:Nat):Rel (G.frz w i) { σ with heap:=σ.heap.set i .dead } a w/\(∀ m,Ext m G w (G.frz w i) w)/\KLe G.K (G.frz w i).K:=by
 have hKle:KLe G.K (G.frz w i).K:=by
  intro x v h;simp only [Gh.frz];split
  ·exact R.h.kept x v h
  exact h
 have hOold : ∀ b ℓ f,a2o i ℓ=false->G.O b=some (ℓ,f)->(G.frz w i).O b=some (ℓ,f):=by
  intro b ℓ f hℓ h;simp only [Gh.frz];rw [if_neg (by simp [Gh.own1,h,hℓ])];exact h
 have hpr:Pres G (G.frz w i) w w (fun ℓ=>a2o i ℓ=false):=⟨hKle,fun b ℓ f hl h=>⟨hOold b ℓ f hl h,rfl⟩,fun _ _=>rfl,Nat.le_refl _⟩;have hO' : ∀ b ℓ f,(G.frz w i).O b=some (ℓ,f)->G.O b=some (ℓ,f)/\G.own1 i b=false:=by
  intro b ℓ f h;simp only [Gh.frz] at h;split at h
  ·cases h
  rename_i hn;exact ⟨h,by simpa using hn⟩
 refine ⟨⟨⟨⟨fun b ℓ f h=>R.h.sane.no b ℓ f (hO' b ℓ f h).1⟩,by simpa [Gh.frz] using R.h.nh,fun j ob hob => ?_,fun x v h => ?_,fun b ℓ f h => ?_⟩,R.size,fun t => ?_,R.places,R.df.1,fun d hd => ?_⟩,fun m=>⟨hKle,fun x v h => ?_,fun b hb h=>⟨rfl,?_⟩,Nat.le_refl _,fun _ _=>rfl,rfl,rfl,fun _ _=>rfl,rfl,Nat.le_refl _⟩,hKle⟩
 ·by_cases hij:i=j
  ·subst hij;have:ob = .dead:=by
    rw [List.getElem?_set] at hob;simp at hob;exact hob.2.symm
   subst this;trivial
  rw [List.getElem?_set_ne hij] at hob;exact (R.h.objs j ob hob).pres R.h.sane (by rw [<-R.h.nh];exact (zp2.1 hob).1) hpr (by simp [a2o];exact fun e=>hij e.symm) (fun q=>by simp [a2o];exact fun e=>hij e.symm)
 ·simp only [Gh.frz] at h;split at h
  ·exact h
  exact R.h.kept x v h
 ·obtain ⟨h1,h2⟩:=hO' b ℓ f h;obtain ⟨h3,h4⟩:=R.h.disj b ℓ f h1;refine ⟨h3,fun j hj => ?_⟩;simp only [Gh.frz];rw [if_neg (by simp [h2])];exact h4 j hj
 ·exact (R.slots t).pres R.h.sane hpr (by simp [a2o]) (fun _ _ _=>rfl) (fun _ _ _=>⟨rfl,fun j=>by simp [a2o]⟩)
 ·obtain ⟨r0,h1,h2,h3⟩:=R.df.2 d hd;exact ⟨r0,h1,hOold _ _ _ (by simp [a2o]) h2,h3⟩
 ·simp only [Gh.frz] at h;split at h
  ·rename_i ho;simp only [Gh.own1] at ho;split at ho
   ·rename_i ℓ f hO;exact .inr (.inl ⟨_,hO⟩)
   cases ho
  exact .inl h
 simp only [Gh.frz];split
 ·rfl
 exact h
def b8q (k:Nat) (l:List D):Option (Int×AV)->Option (List D)
 | none=>some l
 | some (z,.d (.list k' y))=>if k'=k then some (l.set z.toNat (.list k y)) else none
 | _=>none
theorem Wk.frzJ {m:Nat} {σ:St} (s:Nat) {i k:Nat} {l l':List D} {o:Option (Int×AV)} (hs:σ.get s = .gref i 1) (hi:σ.heap[i]?=some (.jag k l o)) (ho:b8q k l o=some l') :
  Wk m σ { σ with env:=eset σ.env s (.d (.list 1 l')),heap:=σ.heap.set i .dead }:=by
 intro G a w hm R;have hv:=R.slots s;rw [hs] at hv;obtain ⟨g0,g1,g2,g3,go,g4⟩:=R.h.objs i _ hi;obtain ⟨R1,hE,hK⟩:=R.frzAll i;generalize hvv:a.tmps.getD s Go.undef=v at hv;cases hv with | gref _ _ _ p ha hc hp =>
 have hll:l'.length=l.length:=by
  unfold b8q at ho;split at ho
  ·cases ho;rfl
  ·split at ho
   ·cases ho;simp
   cases ho
  cases ho
 have hlist : ∀ x∈l',∃ y,x = .list k y:=by
  intro x hx;unfold b8q at ho;split at ho
  ·cases ho;exact g3 x hx
  ·split at ho
   ·cases ho;rcases List.mem_or_eq_of_mem_set hx with hx | rfl
    ·exact g3 x hx
    exact ⟨_,rfl⟩
   cases ho
  cases ho
 have hu:a0j 1 l':=fun x hx=>by obtain ⟨y,rfl⟩:=hlist x hx;rfl
 have hd:RepD (G.frz w i).K (.list 1 l') (.slice p (G.β (.o (i+2))) (G.β (.o (i+1)))):=by
  rcases Nat.eq_zero_or_pos (G.β (.o (i+1))) with h0 | h0
  ·have hl0:l'=[]:=List.eq_nil_of_length_eq_zero (by omega);have h2:G.β (.o (i+2))=0:=by omega
   rw [hl0,h0,h2];exact RepD.zero _ _ _
  ·obtain rfl:=hp h0;obtain ⟨vs,e,o1,o2,o3,o4⟩:=g4 h0;have hfl:=a0b hu;have hfe : ∀ (j:Nat) (hj:j<(D.flat l').length),∃ hj':j<l'.length,(D.flat l')[j]=l'[j]:=by
    intro j hj;have hj':j<l'.length:=by omega
    refine ⟨hj',?_⟩;have hfg:=a0A hu (i:=j) (y:=l'[j]) (zp1 hj') 0 (by omega);simp only [Nat.mul_one,Nat.add_zero] at hfg;rw [zp1 hj] at hfg;obtain ⟨y,hy⟩:=hlist _ (zp6 hj');rw [hy] at hfg ⊢;simpa [D.cells] using hfg

   have hent : ∀ (j:Nat) (hj:j<l'.length),RepD (G.frz w i).K l'[j] (vs.getD j Go.undef)/\(vs.getD j Go.undef).oneCell'=true:=by
    intro j hj;have hj0:j<l.length:=by omega
    have h5:=o4 j hj0

    have whole : ∀ y,RepV G w (.oc i j) (.fresh k y) (vs.getD j Go.undef)->RepD (G.frz w i).K (.list k y) (vs.getD j Go.undef)/\(vs.getD j Go.undef).oneCell'=true:=by
     intro y hy;refine ⟨?_,hy.oneCell rfl⟩;generalize vs.getD j Go.undef=v at hy;cases hy with | fresh _ _ _ _ hf =>
     obtain ⟨p',cap,rfl,f1,f2,f3⟩:=hf;rcases Nat.eq_zero_or_pos cap with hc0 | hc0
     ·have hy0:y=[]:=List.eq_nil_of_length_eq_zero (by omega);subst hy0 hc0;exact RepD.zero _ _ _
     obtain ⟨b,vs1,e1,rfl,q1,q2,q3,q4,q5⟩:=f3 hc0;have hfy:=a0b f1;have hmul:y.length*k<=cap*k:=Nat.mul_le_mul_right _ f2;refine RepD.list k y b 0 cap (fun q=>vs1.getD q Go.undef) f1 f2 (fun q hq => ?_) q4 (fun q hq=>(q5 q hq).mono hK);simp only [Gh.frz];rw [if_pos (by simp [Gh.own1,q1,a2o]),Nat.zero_add];exact a0M q2 (by omega)
    unfold b8q at ho;split at ho
    ·cases ho;obtain ⟨y,hy⟩:=g3 _ (zp6 hj0);rw [hy] at h5 ⊢;exact whole y (by simpa [a2A,frA] using h5)
    ·rename_i z k' y;split at ho
     ·rename_i hk;subst hk;cases ho;by_cases hjz:j=z.toNat
      ·subst hjz;rw [a6V] at h5;rw [List.getElem_set_self];refine ⟨?_,h5.oneCell rfl⟩;cases h5 with | d _ _ _ h5=>exact h5.mono hK
      rw [a6W hjz] at h5;rw [List.getElem_set_ne (Ne.symm hjz)];obtain ⟨y,hy⟩:=g3 _ (zp6 hj0);rw [hy] at h5 ⊢;exact whole y (by simpa [frA] using h5)
     cases ho
    cases ho
   have:=RepD.list (K:=(G.frz w i).K) 1 l' (G.β (.o i)) 0 (G.β (.o (i+1))) (fun q=>vs.getD q Go.undef) hu (by omega) (fun q hq=>by
     simp only [Gh.frz];rw [if_pos (by simp [Gh.own1,o1,a2o]),Nat.zero_add];exact a0M o2 (by omega)) (fun q hq=>(hent q (by omega)).2) (fun q hq=>by
     obtain ⟨hj',e1⟩:=hfe q hq;rw [e1];exact (hent q hj').1)
   rw [hll,g1] at this;exact this
 have R3:=R1.reSlot (s:=s) (c := .d (.list 1 l')) (by rw [hvv];exact .d _ _ _ hd) rfl (by show (σ.get s).isBox=false;rw [hs];rfl);exact ⟨_,R3,hE m,by simpa [Gh.frz] using hm⟩
theorem b5X {A:Ar} (hA:A=Ar.std) {z:Int} (h:A.zle 0 z=true):0<=z:=by subst hA;simpa [Ar.std] using h
theorem b7Q {A:Ar} (hA:A=Ar.std) {z:Int} {l y:List D} {k:Nat} (h:A.lget l (A.nat z)=some ((cL k).en y)):l[z.toNat]?=some (.list k y):=by subst hA;simpa [Ar.std,cL] using h
theorem b7R {A:Ar} (hA:A=Ar.std) {z:Int} {l:List D} {d:D} (_:A.zle 0 z=true) (h:A.lget l (A.nat z)=some d):z.toNat<l.length:=by
 subst hA;have:l[z.toNat]?=some d:=by simpa [Ar.std] using h
 exact (zp2.1 this).1
theorem b9m {A:Ar} (hA:A=Ar.std) {z:Int} {l:List D} {d:D} (h0:A.zle 0 z=true) (h:A.lget l (A.nat z)=some d):A.zlt z (A.len l)=true:=by
 have h1:=b7R hA h0 h;have h2:=b5X hA h0;subst hA;simp [Ar.std];omega
theorem b5Y {A:Ar} (hA:A=Ar.std) (z:Int):A.zeq z z=true:=by subst hA;simp [Ar.std]
theorem Wk.shutGA {A:Ar} (hA:A=Ar.std) {m:Nat} {σ:St} (i:Nat) {q k:Nat} {z:Int} {l y:List D} (hi:σ.heap[i]?=some (.jag k l (some (z,.gref q k)))) (hq:σ.heap[q]?=some (.gro k y)) (h0:A.zle 0 z=true) (hz:A.zlt z (A.len l)=true) :
  Wk m σ { σ with heap:=(σ.heap.set q .dead).set i (.jag k (A.lset l (A.nat z) (.list k y)) none) }:=by
 have h1:=b5X hA h0;subst hA
 exact Wk.shutG i hi hq (by have:z<(l.length:Int):=by simpa [Ar.std] using hz
                            omega)
theorem Wk.openGA {A:Ar} (hA:A=Ar.std) {m:Nat} {σ:St} (i:Nat) (z:Int) {k:Nat} {l y:List D} (hi:σ.heap[i]?=some (.jag k l none)) (h0:A.zle 0 z=true) (hy:A.lget l (A.nat z)=some ((cL k).en y)) :
  Wk m σ { σ with heap:=σ.heap.set i (.jag k l (some (z,.gref σ.heap.length k)))++[.gro k y,.dead,.dead] } :=
 Wk.openG i z hi (b5X hA h0) (b7Q hA hy)
end Go.Am
