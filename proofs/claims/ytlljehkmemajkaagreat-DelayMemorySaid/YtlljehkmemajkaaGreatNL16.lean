import Derived.Test.YtlljehkmemajkaaGreatNL13
set_option maxRecDepth 100000
set_option maxHeartbeats 2000000
set_option linter.unusedVariables false
set_option linter.unusedSimpArgs false
set_option linter.unusedSectionVars false
namespace Go.Am
open Go
abbrev Pt:=Nat×Nat
def acA (P:Pg) (x:Pt):Ac:=aAt (thr P x.1) x.2
def a1w (a b:Ac):Prop:=a.1=3\/b.1=3\/a.2.1≠b.2.1\/(a.1≠2/\b.1≠2)
theorem a1w.symm {a b:Ac} (h:a1w a b):a1w b a:=by
 rcases h with h | h | h | h
 ·exact .inr (.inl h)
 ·exact .inl h
 ·exact .inr (.inr (.inl fun e=>h e.symm))
 exact .inr (.inr (.inr ⟨h.2,h.1⟩))
theorem a5G {a b:Ac} (h : ¬ a1w a b):a.1≠3/\b.1≠3/\a.2.1=b.2.1/\(a.1=2\/b.1=2):=by
 unfold a1w at h;refine ⟨fun e=>h (.inl e),fun e=>h (.inr (.inl e)),?_,?_⟩
 ·exact Classical.byContradiction fun e=>h (.inr (.inr (.inl e)))
 exact Classical.byContradiction fun e=>h (.inr (.inr (.inr ⟨fun g=>e (.inl g),fun g=>e (.inr g)⟩)))
def ex (P:Pg) (s:AS) (L:List Pt):AS:=L.foldl (fun s x=>doA 3 P s x.1 x.2) s
theorem c1b {s u:AS} (h1:s.dn=u.dn) (h2:s.rd=u.rd) (h3:s.bf=u.bf) (h4:s.ce=u.ce):s=u:=by
 cases s;cases u;simp only at h1 h2 h3 h4;subst h1 h2 h3 h4
 rfl
section
variable {P:Pg} {s:AS}
theorem b8J {k:Nat} (hk:k≠2) (t i:Nat):doA k P s t i=doA 3 P s t i:=by simp [doA,hk]
theorem b5A (x:Pt) (y:Pt):(doA 3 P s x.1 x.2).dn y.1 y.2=if y=x then true else s.dn y.1 y.2:=by
 obtain ⟨t,i⟩:=x;obtain ⟨u,j⟩:=y;simp only [doA,fup,Prod.mk.injEq];by_cases h1:u=t
 ·subst h1;by_cases h2:j=i <;> simp [fup,h2]
 simp [fup,h1]
theorem a4b (x:Pt):(doA 3 P s x.1 x.2).bf=s.bf:=by simp [doA]
theorem a6x (x:Pt) (c:Int):(doA 3 P s x.1 x.2).ce c=if (acA P x).1=2/\c=(acA P x).2.1 then (acA P x).2.2 else s.ce c:=by
 simp only [doA,acA,fup];by_cases h:(aAt (thr P x.1) x.2).1=2
 ·simp [h,fup]
 simp [h]
theorem b0c (hb : ∀ t,s.bf t=[]) (x y:Pt):(doA 3 P s x.1 x.2).rd y.1 y.2=if (acA P x).1=1/\y=x then s.ce (acA P x).2.1 else s.rd y.1 y.2:=by
 obtain ⟨t,i⟩:=x;obtain ⟨u,j⟩:=y;simp only [doA,acA,fup,Prod.mk.injEq];by_cases h:(aAt (thr P t) i).1=1
 ·by_cases h1:u=t
  ·subst h1;by_cases h2:j=i <;> simp [fup,h,sn,hb,h2]
  simp [fup,h,h1]
 simp [h]
theorem b4u (hb : ∀ t,s.bf t=[]) {x y:Pt} (hxy:x≠y) (hi:a1w (acA P x) (acA P y)):doA 3 P (doA 3 P s x.1 x.2) y.1 y.2=doA 3 P (doA 3 P s y.1 y.2) x.1 x.2:=by
 have hbx : ∀ t,(doA 3 P s x.1 x.2).bf t=[]:=fun t=>by rw [a4b];exact hb t
 have hby : ∀ t,(doA 3 P s y.1 y.2).bf t=[]:=fun t=>by rw [a4b];exact hb t
 have ne1 : ¬ ((acA P y).1=1/\(acA P x).1=2/\(acA P y).2.1=(acA P x).2.1):=by
  rintro ⟨h1,h2,h3⟩;rcases hi with h | h | h | h
  ·omega
  ·omega
  ·exact h h3.symm
  exact h.1 h2
 have ne2 : ¬ ((acA P x).1=1/\(acA P y).1=2/\(acA P x).2.1=(acA P y).2.1):=by
  rintro ⟨h1,h2,h3⟩;rcases hi with h | h | h | h
  ·omega
  ·omega
  ·exact h h3
  exact h.2 h2
 have ne3 : ¬ ((acA P x).1=2/\(acA P y).1=2/\(acA P x).2.1=(acA P y).2.1):=by
  rintro ⟨h1,h2,h3⟩;rcases hi with h | h | h | h
  ·omega
  ·omega
  ·exact h h3
  exact h.2 h2
 refine c1b ?_ ?_ ?_ ?_
 ·funext t i;have:=fun (s:AS) (x:Pt)=>b5A (P:=P) (s:=s) x (t,i);simp only at this;rw [this,this,this,this];by_cases h1:(t,i)=x <;> by_cases h2:(t,i)=y <;> simp [h1,h2]
 ·funext t i;have e1:=b0c (P:=P) hbx y (t,i);have e2:=b0c (P:=P) hby x (t,i);have e3:=b0c (P:=P) hb x (t,i);have e4:=b0c (P:=P) hb y (t,i);simp only at e1 e2 e3 e4;rw [e1,e2,e3,e4,a6x,a6x];by_cases h1:(acA P y).1=1/\(t,i)=y
  ·have h2 : ¬ ((acA P x).1=1/\(t,i)=x):=fun h=>hxy (h.2.symm.trans h1.2);have h3 : ¬ ((acA P x).1=2/\(acA P y).2.1=(acA P x).2.1):=fun h=>ne1 ⟨h1.1,h⟩;rw [if_pos h1,if_neg h2,if_neg h3,if_pos h1]
  rw [if_neg h1,if_neg h1];by_cases h2:(acA P x).1=1/\(t,i)=x
  ·have h3 : ¬ ((acA P y).1=2/\(acA P x).2.1=(acA P y).2.1):=fun h=>ne2 ⟨h2.1,h⟩;rw [if_pos h2,if_pos h2,if_neg h3]
  rw [if_neg h2,if_neg h2]
 ·rw [a4b,a4b,a4b,a4b]
 funext c;rw [a6x,a6x,a6x,a6x];by_cases h1:(acA P y).1=2/\c=(acA P y).2.1
 ·have h2 : ¬ ((acA P x).1=2/\c=(acA P x).2.1):=fun h=>ne3 ⟨h.1,h1.1,h.2.symm.trans h1.2⟩;rw [if_pos h1,if_neg h2,if_pos h1]
 rw [if_neg h1,if_neg h1]
end
theorem b8K {P:Pg} : ∀ (L:List Pt) (s:AS),(ex P s L).bf=s.bf
 | [],_=>rfl
 | x::L,s=>(b8K L (doA 3 P s x.1 x.2)).trans (a4b x)
theorem b5B {P:Pg} (s:AS) (L M:List Pt):ex P s (L++M)=ex P (ex P s L) M:=by unfold ex;rw [List.foldl_append]
theorem b3b {P:Pg} {f:Pt} {l2:List Pt} : ∀ (l1:List Pt) (s:AS),(∀ t,s.bf t=[])->(∀ y∈l1,y≠f/\a1w (acA P y) (acA P f))->ex P s (l1++f::l2)=ex P s (f::(l1++l2))
 | [],_,_,_=>rfl
 | y::l1,s,hb,h=>by
   have hb' : ∀ t,(doA 3 P s y.1 y.2).bf t=[]:=fun t=>by rw [a4b];exact hb t
   have ih:=b3b (f:=f) (l2:=l2) l1 (doA 3 P s y.1 y.2) hb' fun z hz=>h z (List.mem_cons_of_mem _ hz);obtain ⟨h1,h2⟩:=h y (List.mem_cons_self ..);show ex P (doA 3 P s y.1 y.2) (l1++f::l2)=_;rw [ih];show ex P (doA 3 P (doA 3 P s y.1 y.2) f.1 f.2) (l1++l2)=ex P (doA 3 P (doA 3 P s f.1 f.2) y.1 y.2) (l1++l2);rw [b4u hb h1 h2]
theorem b6H {P:Pg} (pos:Pt->Nat) (before:Pt->Pt->Prop) (A:Pt->Prop)
  (H : ∀ L:List Pt,L≠[]->L.Pairwise (fun x y=>pos x<pos y)->(∀ y∈L,A y) -> ∃ f∈L,(∀ y∈L,y≠f->before f y) /\ ∀ y∈L,pos y<pos f->a1w (acA P y) (acA P f)) :
  ∀ (n:Nat) (L:List Pt),L.length=n->L.Pairwise (fun x y=>pos x<pos y)->(∀ y∈L,A y) -> ∀ s:AS,(∀ t,s.bf t=[]) -> ∃ L',L'.Perm L/\L'.Pairwise before/\ex P s L'=ex P s L:=by
 intro n
 induction n with
 | zero =>
   intro L hL _ _ s _;obtain rfl:=List.length_eq_zero_iff.1 hL;exact ⟨[],.refl _,.nil,rfl⟩
 | succ n ih =>
   intro L hL hs hA s hb;obtain ⟨f,hf,h1,h2⟩:=H L (by intro e;rw [e] at hL;cases hL) hs hA;obtain ⟨l1,l2,rfl⟩:=List.append_of_mem hf;have hs':=hs;rw [List.pairwise_append] at hs;obtain ⟨p1,p2,p3⟩:=hs;rw [List.pairwise_cons] at p2;have hlt : ∀ y∈l1,pos y<pos f:=fun y hy=>p3 y hy f (by simp);have hsub:(l1++l2).Sublist (l1++f::l2):=List.Sublist.append (List.Sublist.refl _) (List.sublist_cons_self ..);have hbf : ∀ t,(doA 3 P s f.1 f.2).bf t=[]:=fun t=>by rw [a4b];exact hb t
   obtain ⟨M,m1,m2,m3⟩:=ih (l1++l2) (by simp at hL ⊢;omega) (hs'.sublist hsub) (fun y hy=>hA y (hsub.subset hy)) _ hbf;refine ⟨f::M,(List.Perm.cons f m1).trans List.perm_middle.symm,List.pairwise_cons.2 ⟨fun y hy => ?_,m2⟩,?_⟩
   ·have hy:=m1.subset hy;refine h1 y (hsub.subset hy) fun e => ?_;subst e;rcases List.mem_append.1 hy with hy | hy
    ·exact Nat.lt_irrefl _ (hlt y hy)
    exact Nat.lt_irrefl _ (p2.1 y hy)
   rw [b3b l1 s hb fun y hy=>⟨fun e=>by subst e;exact Nat.lt_irrefl _ (hlt y hy),h2 y (List.mem_append_left _ hy) (hlt y hy)⟩];exact m3
inductive Trc (k:Nat) (P:Pg):List Pt->Prop
 | nil:Trc k P []
 | snoc {L:List Pt} {x:Pt} (h:Trc k P L) (h1:x.1<P.length) (h2:x.2<(thr P x.1).length) (h3:x∉L) (h4 : ∀ j,j<x.2->must k (acA P x) (acA P (x.1,j))->(x.1,j)∈L):Trc k P (L++[x])
theorem b8L {P:Pg} (y:Pt) : ∀ (L:List Pt) (s:AS),(ex P s L).dn y.1 y.2=true↔y∈L\/s.dn y.1 y.2=true
 | [],s=>by simp [ex]
 | x::L,s=>by
   have e:ex P s (x::L)=ex P (doA 3 P s x.1 x.2) L:=rfl;rw [e,b8L y L,b5A];by_cases h:y=x <;> simp [h]
theorem a6y {P:Pg} (y:Pt) (L:List Pt):(ex P AS.init L).dn y.1 y.2=true↔y∈L:=by
 rw [b8L];simp [AS.init]
theorem b0d {k:Nat} (hk:k≠2) {P:Pg} {u:AS}:Stps k P AS.init u ↔ ∃ L,Trc k P L/\u=ex P AS.init L:=by
 constructor
 ·intro h
  induction h with
  | refl=>exact ⟨[],.nil,rfl⟩
  | tail h h' ih =>
    obtain ⟨L,hL,rfl⟩:=ih;cases h' with
    | out t ht hk2=>exact absurd hk2 hk
    | act t i ht hi hm =>
      refine ⟨L++[(t,i)],.snoc hL ht hi ?_ fun j hj hmu => ?_,?_⟩
      ·intro hx;have:=(a6y (P:=P) (t,i) L).2 hx;have h1:(ex P AS.init L).dn t i=false:=hm.1;simp only at this;rw [h1] at this;cases this
      ·exact (a6y (P:=P) (t,j) L).1 (hm.2.1 j hj hmu)
      rw [b5B,b8J hk];rfl
 rintro ⟨L,hL,rfl⟩
 induction hL with
 | nil=>exact .refl _
 | @snoc L x hL h1 h2 h3 h4 ih =>
   refine .tail ih ?_;rw [b5B];have:ex P (ex P AS.init L) [x]=doA k P (ex P AS.init L) x.1 x.2:=by rw [b8J hk];rfl
   rw [this];refine .act _ _ h1 h2 ⟨?_,fun j hj hmu => ?_,fun hk2=>absurd hk2 hk⟩
   ·show (ex P AS.init L).dn x.1 x.2=false;rw [Bool.eq_false_iff];exact fun h=>h3 ((a6y x L).1 h)
   exact (a6y (P:=P) (x.1,j) L).2 (h4 j hj hmu)
theorem Trc.pos {k:Nat} {P:Pg} {L:List Pt} (h:Trc k P L) : ∃ pos:Pt->Nat,L.Pairwise (fun x y=>pos x<pos y)/\(∀ y∈L,pos y<L.length) /\
  ∀ x∈L,∀ j,j<x.2->must k (acA P x) (acA P (x.1,j))->(x.1,j)∈L/\pos (x.1,j)<pos x:=by
 induction h with
 | nil=>exact ⟨fun _=>0,.nil,fun y hy=>(by cases hy),fun y hy=>(by cases hy)⟩
 | @snoc L x hL h1 h2 h3 h4 ih =>
   obtain ⟨pos,p1,p2,p3⟩:=ih;have hne : ∀ y∈L,y≠x:=fun y hy e=>h3 (e▸hy);have e : ∀ y∈L,(if y=x then L.length else pos y)=pos y:=fun y hy=>if_neg (hne y hy)
   refine ⟨fun y=>if y=x then L.length else pos y,?_,?_,?_⟩
   ·rw [List.pairwise_append];refine ⟨?_,by simp,fun y hy z hz => ?_⟩
    ·refine (List.Pairwise.imp_of_mem ?_ p1);intro a b ha hb hab;show (if a=x then L.length else pos a)<(if b=x then L.length else pos b)
     rw [e a ha,e b hb];exact hab
    rw [List.mem_singleton] at hz;subst hz;show (if y=z then L.length else pos y)<(if z=z then L.length else pos z)
    rw [e y hy,if_pos rfl];exact p2 y hy
   ·intro y hy;rw [List.length_append,List.length_singleton];rcases List.mem_append.1 hy with hy | hy
    ·simp only [e y hy];have:=p2 y hy;omega
    rw [List.mem_singleton] at hy;subst hy;simp
   intro y hy j hj hmu;rcases List.mem_append.1 hy with hy | hy
   ·obtain ⟨q1,q2⟩:=p3 y hy j hj hmu;simp only [e y hy,e _ q1];exact ⟨List.mem_append_left _ q1,q2⟩
   rw [List.mem_singleton] at hy;subst hy;have q1:=h4 j hj hmu;simp only [e _ q1,if_true];exact ⟨List.mem_append_left _ q1,p2 _ q1⟩
theorem Trc.dom {k:Nat} {P:Pg} {L:List Pt} (h:Trc k P L) : ∀ x∈L,x.1<P.length/\x.2<(thr P x.1).length:=by
 induction h with
 | nil=>exact fun y hy=>(by cases hy)
 | snoc hL h1 h2 h3 h4 ih =>
   intro y hy;rcases List.mem_append.1 hy with hy | hy
   ·exact ih y hy
   rw [List.mem_singleton] at hy;subst hy;exact ⟨h1,h2⟩
def Whole (P:Pg) (L:List Pt):Prop := ∀ t i,t<P.length->i<(thr P t).length->(t,i)∈L
theorem a6z {P:Pg} {L:List Pt}:b6o P (ex P AS.init L)↔Whole P L:=by
 constructor
 ·intro h t i ht hi;exact (a6y (P:=P) (t,i) L).1 ((h t ht).1 i hi)
 intro h t ht;exact ⟨fun i hi=>(a6y (P:=P) (t,i) L).2 (h t i ht hi),by rw [b8K];rfl⟩
theorem b3c {k:Nat} (hk:k≠2) {P:Pg} {o:List Int}:Can k P o ↔ ∃ L,Trc k P L/\Whole P L/\b7m P (ex P AS.init L)=o:=by
 constructor
 ·rintro ⟨s,h1,h2,h3⟩;obtain ⟨L,hL,rfl⟩:=(b0d hk).1 h1;exact ⟨L,hL,a6z.1 h2,h3⟩
 rintro ⟨L,h1,h2,h3⟩;exact ⟨_,(b0d hk).2 ⟨L,h1,rfl⟩,a6z.2 h2,h3⟩
theorem b0W {P:Pg} {L:List Pt} (hw:Whole P L) (hd : ∀ x∈L,x.1<P.length/\x.2<(thr P x.1).length) (hp:L.Pairwise (fun x y=>x.1=y.1->x.2<y.2)):Trc 1 P L:=by
 have key : ∀ n,n<=L.length->Trc 1 P (L.take n):=by
  intro n
  induction n with
  | zero=>intro _;exact .nil
  | succ n ih =>
    intro hn;have hx:=zp6 (l:=L) (n:=n) (by omega);have hp':=List.pairwise_iff_getElem.1 hp;rw [List.take_succ_eq_append_getElem (by omega)];refine .snoc (ih (by omega)) (hd _ hx).1 (hd _ hx).2 ?_ fun j hj _ => ?_
    ·intro h;obtain ⟨m,hm,e⟩:=List.mem_iff_getElem.1 h;rw [List.getElem_take] at e;rw [List.length_take] at hm;have:=hp' m n (by omega) (by omega) (by omega) (by rw [e]);rw [e] at this;omega
    have hin:=hw L[n].1 j (hd _ hx).1 (Nat.lt_trans hj (hd _ hx).2);obtain ⟨m,hm,e⟩:=List.mem_iff_getElem.1 hin;rcases Nat.lt_trichotomy m n with g | g | g
    ·rw [<-e];exact List.mem_iff_getElem.2 ⟨m,by rw [List.length_take];omega,List.getElem_take⟩
    ·subst g;rw [e] at hj;simp at hj
    have:=hp' n m (by omega) (by omega) g (by rw [e]);rw [e] at this;simp at this;omega
 have:=key L.length (Nat.le_refl _)
 rwa [List.take_length] at this
theorem least {α:Type} (f:α->Nat) (p:α->Prop) (h : ∃ a,p a) : ∃ a,p a /\ ∀ b,p b->f a<=f b:=by
 have key : ∀ (n:Nat) (a:α),f a<n->p a -> ∃ a,p a /\ ∀ b,p b->f a<=f b:=by
  intro n
  induction n with
  | zero=>intro a h;omega
  | succ n ih =>
    intro a ha hp;by_cases hb : ∃ b,p b/\f b<f a
    ·obtain ⟨b,h1,h2⟩:=hb;exact ih b (by omega) h1
    exact ⟨a,hp,fun b hb'=>Nat.le_of_not_lt fun hlt=>hb ⟨b,hb',hlt⟩⟩
 obtain ⟨a,ha⟩:=h;exact key _ a (Nat.lt_succ_self _) ha
theorem b4v {P:Pg} {L:List Pt} {o:List Int} (hL:Trc 3 P L) (hw:Whole P L) (ho:b7m P (ex P AS.init L)=o) {L':List Pt} (hp:L'.Perm L) (hs:L'.Pairwise (fun x y=>x.1=y.1->x.2<y.2)) (he:ex P AS.init L'=ex P AS.init L):Can 1 P o :=
 (b3c (by decide)).2 ⟨L',b0W (fun t i ht hi=>hp.mem_iff.2 (hw t i ht hi)) (fun x hx=>hL.dom x (hp.mem_iff.1 hx)) hs,fun t i ht hi=>hp.mem_iff.2 (hw t i ht hi),by rw [he];exact ho⟩
def cfl (P:Pg) (x y:Pt):Prop:=x.1≠y.1 /\ ¬ a1w (acA P x) (acA P y)
def inP (P:Pg) (x:Pt):Prop:=x.1<P.length/\x.2<(thr P x.1).length
def stn (P:Pg) (t a b:Nat):Prop:=inP P (t,a)/\inP P (t,b)/\(acA P (t,a)).1≠3/\(acA P (t,b)).1≠3/\(a=b\/(a<b/\(acA P (t,a)).2.1≠(acA P (t,b)).2.1))
def a8v (P:Pg) (t a b:Nat):Prop := ∃ c,a<c/\c<b/\(acA P (t,c)).1=3
structure NC (P:Pg):Prop where
 n2 : ∀ t a b u c d,stn P t a b->stn P u c d->cfl P (t,b) (u,c)->cfl P (u,d) (t,a)->(a<b->a8v P t a b)/\(c<d->a8v P u c d)
 n3 : ∀ t a b u c d v e f,t≠v->stn P t a b->stn P u c d->stn P v e f->cfl P (t,b) (u,c)->cfl P (u,d) (v,e)->cfl P (v,f) (t,a)->(a<b->a8v P t a b)/\(c<d->a8v P u c d)/\(e<f->a8v P v e f)
theorem b8M {P:Pg} (h3:P.length<=3) (hN:NC P) {o:List Int} (h:Can 3 P o):Can 1 P o:=by
 obtain ⟨L0,hL,hw,ho⟩:=(b3c (by decide)).1 h;obtain ⟨pos,p1,_,p3⟩:=hL.pos;have hdom:=hL.dom;have lo : ∀ t i j,(t,i)∈L0->j<i->must 3 (acA P (t,i)) (acA P (t,j))->pos (t,j)<pos (t,i):=fun t i j hi hj hm=>(p3 (t,i) hi j hj hm).2
 suffices H : ∀ L:List Pt,L≠[]->L.Pairwise (fun x y=>pos x<pos y)->(∀ y∈L,y∈L0) -> ∃ f∈L,(∀ y∈L,y≠f->f.1=y.1->f.2<y.2) /\ ∀ y∈L,pos y<pos f->a1w (acA P y) (acA P f) by
  obtain ⟨L',q1,q2,q3⟩:=b6H (P:=P) pos (fun x y=>x.1=y.1->x.2<y.2) (fun x=>x∈L0) H L0.length L0 rfl p1 (fun y hy=>hy) AS.init (fun _=>rfl);exact b4v hL hw ho q1 q2 q3
 intro L hne hsort hsub;refine Classical.byContradiction fun hno => ?_

 have blocked : ∀ t,(∃ i,(t,i)∈L) -> ∃ f u g,(t,f)∈L/\(∀ j,(t,j)∈L->f<=j)/\(u,g)∈L/\pos (u,g)<pos (t,f) /\ ¬ a1w (acA P (u,g)) (acA P (t,f))/\u≠t /\ ∀ y∈L,pos y<pos (t,f) -> ¬ a1w (acA P y) (acA P (t,f))->pos (u,g)<=pos y:=by
  intro t ht;obtain ⟨f,hf,hmin⟩:=least (fun i=>i) (fun i=>(t,i)∈L) ht;have hb : ∃ y,y∈L/\pos y<pos (t,f) /\ ¬ a1w (acA P y) (acA P (t,f)):=by
   refine Classical.byContradiction fun hn=>hno ⟨(t,f),hf,fun y hy hyf he => ?_,fun y hy hlt => ?_⟩
   ·obtain ⟨u,j⟩:=y;simp only at he;subst he;have:=hmin j hy;rcases Nat.lt_or_eq_of_le this with g | g
    ·exact g
    subst g;exact absurd rfl hyf
   exact Classical.byContradiction fun hi=>hn ⟨y,hy,hlt,hi⟩
  obtain ⟨⟨u,g⟩,⟨h1,h2,h3⟩,h4⟩:=least pos (fun y=>y∈L/\pos y<pos (t,f) /\ ¬ a1w (acA P y) (acA P (t,f))) hb;refine ⟨f,u,g,hf,hmin,h1,h2,h3,fun e => ?_,fun y hy g1 g2=>h4 y ⟨hy,g1,g2⟩⟩;subst e;have hle:=hmin g h1;have hlt:f<g:=by
   rcases Nat.lt_or_eq_of_le hle with q | q
   ·exact q
   subst q;omega
  obtain ⟨n1,n2,n3,_⟩:=a5G h3;have:=lo u g f (hsub _ h1) hlt (.inr (.inr (.inr n3)));omega

 have station : ∀ t f u g,(t,f)∈L->(u,g)∈L->pos (u,g)<pos (t,f) -> ¬ a1w (acA P (u,g)) (acA P (t,f))->(∀ y∈L,pos y<pos (t,f) -> ¬ a1w (acA P y) (acA P (t,f))->pos (u,g)<=pos y) ->
   ∀ f' u' g',(u,f')∈L->(∀ j,(u,j)∈L->f'<=j)->(u',g')∈L->pos (u',g')<pos (u,f') -> ¬ a1w (acA P (u',g')) (acA P (u,f'))->stn P u f' g:=by
  intro t f u g h1 h2 h3 h4 h5 f' u' g' k1 k2 k3 k4 k5;obtain ⟨n1,n2,n3,n4⟩:=a5G h4;obtain ⟨m1,m2,m3,m4⟩:=a5G k5;refine ⟨hdom _ (hsub _ k1),hdom _ (hsub _ h2),m2,n1,?_⟩;rcases Nat.lt_or_eq_of_le (k2 g h2) with q | q
  ·refine .inr ⟨q,fun e => ?_⟩;have l1:=lo u g f' (hsub _ h2) q (.inr (.inr (.inr e.symm)));by_cases hi:a1w (acA P (u,f')) (acA P (t,f))
   ·have ns:(acA P (u,f')).1≠2/\(acA P (t,f)).1≠2:=by
     rcases hi with hi | hi | hi | hi
     ·exact absurd hi m2
     ·exact absurd hi n2
     ·exact absurd (e.trans n3) hi
     exact hi
    have gs:(acA P (u',g')).1=2:=m4.resolve_right ns.1;have hni : ¬ a1w (acA P (u',g')) (acA P (t,f)):=by
     rintro (hi | hi | hi | hi)
     ·omega
     ·exact n2 hi
     ·exact hi (m3.trans (e.trans n3))
     exact hi.1 gs
    have:=h5 _ k3 (by omega) hni;omega
   have:=h5 _ k1 (by omega) hi;omega
  exact .inl q
 have held : ∀ u a b,(u,a)∈L->(u,b)∈L->stn P u a b->(a<b->a8v P u a b)->pos (u,a)<=pos (u,b):=by
  intro u a b ha hb hs hh;rcases hs.2.2.2.2 with q | ⟨q,_⟩
  ·subst q;exact Nat.le_refl _
  obtain ⟨c,c1,c2,c3⟩:=hh q;have hin:(u,c)∈L0:=hw u c hs.1.1 (Nat.lt_trans c2 hs.2.1.2);have l1:=lo u c a hin c1 (.inr (.inl c3));have l2:=lo u b c (hsub _ hb) c2 (.inr (.inr (.inl c3)));omega

 have two : ∀ t f u g f' g',(t,f)∈L->(∀ j,(t,j)∈L->f<=j)->(u,g)∈L->pos (u,g)<pos (t,f) -> ¬ a1w (acA P (u,g)) (acA P (t,f))->u≠t->(∀ y∈L,pos y<pos (t,f) -> ¬ a1w (acA P y) (acA P (t,f))->pos (u,g)<=pos y) ->
   (u,f')∈L->(∀ j,(u,j)∈L->f'<=j)->(t,g')∈L->pos (t,g')<pos (u,f') -> ¬ a1w (acA P (t,g')) (acA P (u,f'))->(∀ y∈L,pos y<pos (u,f') -> ¬ a1w (acA P y) (acA P (u,f'))->pos (t,g')<=pos y)->False:=by
  intro t f u g f' g' a1 a2 a3 a4 a5 a6 a7 b1 b2 b3 b4 b5 b7;have s1:=station t f u g a1 a3 a4 a5 a7 f' t g' b1 b2 b3 b4 b5;have s2:=station u f' t g' b1 b3 b4 b5 b7 f u g a1 a2 a3 a4 a5;obtain ⟨e1,e2⟩:=hN.n2 u f' g t f g' s1 s2 ⟨a6,a5⟩ ⟨fun e=>a6 e.symm,b5⟩;have:=held u f' g b1 a3 s1 e1;have:=held t f g' a1 b3 s2 e2;omega
 have three : ∀ t f u g f' v g' f'' g'',(t,f)∈L->(∀ j,(t,j)∈L->f<=j)->(u,g)∈L->pos (u,g)<pos (t,f) -> ¬ a1w (acA P (u,g)) (acA P (t,f))->u≠t->(∀ y∈L,pos y<pos (t,f) -> ¬ a1w (acA P y) (acA P (t,f))->pos (u,g)<=pos y) ->
   (u,f')∈L->(∀ j,(u,j)∈L->f'<=j)->(v,g')∈L->pos (v,g')<pos (u,f') -> ¬ a1w (acA P (v,g')) (acA P (u,f'))->v≠u->(∀ y∈L,pos y<pos (u,f') -> ¬ a1w (acA P y) (acA P (u,f'))->pos (v,g')<=pos y) ->
   (v,f'')∈L->(∀ j,(v,j)∈L->f''<=j)->(t,g'')∈L->pos (t,g'')<pos (v,f'') -> ¬ a1w (acA P (t,g'')) (acA P (v,f''))->t≠v->(∀ y∈L,pos y<pos (v,f'') -> ¬ a1w (acA P y) (acA P (v,f''))->pos (t,g'')<=pos y)->False:=by
  intro t f u g f' v g' f'' g'' a1 a2 a3 a4 a5 a6 a7 b1 b2 b3 b4 b5 b6 b7 c1 c2 c3 c4 c5 c6 c7;have s1:=station t f u g a1 a3 a4 a5 a7 f' v g' b1 b2 b3 b4 b5;have s2:=station u f' v g' b1 b3 b4 b5 b7 f'' t g'' c1 c2 c3 c4 c5;have s3:=station v f'' t g'' c1 c3 c4 c5 c7 f u g a1 a2 a3 a4 a5;obtain ⟨e1,e2,e3⟩:=hN.n3 u f' g t f g'' v f'' g' (fun e=>b6 e.symm) s1 s3 s2 ⟨a6,a5⟩ ⟨c6,c5⟩ ⟨b6,b5⟩;have:=held u f' g b1 a3 s1 e1;have:=held t f g'' a1 c3 s3 e2;have:=held v f'' g' c1 b3 s2 e3;omega
 obtain ⟨⟨t,i⟩,hx⟩:=List.exists_mem_of_ne_nil L hne;obtain ⟨f,u,g,a1,a2,a3,a4,a5,a6,a7⟩:=blocked t ⟨i,hx⟩;obtain ⟨f',v,g',b1,b2,b3,b4,b5,b6,b7⟩:=blocked u ⟨g,a3⟩;by_cases hvt:v=t
 ·subst hvt;exact two v f u g f' g' a1 a2 a3 a4 a5 a6 a7 b1 b2 b3 b4 b5 b7
 obtain ⟨f'',w,g'',c1,c2,c3,c4,c5,c6,c7⟩:=blocked v ⟨g',b3⟩;have lt:t<P.length:=(hdom _ (hsub _ a1)).1;have lu:u<P.length:=(hdom _ (hsub _ b1)).1;have lv:v<P.length:=(hdom _ (hsub _ c1)).1;have lw:w<P.length:=(hdom _ (hsub _ c3)).1;rcases (show w=t\/w=u by omega) with hwt | hwu
 ·subst hwt;exact three w f u g f' v g' f'' g'' a1 a2 a3 a4 a5 a6 a7 b1 b2 b3 b4 b5 b6 b7 c1 c2 c3 c4 c5 (fun e=>c6 e) c7
 subst hwu;exact two w f' v g' f'' g'' b1 b2 b3 b4 b5 b6 b7 c1 c2 c3 c4 c5 c7
def fenced (P:Pg):Prop := ∀ t i,i+1<(thr P t).length->(acA P (t,i)).1=3\/(acA P (t,i+1)).1=3
theorem live {k:Nat} (hK:Kind k) {P:Pg} (hv:VP P) : ∀ (n:Nat) (s:Sta),mu P s<n->Reach (scs k P) s0 s -> ∃ u,Reach (scs k P) s0 u/\b6o P (vw P u):=by
 intro n
 induction n with
 | zero=>intro _ h;omega
 | succ n ih =>
   intro s hn hs;have hk:=(a1t hK hv hs).1;by_cases h : ∃ u,a8I k P s u
   ·obtain ⟨u,hu⟩:=h;exact ih u (by have:=a8I.mu hK hv hk hu;omega) (.step hs ((a3f hK hv hk).2 hu))
   have hno : ∀ a,¬ Stp k P (vw P s) a:=fun a ha=>by
    obtain ⟨u,hu,_⟩:=a9V hK hv hk ha;exact h ⟨u,hu⟩
   refine ⟨s,hs,a8n (k:=k) (fun t i ht hi hm=>hno _ (.act t i ht hi hm)) fun t ht => ?_⟩;by_cases h2:k=2
   ·cases hb:(vw P s).bf t with
    | nil=>rfl
    | cons e r=>exact absurd (Stp.out t ht h2 (by rw [hb];simp)) (hno _)
   rw [b0T hv hk ht];exact (a4s hv hk ht).2 (hk.nb h2 t (lt3 hv ht))
theorem b4w {k:Nat} (hK:Kind k) {P:Pg} (hv:VP P) : ∃ o,Can k P o:=by
 obtain ⟨u,h1,h2⟩:=live hK hv _ s0 (Nat.lt_succ_self _) .init;exact ⟨_,_,(a1t hK hv h1).2,h2,rfl⟩
theorem IsO.ne {k:Nat} (hK:Kind k) {P:Pg} (hv:VP P) {O:List (List Int)} (h:IsO k P O):O≠[]:=by
 obtain ⟨o,ho⟩:=b4w hK hv;intro e;have:=(h.mem o).2 ho;rw [e] at this;cases this
structure Inv0 (s:AS):Prop where
 b : ∀ t,s.bf t=[]
 a0:s.dn 0 0=true->s.ce 0=1
 a1:s.dn 1 0=true->s.ce 1=1
 c0:s.dn 0 1=true->s.dn 0 0=true
 c1:s.dn 1 1=true->s.dn 1 0=true
 r:s.dn 0 1=true->s.dn 1 1=true->s.rd 0 1=1\/s.rd 1 1=1
theorem SS.nodup {O:List (List Int)} (h:SS O):O.Nodup:=by
 unfold SS at h;exact h.imp fun {a b} hab e=>by subst e;exact a3g a hab
theorem b0X {O O':List (List Int)} (h:O.Nodup) (h':O'.Nodup) (hs : ∀ x∈O',x∈O):(a1X O' O).length+O'.length=O.length:=by
 have e:(O.filter fun x=>decide (x∈O')).length=O'.length:=by
  apply Nat.le_antisymm
  ·exact a3X (h.filter _) fun a ha=>by
    have:=(List.mem_filter.1 ha).2;simpa using this
  exact a3X h' fun a ha=>List.mem_filter.2 ⟨hs a ha,by simpa using ha⟩
 have e2 : ∀ (l:List (List Int)),(a1X O' l).length+(l.filter fun x=>decide (x∈O')).length=l.length:=by
  intro l;unfold a1X
  induction l with
  | nil=>rfl
  | cons x l ih =>
    rw [List.filter_cons,List.filter_cons];cases decide (x∈O') <;> simp <;> omega
 have:=e2 O;omega
structure SP (P:Pg) (s:Sta) (n:Nat->Nat):Prop where
 k:WfK 1 P s
 b : ∀ t,t<3 -> ∀ j,btI (s t) j=decide (j<n t)
 l : ∀ t,n t<=(thr P t).length
theorem SP.init (P:Pg):SP P s0 (fun _=>0):=⟨WfK.init 1 P,fun t ht j=>by unfold btI s0;simp,fun t=>Nat.zero_le _⟩
theorem b6I (P:Pg) (s:Sta) (t i:Nat) {u:Nat} (hu:u<3):doS P s t i u=dS s t i u:=by
 unfold doS;split
 ·rw [a0c _ _ _ (by omega)]
 split
 ·rw [a0c _ _ _ (by omega)]
 rfl
section
variable {P:Pg} (hv:VP P) {s:Sta} {n:Nat->Nat} (h:SP P s n)
include hv h
theorem SP.step {t:Nat} (ht:t<P.length) (hi:n t<(thr P t).length):SP P (doS P s t (n t)) (fup n t (n t+1)):=by
 have ht3:=lt3 hv ht;have hb:btI (s t) (n t)=false:=by rw [h.b t ht3];simp
 have hw:=b5r hv h.k ht hi hb;have e:a4t 1 P s t (n t)=doS P s t (n t):=by unfold a4t;simp
 rw [e] at hw;refine ⟨hw,fun u hu j => ?_,fun u => ?_⟩
 ·rw [b6I P s t _ hu];unfold dS;by_cases hut:u=t
  ·subst hut;rw [a0h,a0h,a5y,h.b u hu];rw [Bool.eq_iff_iff];simp;omega
  rw [a0c _ _ _ hut,a0c _ _ _ hut];exact h.b u hu j
 by_cases hut:u=t
 ·subst hut;rw [a0h];omega
 rw [a0c _ _ _ hut];exact h.l u
theorem SP.over:a3Y P s=true ↔ ∀ t,t<P.length->n t=(thr P t).length:=by
 unfold a3Y;rw [List.all_eq_true];constructor
 ·intro hh t ht;have:=hh t (List.mem_range.2 ht);rw [zp4,decide_eq_true_eq] at this;obtain ⟨d0,d1⟩:=h.k.wf.d t (lt3 hv ht);have hl:=h.l t;rcases Nat.lt_or_eq_of_le hl with g | g
  ·have:=(a7d d0 d1).1 this.1 _ g;rw [h.b t (lt3 hv ht)] at this;simp at this
  exact g
 intro hh t ht;have ht:=List.mem_range.1 ht;obtain ⟨d0,d1⟩:=h.k.wf.d t (lt3 hv ht);rw [zp4,decide_eq_true_eq];refine ⟨(a7d d0 d1).2 fun i hi => ?_,?_⟩
 ·rw [h.b t (lt3 hv ht),hh t ht];simpa using hi
 rw [h.k.nb (by decide) t (lt3 hv ht)];rfl
end
def run (P:Pg):Sta->List Nat->Option Sta
 | s,[]=>some s
 | s,t::w=>if t<P.length/\nx s t<(thr P t).length then run P (doS P s t (nx s t)) w else none
end Go.Am
