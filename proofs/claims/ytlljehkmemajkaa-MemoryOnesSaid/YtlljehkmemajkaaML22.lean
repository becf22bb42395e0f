/- Own text: ML22. -/
import Derived.Test.YtlljehkmemajkaaML15
import Derived.Test.YtlljehkmemajkaaGenp0
set_option maxRecDepth 100000
set_option maxHeartbeats 1000000
set_option linter.unusedVariables false
set_option linter.unusedSimpArgs false
set_option linter.unusedSectionVars false
namespace Go.Am
open Go
abbrev Pt:=Nat×Nat
def acA (P:Pg) (x:Pt):Ac:=aAt (thr P x.1) x.2
def indep (a b:Ac):Prop:=a.1=3\/b.1=3\/a.2.1≠b.2.1\/(a.1≠2/\b.1≠2)
theorem indep.symm {a b:Ac} (h:indep a b):indep b a:=by
 rcases h with h | h | h | h
 ·exact .inr (.inl h)
 ·exact .inl h
 ·exact .inr (.inr (.inl fun e=>h e.symm))
 ·exact .inr (.inr (.inr ⟨h.2,h.1⟩))
theorem not_indep {a b:Ac} (h : ¬ indep a b):a.1≠3/\b.1≠3/\a.2.1=b.2.1/\(a.1=2\/b.1=2):=by
 unfold indep at h
 refine ⟨fun e=>h (.inl e),fun e=>h (.inr (.inl e)),?_,?_⟩
 ·exact Classical.byContradiction fun e=>h (.inr (.inr (.inl e)))
 ·exact Classical.byContradiction fun e=>h (.inr (.inr (.inr ⟨fun g=>e (.inl g),fun g=>e (.inr g)⟩)))
def ex (P:Pg) (s:AS) (L:List Pt):AS:=L.foldl (fun s x=>doA 3 P s x.1 x.2) s
theorem as_eq {s u:AS} (h1:s.dn=u.dn) (h2:s.rd=u.rd) (h3:s.bf=u.bf) (h4:s.ce=u.ce):s=u:=by
 cases s;cases u
 simp only at h1 h2 h3 h4
 subst h1 h2 h3 h4
 rfl
section
variable {P:Pg} {s:AS}
theorem doA_k {k:Nat} (hk:k≠2) (t i:Nat):doA k P s t i=doA 3 P s t i:=by simp [doA,hk]
theorem doA_dn (x:Pt) (y:Pt):(doA 3 P s x.1 x.2).dn y.1 y.2=if y=x then true else s.dn y.1 y.2:=by
 obtain ⟨t,i⟩:=x
 obtain ⟨u,j⟩:=y
 simp only [doA,fup,Prod.mk.injEq]
 by_cases h1:u=t
 ·subst h1
  by_cases h2:j=i <;> simp [fup,h2]
 ·simp [fup,h1]
theorem doA_bf (x:Pt):(doA 3 P s x.1 x.2).bf=s.bf:=by simp [doA]
theorem doA_ce (x:Pt) (c:Int):(doA 3 P s x.1 x.2).ce c=if (acA P x).1=2/\c=(acA P x).2.1 then (acA P x).2.2 else s.ce c:=by
 simp only [doA,acA,fup]
 by_cases h:(aAt (thr P x.1) x.2).1=2
 ·simp [h,fup]
 ·simp [h]
theorem doA_rd (hb : ∀ t,s.bf t=[]) (x y:Pt):(doA 3 P s x.1 x.2).rd y.1 y.2=if (acA P x).1=1/\y=x then s.ce (acA P x).2.1 else s.rd y.1 y.2:=by
 obtain ⟨t,i⟩:=x
 obtain ⟨u,j⟩:=y
 simp only [doA,acA,fup,Prod.mk.injEq]
 by_cases h:(aAt (thr P t) i).1=1
 ·by_cases h1:u=t
  ·subst h1
   by_cases h2:j=i <;> simp [fup,h,sn,hb,h2]
  ·simp [fup,h,h1]
 ·simp [h]
theorem doA_comm (hb : ∀ t,s.bf t=[]) {x y:Pt} (hxy:x≠y) (hi:indep (acA P x) (acA P y)):doA 3 P (doA 3 P s x.1 x.2) y.1 y.2=doA 3 P (doA 3 P s y.1 y.2) x.1 x.2:=by
 have hbx : ∀ t,(doA 3 P s x.1 x.2).bf t=[]:=fun t=>by rw [doA_bf];exact hb t
 have hby : ∀ t,(doA 3 P s y.1 y.2).bf t=[]:=fun t=>by rw [doA_bf];exact hb t
 have ne1 : ¬ ((acA P y).1=1/\(acA P x).1=2/\(acA P y).2.1=(acA P x).2.1):=by
  rintro ⟨h1,h2,h3⟩
  rcases hi with h | h | h | h
  ·omega
  ·omega
  ·exact h h3.symm
  ·exact h.1 h2
 have ne2 : ¬ ((acA P x).1=1/\(acA P y).1=2/\(acA P x).2.1=(acA P y).2.1):=by
  rintro ⟨h1,h2,h3⟩
  rcases hi with h | h | h | h
  ·omega
  ·omega
  ·exact h h3
  ·exact h.2 h2
 have ne3 : ¬ ((acA P x).1=2/\(acA P y).1=2/\(acA P x).2.1=(acA P y).2.1):=by
  rintro ⟨h1,h2,h3⟩
  rcases hi with h | h | h | h
  ·omega
  ·omega
  ·exact h h3
  ·exact h.2 h2
 refine as_eq ?_ ?_ ?_ ?_
 ·funext t i
  have:=fun (s:AS) (x:Pt)=>doA_dn (P:=P) (s:=s) x (t,i)
  simp only at this
  rw [this,this,this,this]
  by_cases h1:(t,i)=x <;> by_cases h2:(t,i)=y <;> simp [h1,h2]
 ·funext t i
  have e1:=doA_rd (P:=P) hbx y (t,i)
  have e2:=doA_rd (P:=P) hby x (t,i)
  have e3:=doA_rd (P:=P) hb x (t,i)
  have e4:=doA_rd (P:=P) hb y (t,i)
  simp only at e1 e2 e3 e4
  rw [e1,e2,e3,e4,doA_ce,doA_ce]
  by_cases h1:(acA P y).1=1/\(t,i)=y
  ·have h2 : ¬ ((acA P x).1=1/\(t,i)=x):=fun h=>hxy (h.2.symm.trans h1.2)
   have h3 : ¬ ((acA P x).1=2/\(acA P y).2.1=(acA P x).2.1):=fun h=>ne1 ⟨h1.1,h⟩
   rw [if_pos h1,if_neg h2,if_neg h3,if_pos h1]
  ·rw [if_neg h1,if_neg h1]
   by_cases h2:(acA P x).1=1/\(t,i)=x
   ·have h3 : ¬ ((acA P y).1=2/\(acA P x).2.1=(acA P y).2.1):=fun h=>ne2 ⟨h2.1,h⟩
    rw [if_pos h2,if_pos h2,if_neg h3]
   ·rw [if_neg h2,if_neg h2]
 ·rw [doA_bf,doA_bf,doA_bf,doA_bf]
 ·funext c
  rw [doA_ce,doA_ce,doA_ce,doA_ce]
  by_cases h1:(acA P y).1=2/\c=(acA P y).2.1
  ·have h2 : ¬ ((acA P x).1=2/\c=(acA P x).2.1):=fun h=>ne3 ⟨h.1,h1.1,h.2.symm.trans h1.2⟩
   rw [if_pos h1,if_neg h2,if_pos h1]
  ·rw [if_neg h1,if_neg h1]
end
theorem ex_bf {P:Pg} : ∀ (L:List Pt) (s:AS),(ex P s L).bf=s.bf
 | [],_=>rfl
 | x::L,s=>(ex_bf L (doA 3 P s x.1 x.2)).trans (doA_bf x)
theorem ex_app {P:Pg} (s:AS) (L M:List Pt):ex P s (L++M)=ex P (ex P s L) M:=by unfold ex;rw [List.foldl_append]
theorem ex_move {P:Pg} {f:Pt} {l2:List Pt} : ∀ (l1:List Pt) (s:AS),(∀ t,s.bf t=[])->(∀ y∈l1,y≠f/\indep (acA P y) (acA P f))->ex P s (l1++f::l2)=ex P s (f::(l1++l2))
 | [],_,_,_=>rfl
 | y::l1,s,hb,h=>by
   have hb' : ∀ t,(doA 3 P s y.1 y.2).bf t=[]:=fun t=>by rw [doA_bf];exact hb t
   have ih:=ex_move (f:=f) (l2:=l2) l1 (doA 3 P s y.1 y.2) hb' fun z hz=>h z (List.mem_cons_of_mem _ hz)
   obtain ⟨h1,h2⟩:=h y (List.mem_cons_self ..)
   show ex P (doA 3 P s y.1 y.2) (l1++f::l2)=_
   rw [ih]
   show ex P (doA 3 P (doA 3 P s y.1 y.2) f.1 f.2) (l1++l2)=ex P (doA 3 P (doA 3 P s f.1 f.2) y.1 y.2) (l1++l2)
   rw [doA_comm hb h1 h2]
theorem ex_sort {P:Pg} (pos:Pt->Nat) (before:Pt->Pt->Prop) (A:Pt->Prop)
  (H : ∀ L:List Pt,L≠[]->L.Pairwise (fun x y=>pos x<pos y)->(∀ y∈L,A y) -> ∃ f∈L,(∀ y∈L,y≠f->before f y) /\ ∀ y∈L,pos y<pos f->indep (acA P y) (acA P f)) :
  ∀ (n:Nat) (L:List Pt),L.length=n->L.Pairwise (fun x y=>pos x<pos y)->(∀ y∈L,A y) -> ∀ s:AS,(∀ t,s.bf t=[]) -> ∃ L',L'.Perm L/\L'.Pairwise before/\ex P s L'=ex P s L:=by
 intro n
 induction n with
 | zero =>
   intro L hL _ _ s _
   obtain rfl:=List.length_eq_zero_iff.1 hL
   exact ⟨[],.refl _,.nil,rfl⟩
 | succ n ih =>
   intro L hL hs hA s hb
   obtain ⟨f,hf,h1,h2⟩:=H L (by intro e;rw [e] at hL;cases hL) hs hA
   obtain ⟨l1,l2,rfl⟩:=List.append_of_mem hf
   have hs':=hs
   rw [List.pairwise_append] at hs
   obtain ⟨p1,p2,p3⟩:=hs
   rw [List.pairwise_cons] at p2
   have hlt : ∀ y∈l1,pos y<pos f:=fun y hy=>p3 y hy f (by simp)
   have hsub:(l1++l2).Sublist (l1++f::l2):=List.Sublist.append (List.Sublist.refl _) (List.sublist_cons_self ..)
   have hbf : ∀ t,(doA 3 P s f.1 f.2).bf t=[]:=fun t=>by rw [doA_bf];exact hb t
   obtain ⟨M,m1,m2,m3⟩:=ih (l1++l2) (by simp at hL ⊢;omega) (hs'.sublist hsub) (fun y hy=>hA y (hsub.subset hy)) _ hbf
   refine ⟨f::M,(List.Perm.cons f m1).trans List.perm_middle.symm,List.pairwise_cons.2 ⟨fun y hy => ?_,m2⟩,?_⟩
   ·have hy:=m1.subset hy
    refine h1 y (hsub.subset hy) fun e => ?_
    subst e
    rcases List.mem_append.1 hy with hy | hy
    ·exact Nat.lt_irrefl _ (hlt y hy)
    ·exact Nat.lt_irrefl _ (p2.1 y hy)
   ·rw [ex_move l1 s hb fun y hy=>⟨fun e=>by subst e;exact Nat.lt_irrefl _ (hlt y hy),h2 y (List.mem_append_left _ hy) (hlt y hy)⟩]
    exact m3
inductive Trc (k:Nat) (P:Pg):List Pt->Prop
 | nil:Trc k P []
 | snoc {L:List Pt} {x:Pt} (h:Trc k P L) (h1:x.1<P.length) (h2:x.2<(thr P x.1).length) (h3:x∉L) (h4 : ∀ j,j<x.2->must k (acA P x) (acA P (x.1,j))->(x.1,j)∈L):Trc k P (L++[x])
theorem ex_dn {P:Pg} (y:Pt) : ∀ (L:List Pt) (s:AS),(ex P s L).dn y.1 y.2=true↔y∈L\/s.dn y.1 y.2=true
 | [],s=>by simp [ex]
 | x::L,s=>by
   have e:ex P s (x::L)=ex P (doA 3 P s x.1 x.2) L:=rfl
   rw [e,ex_dn y L,doA_dn]
   by_cases h:y=x <;> simp [h]
theorem ex_dn0 {P:Pg} (y:Pt) (L:List Pt):(ex P AS.init L).dn y.1 y.2=true↔y∈L:=by
 rw [ex_dn];simp [AS.init]
theorem stps_trc {k:Nat} (hk:k≠2) {P:Pg} {u:AS}:Stps k P AS.init u ↔ ∃ L,Trc k P L/\u=ex P AS.init L:=by
 constructor
 ·intro h
  induction h with
  | refl=>exact ⟨[],.nil,rfl⟩
  | tail h h' ih =>
    obtain ⟨L,hL,rfl⟩:=ih
    cases h' with
    | out t ht hk2=>exact absurd hk2 hk
    | act t i ht hi hm =>
      refine ⟨L++[(t,i)],.snoc hL ht hi ?_ fun j hj hmu => ?_,?_⟩
      ·intro hx
       have:=(ex_dn0 (P:=P) (t,i) L).2 hx
       have h1:(ex P AS.init L).dn t i=false:=hm.1
       simp only at this
       rw [h1] at this;cases this
      ·exact (ex_dn0 (P:=P) (t,j) L).1 (hm.2.1 j hj hmu)
      ·rw [ex_app,doA_k hk];rfl
 ·rintro ⟨L,hL,rfl⟩
  induction hL with
  | nil=>exact .refl _
  | @snoc L x hL h1 h2 h3 h4 ih =>
    refine .tail ih ?_
    rw [ex_app]
    have:ex P (ex P AS.init L) [x]=doA k P (ex P AS.init L) x.1 x.2:=by rw [doA_k hk];rfl
    rw [this]
    refine .act _ _ h1 h2 ⟨?_,fun j hj hmu => ?_,fun hk2=>absurd hk2 hk⟩
    ·show (ex P AS.init L).dn x.1 x.2=false
     rw [Bool.eq_false_iff]
     exact fun h=>h3 ((ex_dn0 x L).1 h)
    ·exact (ex_dn0 (P:=P) (x.1,j) L).2 (h4 j hj hmu)
theorem Trc.pos {k:Nat} {P:Pg} {L:List Pt} (h:Trc k P L) : ∃ pos:Pt->Nat,L.Pairwise (fun x y=>pos x<pos y)/\(∀ y∈L,pos y<L.length) /\
  ∀ x∈L,∀ j,j<x.2->must k (acA P x) (acA P (x.1,j))->(x.1,j)∈L/\pos (x.1,j)<pos x:=by
 induction h with
 | nil=>exact ⟨fun _=>0,.nil,fun y hy=>(by cases hy),fun y hy=>(by cases hy)⟩
 | @snoc L x hL h1 h2 h3 h4 ih =>
   obtain ⟨pos,p1,p2,p3⟩:=ih
   have hne : ∀ y∈L,y≠x:=fun y hy e=>h3 (e▸hy)
   have e : ∀ y∈L,(if y=x then L.length else pos y)=pos y:=fun y hy=>if_neg (hne y hy)
   refine ⟨fun y=>if y=x then L.length else pos y,?_,?_,?_⟩
   ·rw [List.pairwise_append]
    refine ⟨?_,by simp,fun y hy z hz => ?_⟩
    ·refine (List.Pairwise.imp_of_mem ?_ p1)
     intro a b ha hb hab
     show (if a=x then L.length else pos a)<(if b=x then L.length else pos b)
     rw [e a ha,e b hb];exact hab
    ·rw [List.mem_singleton] at hz
     subst hz
     show (if y=z then L.length else pos y)<(if z=z then L.length else pos z)
     rw [e y hy,if_pos rfl];exact p2 y hy
   ·intro y hy
    rw [List.length_append,List.length_singleton]
    rcases List.mem_append.1 hy with hy | hy
    ·simp only [e y hy];have:=p2 y hy;omega
    ·rw [List.mem_singleton] at hy;subst hy;simp
   ·intro y hy j hj hmu
    rcases List.mem_append.1 hy with hy | hy
    ·obtain ⟨q1,q2⟩:=p3 y hy j hj hmu
     simp only [e y hy,e _ q1]
     exact ⟨List.mem_append_left _ q1,q2⟩
    ·rw [List.mem_singleton] at hy
     subst hy
     have q1:=h4 j hj hmu
     simp only [e _ q1,if_true]
     exact ⟨List.mem_append_left _ q1,p2 _ q1⟩
theorem Trc.dom {k:Nat} {P:Pg} {L:List Pt} (h:Trc k P L) : ∀ x∈L,x.1<P.length/\x.2<(thr P x.1).length:=by
 induction h with
 | nil=>exact fun y hy=>(by cases hy)
 | snoc hL h1 h2 h3 h4 ih =>
   intro y hy
   rcases List.mem_append.1 hy with hy | hy
   ·exact ih y hy
   ·rw [List.mem_singleton] at hy;subst hy;exact ⟨h1,h2⟩
def Whole (P:Pg) (L:List Pt):Prop := ∀ t i,t<P.length->i<(thr P t).length->(t,i)∈L
theorem fini_whole {P:Pg} {L:List Pt}:Fini P (ex P AS.init L)↔Whole P L:=by
 constructor
 ·intro h t i ht hi
  exact (ex_dn0 (P:=P) (t,i) L).1 ((h t ht).1 i hi)
 ·intro h t ht
  exact ⟨fun i hi=>(ex_dn0 (P:=P) (t,i) L).2 (h t i ht hi),by rw [ex_bf];rfl⟩
theorem can_trc {k:Nat} (hk:k≠2) {P:Pg} {o:List Int}:Can k P o ↔ ∃ L,Trc k P L/\Whole P L/\outc P (ex P AS.init L)=o:=by
 constructor
 ·rintro ⟨s,h1,h2,h3⟩
  obtain ⟨L,hL,rfl⟩:=(stps_trc hk).1 h1
  exact ⟨L,hL,fini_whole.1 h2,h3⟩
 ·rintro ⟨L,h1,h2,h3⟩
  exact ⟨_,(stps_trc hk).2 ⟨L,h1,rfl⟩,fini_whole.2 h2,h3⟩
end Go.Am

namespace Go.Am
open Go
theorem least {α:Type} (f:α->Nat) (p:α->Prop) (h : ∃ a,p a) : ∃ a,p a /\ ∀ b,p b->f a<=f b:=by
 have key : ∀ (n:Nat) (a:α),f a<n->p a -> ∃ a,p a /\ ∀ b,p b->f a<=f b:=by
  intro n
  induction n with
  | zero=>intro a h;omega
  | succ n ih =>
    intro a ha hp
    by_cases hb : ∃ b,p b/\f b<f a
    ·obtain ⟨b,h1,h2⟩:=hb
     exact ih b (by omega) h1
    ·exact ⟨a,hp,fun b hb'=>Nat.le_of_not_lt fun hlt=>hb ⟨b,hb',hlt⟩⟩
 obtain ⟨a,ha⟩:=h
 exact key _ a (Nat.lt_succ_self _) ha
def cfl (P:Pg) (x y:Pt):Prop:=x.1≠y.1 /\ ¬ indep (acA P x) (acA P y)
def inP (P:Pg) (x:Pt):Prop:=x.1<P.length/\x.2<(thr P x.1).length
def stn (P:Pg) (t a b:Nat):Prop:=inP P (t,a)/\inP P (t,b)/\(acA P (t,a)).1≠3/\(acA P (t,b)).1≠3/\(a=b\/(a<b/\(acA P (t,a)).2.1≠(acA P (t,b)).2.1))
def heldP (P:Pg) (t a b:Nat):Prop := ∃ c,a<c/\c<b/\(acA P (t,c)).1=3
structure NC (P:Pg):Prop where
 n2 : ∀ t a b u c d,stn P t a b->stn P u c d->cfl P (t,b) (u,c)->cfl P (u,d) (t,a)->(a<b->heldP P t a b)/\(c<d->heldP P u c d)
 n3 : ∀ t a b u c d v e f,t≠v->stn P t a b->stn P u c d->stn P v e f->cfl P (t,b) (u,c)->cfl P (u,d) (v,e)->cfl P (v,f) (t,a)->(a<b->heldP P t a b)/\(c<d->heldP P u c d)/\(e<f->heldP P v e f)
def noRace (P:Pg):Prop := ∀ x y,inP P x->inP P y->x.1≠y.1->indep (acA P x) (acA P y)
def lexB (x y:Pt):Prop:=x.1<y.1\/(x.1=y.1/\x.2<y.2)
theorem lex_least {L:List Pt} (h:L≠[]) : ∃ f∈L,∀ y∈L,y≠f->lexB f y:=by
 obtain ⟨x,hx⟩:=List.exists_mem_of_ne_nil L h
 obtain ⟨t,⟨i,hi⟩,h2⟩:=least (fun t=>t) (fun t => ∃ i,(t,i)∈L) ⟨x.1,x.2,hx⟩
 obtain ⟨f,hf,h4⟩:=least (fun i=>i) (fun i=>(t,i)∈L) ⟨i,hi⟩
 refine ⟨(t,f),hf,fun y hy hne => ?_⟩
 obtain ⟨u,j⟩:=y
 have h5:t<=u:=h2 u ⟨j,hy⟩
 unfold lexB
 simp only
 rcases Nat.lt_or_eq_of_le h5 with g | g
 ·exact .inl g
 ·subst g
  have h6:f<=j:=h4 j hy
  rcases Nat.lt_or_eq_of_le h6 with g | g
  ·exact .inr ⟨rfl,g⟩
  ·subst g;exact absurd rfl hne
theorem race_sort {P:Pg} (hn:noRace P) {L:List Pt} (hL:Trc 3 P L) : ∃ L',L'.Perm L/\L'.Pairwise lexB/\ex P AS.init L'=ex P AS.init L:=by
 obtain ⟨pos,p1,_,p3⟩:=hL.pos
 have hdom:=hL.dom
 refine ex_sort (P:=P) pos lexB (fun x=>x∈L) ?_ L.length L rfl p1 (fun y hy=>hy) AS.init (fun _=>rfl)
 intro M hne hs hsub
 obtain ⟨f,hf,h1⟩:=lex_least hne
 refine ⟨f,hf,h1,fun y hy hlt => ?_⟩
 by_cases ht:y.1=f.1
 ·obtain ⟨u,j⟩:=y
  obtain ⟨t,i⟩:=f
  simp only at ht
  subst ht
  refine Classical.byContradiction fun hi => ?_
  obtain ⟨n1,n2,n3,_⟩:=not_indep hi
  have hne2:(u,j)≠(u,i):=fun e=>by rw [e] at hlt;omega
  have hj:i<j:=by
   rcases h1 _ hy hne2 with g | ⟨_,g⟩
   ·simp at g
   ·exact g
  have:pos (u,i)<pos (u,j):=(p3 (u,j) (hsub _ hy) i hj (.inr (.inr (.inr n3)))).2
  omega
 ·exact hn y f (hdom _ (hsub _ hy)) (hdom _ (hsub _ hf)) ht
theorem perm_lex : ∀ {L M:List Pt},L.Perm M->L.Pairwise lexB->M.Pairwise lexB->L=M:=by
 intro L M hp h1 h2
 refine hp.eq_of_pairwise (fun a b _ _ hab hba => ?_) h1 h2
 unfold lexB at hab hba
 omega
theorem race_one {P:Pg} (hn:noRace P) {o o':List Int} (h:Can 3 P o) (h':Can 3 P o'):o=o':=by
 obtain ⟨L,hL,hw,ho⟩:=(can_trc (by decide)).1 h
 obtain ⟨M,hM,hw',ho'⟩:=(can_trc (by decide)).1 h'
 obtain ⟨L1,a1,a2,a3⟩:=race_sort hn hL
 obtain ⟨M1,b1,b2,b3⟩:=race_sort hn hM
 have hnd : ∀ {K:List Pt},K.Pairwise lexB->K.Nodup:=fun hk=>hk.imp fun hab e=>by
  subst e
  unfold lexB at hab;omega
 have hp:L1.Perm M1:=by
  refine (List.perm_ext_iff_of_nodup (hnd a2) (hnd b2)).2 fun x => ?_
  constructor
  ·intro hx
   have:=hL.dom x (a1.mem_iff.1 hx)
   exact b1.mem_iff.2 (hw' x.1 x.2 this.1 this.2)
  ·intro hx
   have:=hM.dom x (b1.mem_iff.1 hx)
   exact a1.mem_iff.2 (hw x.1 x.2 this.1 this.2)
 have:=perm_lex hp a2 b2
 subst this
 rw [<-ho,<-ho',<-a3,b3]
def fenced (P:Pg):Prop := ∀ t i,i+1<(thr P t).length->(acA P (t,i)).1=3\/(acA P (t,i+1)).1=3
end Go.Am

set_option maxHeartbeats 2000000
namespace Go.Am
open Go
structure SP (P:Pg) (s:Sta) (n:Nat->Nat):Prop where
 k:WfK 1 P s
 b : ∀ t,t<3 -> ∀ j,btI (s t) j=decide (j<n t)
 l : ∀ t,n t<=(thr P t).length
theorem SP.init (P:Pg):SP P s0 (fun _=>0):=⟨WfK.init 1 P,fun t ht j=>by unfold btI s0;simp,fun t=>Nat.zero_le _⟩
section
variable {P:Pg} (hv:VP P) {s:Sta} {n:Nat->Nat} (h:SP P s n)
include hv h
theorem SP.over:overS P s=true ↔ ∀ t,t<P.length->n t=(thr P t).length:=by
 unfold overS
 rw [List.all_eq_true]
 constructor
 ·intro hh t ht
  have:=hh t (List.mem_range.2 ht)
  rw [zp4,decide_eq_true_eq] at this
  obtain ⟨d0,d1⟩:=h.k.wf.d t (lt3 hv ht)
  have hl:=h.l t
  rcases Nat.lt_or_eq_of_le hl with g | g
  ·have:=(btI_all d0 d1).1 this.1 _ g
   rw [h.b t (lt3 hv ht)] at this;simp at this
  ·exact g
 ·intro hh t ht
  have ht:=List.mem_range.1 ht
  obtain ⟨d0,d1⟩:=h.k.wf.d t (lt3 hv ht)
  rw [zp4,decide_eq_true_eq]
  refine ⟨(btI_all d0 d1).2 fun i hi => ?_,?_⟩
  ·rw [h.b t (lt3 hv ht),hh t ht];simpa using hi
  ·rw [h.k.nb (by decide) t (lt3 hv ht)];rfl
end
def run (P:Pg):Sta->List Nat->Option Sta
 | s,[]=>some s
 | s,t::w=>if t<P.length/\nx s t<(thr P t).length then run P (doS P s t (nx s t)) w else none
end Go.Am

namespace Go.Am
open Go
end Go.Am

namespace Go.Am
open Go
end Go.Am

namespace Go.Am
open Go
end Go.Am

namespace Go.Am
open Go
def ren (m t:Nat):Nat:=if t<m then m-1-t else t
section
variable (a b:Int)
end
end Go.Am

namespace Go.Am
open Go
end Go.Am

namespace Go.Am
open Go
theorem M19_of {P:Pg} (hv:VP P) {z:Int} (hk:kindB z=true) : ∃ O,IsO z.toNat P O/\M19 Ar.std (eP P) z=some (eTab O,0):=by
 rcases M19_eq (VP.short hv) z with ⟨h1,_⟩ | ⟨_,h1,_⟩ | ⟨_,_,h⟩
 ·rw [VP.to hv] at h1;cases h1
 ·rw [hk] at h1;cases h1
 ·exact h
end Go.Am
