import Derived.Test.YtlljehkmemajkaaML14
import Derived.Test.YtlljehkmemajkaaML15
import Derived.Test.YtlljehkmemajkaaGenp0
set_option maxRecDepth 100000
set_option maxHeartbeats 2000000
set_option linter.unusedVariables false
set_option linter.unusedSimpArgs false
set_option linter.unusedSectionVars false
namespace Go.Am
open Go
abbrev Pt:=Nat×Nat
def acA (P:Pg) (x:Pt):Ac:=aAt (thr P x.1) x.2
def a5E (a b:Ac):Prop:=a.1=3\/b.1=3\/a.2.1≠b.2.1\/(a.1≠2/\b.1≠2)
theorem a5E.symm {a b:Ac} (h:a5E a b):a5E b a:=by
 rcases h with h | h | h | h
 ·exact .inr (.inl h)
 ·exact .inl h
 ·exact .inr (.inr (.inl fun e=>h e.symm))
 exact .inr (.inr (.inr ⟨h.2,h.1⟩))
theorem b2x {a b:Ac} (h : ¬ a5E a b):a.1≠3/\b.1≠3/\a.2.1=b.2.1/\(a.1=2\/b.1=2):=by
 unfold a5E at h;refine ⟨fun e=>h (.inl e),fun e=>h (.inr (.inl e)),?_,?_⟩
 ·exact Classical.byContradiction fun e=>h (.inr (.inr (.inl e)))
 exact Classical.byContradiction fun e=>h (.inr (.inr (.inr ⟨fun g=>e (.inl g),fun g=>e (.inr g)⟩)))
def ex (P:Pg) (s:AS) (L:List Pt):AS:=L.foldl (fun s x=>doA 3 P s x.1 x.2) s
theorem b9g {s u:AS} (h1:s.dn=u.dn) (h2:s.rd=u.rd) (h3:s.bf=u.bf) (h4:s.ce=u.ce):s=u:=by
 cases s;cases u;simp only at h1 h2 h3 h4;subst h1 h2 h3 h4
 rfl
section
variable {P:Pg} {s:AS}
theorem b5O {k:Nat} (hk:k≠2) (t i:Nat):doA k P s t i=doA 3 P s t i:=by simp [doA,hk]
theorem b4C (x:Pt) (y:Pt):(doA 3 P s x.1 x.2).dn y.1 y.2=if y=x then true else s.dn y.1 y.2:=by
 obtain ⟨t,i⟩:=x;obtain ⟨u,j⟩:=y;simp only [doA,fup,Prod.mk.injEq];by_cases h1:u=t
 ·subst h1;by_cases h2:j=i <;> simp [fup,h2]
 simp [fup,h1]
theorem a3N (x:Pt):(doA 3 P s x.1 x.2).bf=s.bf:=by simp [doA]
theorem a5X (x:Pt) (c:Int):(doA 3 P s x.1 x.2).ce c=if (acA P x).1=2/\c=(acA P x).2.1 then (acA P x).2.2 else s.ce c:=by
 simp only [doA,acA,fup];by_cases h:(aAt (thr P x.1) x.2).1=2
 ·simp [h,fup]
 simp [h]
theorem a8g (hb : ∀ t,s.bf t=[]) (x y:Pt):(doA 3 P s x.1 x.2).rd y.1 y.2=if (acA P x).1=1/\y=x then s.ce (acA P x).2.1 else s.rd y.1 y.2:=by
 obtain ⟨t,i⟩:=x;obtain ⟨u,j⟩:=y;simp only [doA,acA,fup,Prod.mk.injEq];by_cases h:(aAt (thr P t) i).1=1
 ·by_cases h1:u=t
  ·subst h1;by_cases h2:j=i <;> simp [fup,h,sn,hb,h2]
  simp [fup,h,h1]
 simp [h]
theorem b3O (hb : ∀ t,s.bf t=[]) {x y:Pt} (hxy:x≠y) (hi:a5E (acA P x) (acA P y)):doA 3 P (doA 3 P s x.1 x.2) y.1 y.2=doA 3 P (doA 3 P s y.1 y.2) x.1 x.2:=by
 have hbx : ∀ t,(doA 3 P s x.1 x.2).bf t=[]:=fun t=>by rw [a3N];exact hb t
 have hby : ∀ t,(doA 3 P s y.1 y.2).bf t=[]:=fun t=>by rw [a3N];exact hb t
 have ne1 : ¬ ((acA P y).1=1/\(acA P x).1=2/\(acA P y).2.1=(acA P x).2.1):=by
  rintro ⟨h1,h2,h3⟩;rcases hi with h | h | h | h
  ·omega
  ·omega
  ·exact h h3.symm
  exact h.1 h2
 have ne2 : ¬ ((acA P x).1=1/\(acA P y).1=2/\(acA P x).2.1=(acA P y).2.1):=by
  rintro ⟨h1,h2,h3⟩;rcases hi with h | h | h | h
  ·omega
  ·omega
  ·exact h h3
  exact h.2 h2
 have ne3 : ¬ ((acA P x).1=2/\(acA P y).1=2/\(acA P x).2.1=(acA P y).2.1):=by
  rintro ⟨h1,h2,h3⟩;rcases hi with h | h | h | h
  ·omega
  ·omega
  ·exact h h3
  exact h.2 h2
 refine b9g ?_ ?_ ?_ ?_
 ·funext t i;have:=fun (s:AS) (x:Pt)=>b4C (P:=P) (s:=s) x (t,i);simp only at this;rw [this,this,this,this];by_cases h1:(t,i)=x <;> by_cases h2:(t,i)=y <;> simp [h1,h2]
 ·funext t i;have e1:=a8g (P:=P) hbx y (t,i);have e2:=a8g (P:=P) hby x (t,i);have e3:=a8g (P:=P) hb x (t,i);have e4:=a8g (P:=P) hb y (t,i);simp only at e1 e2 e3 e4;rw [e1,e2,e3,e4,a5X,a5X];by_cases h1:(acA P y).1=1/\(t,i)=y
  ·have h2 : ¬ ((acA P x).1=1/\(t,i)=x):=fun h=>hxy (h.2.symm.trans h1.2);have h3 : ¬ ((acA P x).1=2/\(acA P y).2.1=(acA P x).2.1):=fun h=>ne1 ⟨h1.1,h⟩;rw [if_pos h1,if_neg h2,if_neg h3,if_pos h1]
  rw [if_neg h1,if_neg h1];by_cases h2:(acA P x).1=1/\(t,i)=x
  ·have h3 : ¬ ((acA P y).1=2/\(acA P x).2.1=(acA P y).2.1):=fun h=>ne2 ⟨h2.1,h⟩;rw [if_pos h2,if_pos h2,if_neg h3]
  rw [if_neg h2,if_neg h2]
 ·rw [a3N,a3N,a3N,a3N]
 funext c;rw [a5X,a5X,a5X,a5X];by_cases h1:(acA P y).1=2/\c=(acA P y).2.1
 ·have h2 : ¬ ((acA P x).1=2/\c=(acA P x).2.1):=fun h=>ne3 ⟨h.1,h1.1,h.2.symm.trans h1.2⟩;rw [if_pos h1,if_neg h2,if_pos h1]
 rw [if_neg h1,if_neg h1]
end
theorem b7F {P:Pg} : ∀ (L:List Pt) (s:AS),(ex P s L).bf=s.bf
 | [],_=>rfl
 | x::L,s=>(b7F L (doA 3 P s x.1 x.2)).trans (a3N x)
theorem b4D {P:Pg} (s:AS) (L M:List Pt):ex P s (L++M)=ex P (ex P s L) M:=by unfold ex;rw [List.foldl_append]
theorem b2y {P:Pg} {f:Pt} {l2:List Pt} : ∀ (l1:List Pt) (s:AS),(∀ t,s.bf t=[])->(∀ y∈l1,y≠f/\a5E (acA P y) (acA P f))->ex P s (l1++f::l2)=ex P s (f::(l1++l2))
 | [],_,_,_=>rfl
 | y::l1,s,hb,h=>by
   have hb' : ∀ t,(doA 3 P s y.1 y.2).bf t=[]:=fun t=>by rw [a3N];exact hb t
   have ih:=b2y (f:=f) (l2:=l2) l1 (doA 3 P s y.1 y.2) hb' fun z hz=>h z (List.mem_cons_of_mem _ hz);obtain ⟨h1,h2⟩:=h y (List.mem_cons_self ..);show ex P (doA 3 P s y.1 y.2) (l1++f::l2)=_;rw [ih];show ex P (doA 3 P (doA 3 P s y.1 y.2) f.1 f.2) (l1++l2)=ex P (doA 3 P (doA 3 P s f.1 f.2) y.1 y.2) (l1++l2);rw [b3O hb h1 h2]
theorem b5P {P:Pg} (pos:Pt->Nat) (before:Pt->Pt->Prop) (A:Pt->Prop)
  (H : ∀ L:List Pt,L≠[]->L.Pairwise (fun x y=>pos x<pos y)->(∀ y∈L,A y) -> ∃ f∈L,(∀ y∈L,y≠f->before f y) /\ ∀ y∈L,pos y<pos f->a5E (acA P y) (acA P f)) :
  ∀ (n:Nat) (L:List Pt),L.length=n->L.Pairwise (fun x y=>pos x<pos y)->(∀ y∈L,A y) -> ∀ s:AS,(∀ t,s.bf t=[]) -> ∃ L',L'.Perm L/\L'.Pairwise before/\ex P s L'=ex P s L:=by
 intro n
 induction n with
 | zero =>
   intro L hL _ _ s _;obtain rfl:=List.length_eq_zero_iff.1 hL;exact ⟨[],.refl _,.nil,rfl⟩
 | succ n ih =>
   intro L hL hs hA s hb;obtain ⟨f,hf,h1,h2⟩:=H L (by intro e;rw [e] at hL;cases hL) hs hA;obtain ⟨l1,l2,rfl⟩:=List.append_of_mem hf;have hs':=hs;rw [List.pairwise_append] at hs;obtain ⟨p1,p2,p3⟩:=hs;rw [List.pairwise_cons] at p2;have hlt : ∀ y∈l1,pos y<pos f:=fun y hy=>p3 y hy f (by simp);have hsub:(l1++l2).Sublist (l1++f::l2):=List.Sublist.append (List.Sublist.refl _) (List.sublist_cons_self ..);have hbf : ∀ t,(doA 3 P s f.1 f.2).bf t=[]:=fun t=>by rw [a3N];exact hb t
   obtain ⟨M,m1,m2,m3⟩:=ih (l1++l2) (by simp at hL ⊢;omega) (hs'.sublist hsub) (fun y hy=>hA y (hsub.subset hy)) _ hbf;refine ⟨f::M,(List.Perm.cons f m1).trans List.perm_middle.symm,List.pairwise_cons.2 ⟨fun y hy => ?_,m2⟩,?_⟩
   ·have hy:=m1.subset hy;refine h1 y (hsub.subset hy) fun e => ?_;subst e;rcases List.mem_append.1 hy with hy | hy
    ·exact Nat.lt_irrefl _ (hlt y hy)
    exact Nat.lt_irrefl _ (p2.1 y hy)
   rw [b2y l1 s hb fun y hy=>⟨fun e=>by subst e;exact Nat.lt_irrefl _ (hlt y hy),h2 y (List.mem_append_left _ hy) (hlt y hy)⟩];exact m3
inductive Trc (k:Nat) (P:Pg):List Pt->Prop
 | nil:Trc k P []
 | snoc {L:List Pt} {x:Pt} (h:Trc k P L) (h1:x.1<P.length) (h2:x.2<(thr P x.1).length) (h3:x∉L) (h4 : ∀ j,j<x.2->must k (acA P x) (acA P (x.1,j))->(x.1,j)∈L):Trc k P (L++[x])
theorem b7G {P:Pg} (y:Pt) : ∀ (L:List Pt) (s:AS),(ex P s L).dn y.1 y.2=true↔y∈L\/s.dn y.1 y.2=true
 | [],s=>by simp [ex]
 | x::L,s=>by
   have e:ex P s (x::L)=ex P (doA 3 P s x.1 x.2) L:=rfl;rw [e,b7G y L,b4C];by_cases h:y=x <;> simp [h]
theorem a5Y {P:Pg} (y:Pt) (L:List Pt):(ex P AS.init L).dn y.1 y.2=true↔y∈L:=by
 rw [b7G];simp [AS.init]
theorem a9C {k:Nat} (hk:k≠2) {P:Pg} {u:AS}:Stps k P AS.init u ↔ ∃ L,Trc k P L/\u=ex P AS.init L:=by
 constructor
 ·intro h
  induction h with
  | refl=>exact ⟨[],.nil,rfl⟩
  | tail h h' ih =>
    obtain ⟨L,hL,rfl⟩:=ih;cases h' with
    | out t ht hk2=>exact absurd hk2 hk
    | act t i ht hi hm =>
      refine ⟨L++[(t,i)],.snoc hL ht hi ?_ fun j hj hmu => ?_,?_⟩
      ·intro hx;have:=(a5Y (P:=P) (t,i) L).2 hx;have h1:(ex P AS.init L).dn t i=false:=hm.1;simp only at this;rw [h1] at this;cases this
      ·exact (a5Y (P:=P) (t,j) L).1 (hm.2.1 j hj hmu)
      rw [b4D,b5O hk];rfl
 rintro ⟨L,hL,rfl⟩
 induction hL with
 | nil=>exact .refl _
 | @snoc L x hL h1 h2 h3 h4 ih =>
   refine .tail ih ?_;rw [b4D];have:ex P (ex P AS.init L) [x]=doA k P (ex P AS.init L) x.1 x.2:=by rw [b5O hk];rfl
   rw [this];refine .act _ _ h1 h2 ⟨?_,fun j hj hmu => ?_,fun hk2=>absurd hk2 hk⟩
   ·show (ex P AS.init L).dn x.1 x.2=false;rw [Bool.eq_false_iff];exact fun h=>h3 ((a5Y x L).1 h)
   exact (a5Y (P:=P) (x.1,j) L).2 (h4 j hj hmu)
theorem Trc.pos {k:Nat} {P:Pg} {L:List Pt} (h:Trc k P L) : ∃ pos:Pt->Nat,L.Pairwise (fun x y=>pos x<pos y)/\(∀ y∈L,pos y<L.length) /\
  ∀ x∈L,∀ j,j<x.2->must k (acA P x) (acA P (x.1,j))->(x.1,j)∈L/\pos (x.1,j)<pos x:=by
 induction h with
 | nil=>exact ⟨fun _=>0,.nil,fun y hy=>(by cases hy),fun y hy=>(by cases hy)⟩
 | @snoc L x hL h1 h2 h3 h4 ih =>
   obtain ⟨pos,p1,p2,p3⟩:=ih;have hne : ∀ y∈L,y≠x:=fun y hy e=>h3 (e▸hy);have e : ∀ y∈L,(if y=x then L.length else pos y)=pos y:=fun y hy=>if_neg (hne y hy)
   refine ⟨fun y=>if y=x then L.length else pos y,?_,?_,?_⟩
   ·rw [List.pairwise_append];refine ⟨?_,by simp,fun y hy z hz => ?_⟩
    ·refine (List.Pairwise.imp_of_mem ?_ p1);intro a b ha hb hab;show (if a=x then L.length else pos a)<(if b=x then L.length else pos b)
     rw [e a ha,e b hb];exact hab
    rw [List.mem_singleton] at hz;subst hz;show (if y=z then L.length else pos y)<(if z=z then L.length else pos z)
    rw [e y hy,if_pos rfl];exact p2 y hy
   ·intro y hy;rw [List.length_append,List.length_singleton];rcases List.mem_append.1 hy with hy | hy
    ·simp only [e y hy];have:=p2 y hy;omega
    rw [List.mem_singleton] at hy;subst hy;simp
   intro y hy j hj hmu;rcases List.mem_append.1 hy with hy | hy
   ·obtain ⟨q1,q2⟩:=p3 y hy j hj hmu;simp only [e y hy,e _ q1];exact ⟨List.mem_append_left _ q1,q2⟩
   rw [List.mem_singleton] at hy;subst hy;have q1:=h4 j hj hmu;simp only [e _ q1,if_true];exact ⟨List.mem_append_left _ q1,p2 _ q1⟩
theorem Trc.dom {k:Nat} {P:Pg} {L:List Pt} (h:Trc k P L) : ∀ x∈L,x.1<P.length/\x.2<(thr P x.1).length:=by
 induction h with
 | nil=>exact fun y hy=>(by cases hy)
 | snoc hL h1 h2 h3 h4 ih =>
   intro y hy;rcases List.mem_append.1 hy with hy | hy
   ·exact ih y hy
   rw [List.mem_singleton] at hy;subst hy;exact ⟨h1,h2⟩
def Whole (P:Pg) (L:List Pt):Prop := ∀ t i,t<P.length->i<(thr P t).length->(t,i)∈L
theorem a5Z {P:Pg} {L:List Pt}:b5o P (ex P AS.init L)↔Whole P L:=by
 constructor
 ·intro h t i ht hi;exact (a5Y (P:=P) (t,i) L).1 ((h t ht).1 i hi)
 intro h t ht;exact ⟨fun i hi=>(a5Y (P:=P) (t,i) L).2 (h t i ht hi),by rw [b7F];rfl⟩
theorem b2z {k:Nat} (hk:k≠2) {P:Pg} {o:List Int}:Can k P o ↔ ∃ L,Trc k P L/\Whole P L/\b2L P (ex P AS.init L)=o:=by
 constructor
 ·rintro ⟨s,h1,h2,h3⟩;obtain ⟨L,hL,rfl⟩:=(a9C hk).1 h1;exact ⟨L,hL,a5Z.1 h2,h3⟩
 rintro ⟨L,h1,h2,h3⟩;exact ⟨_,(a9C hk).2 ⟨L,h1,rfl⟩,a5Z.2 h2,h3⟩
theorem least {α:Type} (f:α->Nat) (p:α->Prop) (h : ∃ a,p a) : ∃ a,p a /\ ∀ b,p b->f a<=f b:=by
 have key : ∀ (n:Nat) (a:α),f a<n->p a -> ∃ a,p a /\ ∀ b,p b->f a<=f b:=by
  intro n
  induction n with
  | zero=>intro a h;omega
  | succ n ih =>
    intro a ha hp;by_cases hb : ∃ b,p b/\f b<f a
    ·obtain ⟨b,h1,h2⟩:=hb;exact ih b (by omega) h1
    exact ⟨a,hp,fun b hb'=>Nat.le_of_not_lt fun hlt=>hb ⟨b,hb',hlt⟩⟩
 obtain ⟨a,ha⟩:=h;exact key _ a (Nat.lt_succ_self _) ha
def cfl (P:Pg) (x y:Pt):Prop:=x.1≠y.1 /\ ¬ a5E (acA P x) (acA P y)
def inP (P:Pg) (x:Pt):Prop:=x.1<P.length/\x.2<(thr P x.1).length
def stn (P:Pg) (t a b:Nat):Prop:=inP P (t,a)/\inP P (t,b)/\(acA P (t,a)).1≠3/\(acA P (t,b)).1≠3/\(a=b\/(a<b/\(acA P (t,a)).2.1≠(acA P (t,b)).2.1))
def b2A (P:Pg) (t a b:Nat):Prop := ∃ c,a<c/\c<b/\(acA P (t,c)).1=3
structure NC (P:Pg):Prop where
 n2 : ∀ t a b u c d,stn P t a b->stn P u c d->cfl P (t,b) (u,c)->cfl P (u,d) (t,a)->(a<b->b2A P t a b)/\(c<d->b2A P u c d)
 n3 : ∀ t a b u c d v e f,t≠v->stn P t a b->stn P u c d->stn P v e f->cfl P (t,b) (u,c)->cfl P (u,d) (v,e)->cfl P (v,f) (t,a)->(a<b->b2A P t a b)/\(c<d->b2A P u c d)/\(e<f->b2A P v e f)
def b2B (P:Pg):Prop := ∀ x y,inP P x->inP P y->x.1≠y.1->a5E (acA P x) (acA P y)
def lexB (x y:Pt):Prop:=x.1<y.1\/(x.1=y.1/\x.2<y.2)
theorem b2C {L:List Pt} (h:L≠[]) : ∃ f∈L,∀ y∈L,y≠f->lexB f y:=by
 obtain ⟨x,hx⟩:=List.exists_mem_of_ne_nil L h;obtain ⟨t,⟨i,hi⟩,h2⟩:=least (fun t=>t) (fun t => ∃ i,(t,i)∈L) ⟨x.1,x.2,hx⟩;obtain ⟨f,hf,h4⟩:=least (fun i=>i) (fun i=>(t,i)∈L) ⟨i,hi⟩;refine ⟨(t,f),hf,fun y hy hne => ?_⟩;obtain ⟨u,j⟩:=y;have h5:t<=u:=h2 u ⟨j,hy⟩;unfold lexB;simp only;rcases Nat.lt_or_eq_of_le h5 with g | g
 ·exact .inl g
 subst g;have h6:f<=j:=h4 j hy;rcases Nat.lt_or_eq_of_le h6 with g | g
 ·exact .inr ⟨rfl,g⟩
 subst g;exact absurd rfl hne
theorem a8h {P:Pg} (hn:b2B P) {L:List Pt} (hL:Trc 3 P L) : ∃ L',L'.Perm L/\L'.Pairwise lexB/\ex P AS.init L'=ex P AS.init L:=by
 obtain ⟨pos,p1,_,p3⟩:=hL.pos;have hdom:=hL.dom;refine b5P (P:=P) pos lexB (fun x=>x∈L) ?_ L.length L rfl p1 (fun y hy=>hy) AS.init (fun _=>rfl);intro M hne hs hsub;obtain ⟨f,hf,h1⟩:=b2C hne;refine ⟨f,hf,h1,fun y hy hlt => ?_⟩;by_cases ht:y.1=f.1
 ·obtain ⟨u,j⟩:=y;obtain ⟨t,i⟩:=f;simp only at ht;subst ht;refine Classical.byContradiction fun hi => ?_;obtain ⟨n1,n2,n3,_⟩:=b2x hi;have hne2:(u,j)≠(u,i):=fun e=>by rw [e] at hlt;omega
  have hj:i<j:=by
   rcases h1 _ hy hne2 with g | ⟨_,g⟩
   ·simp at g
   exact g
  have:pos (u,i)<pos (u,j):=(p3 (u,j) (hsub _ hy) i hj (.inr (.inr (.inr n3)))).2;omega
 exact hn y f (hdom _ (hsub _ hy)) (hdom _ (hsub _ hf)) ht
theorem b3P : ∀ {L M:List Pt},L.Perm M->L.Pairwise lexB->M.Pairwise lexB->L=M:=by
 intro L M hp h1 h2;refine hp.eq_of_pairwise (fun a b _ _ hab hba => ?_) h1 h2;unfold lexB at hab hba;omega
theorem a6S {P:Pg} (hn:b2B P) {o o':List Int} (h:Can 3 P o) (h':Can 3 P o'):o=o':=by
 obtain ⟨L,hL,hw,ho⟩:=(b2z (by decide)).1 h;obtain ⟨M,hM,hw',ho'⟩:=(b2z (by decide)).1 h';obtain ⟨L1,a1,a2,a3⟩:=a8h hn hL;obtain ⟨M1,b1,b2,b3⟩:=a8h hn hM;have hnd : ∀ {K:List Pt},K.Pairwise lexB->K.Nodup:=fun hk=>hk.imp fun hab e=>by
  subst e;unfold lexB at hab;omega
 have hp:L1.Perm M1:=by
  refine (List.perm_ext_iff_of_nodup (hnd a2) (hnd b2)).2 fun x => ?_;constructor
  ·intro hx;have:=hL.dom x (a1.mem_iff.1 hx);exact b1.mem_iff.2 (hw' x.1 x.2 this.1 this.2)
  intro hx;have:=hM.dom x (b1.mem_iff.1 hx);exact a1.mem_iff.2 (hw x.1 x.2 this.1 this.2)
 have:=b3P hp a2 b2;subst this;rw [<-ho,<-ho',<-a3,b3]
def fenced (P:Pg):Prop := ∀ t i,i+1<(thr P t).length->(acA P (t,i)).1=3\/(acA P (t,i+1)).1=3
structure SP (P:Pg) (s:Sta) (n:Nat->Nat):Prop where
 k:WfK 1 P s
 b : ∀ t,t<3 -> ∀ j,btI (s t) j=decide (j<n t)
 l : ∀ t,n t<=(thr P t).length
theorem SP.init (P:Pg):SP P s0 (fun _=>0):=⟨WfK.init 1 P,fun t ht j=>by unfold btI s0;simp,fun t=>Nat.zero_le _⟩
theorem b5Q (P:Pg) (s:Sta) (t i:Nat) {u:Nat} (hu:u<3):doS P s t i u=dS s t i u:=by
 unfold doS;split
 ·rw [a0c _ _ _ (by omega)]
 split
 ·rw [a0c _ _ _ (by omega)]
 rfl
section
variable {P:Pg} (hv:VP P) {s:Sta} {n:Nat->Nat} (h:SP P s n)
include hv h
theorem SP.step {t:Nat} (ht:t<P.length) (hi:n t<(thr P t).length):SP P (doS P s t (n t)) (fup n t (n t+1)):=by
 have ht3:=lt3 hv ht;have hb:btI (s t) (n t)=false:=by rw [h.b t ht3];simp
 have hw:=b4s hv h.k ht hi hb;have e:a4f 1 P s t (n t)=doS P s t (n t):=by unfold a4f;simp
 rw [e] at hw;refine ⟨hw,fun u hu j => ?_,fun u => ?_⟩
 ·rw [b5Q P s t _ hu];unfold dS;by_cases hut:u=t
  ·subst hut;rw [a0g,a0g,a5d,h.b u hu];rw [Bool.eq_iff_iff];simp;omega
  rw [a0c _ _ _ hut,a0c _ _ _ hut];exact h.b u hu j
 by_cases hut:u=t
 ·subst hut;rw [a0g];omega
 rw [a0c _ _ _ hut];exact h.l u
theorem SP.over:a3u P s=true ↔ ∀ t,t<P.length->n t=(thr P t).length:=by
 unfold a3u;rw [List.all_eq_true];constructor
 ·intro hh t ht;have:=hh t (List.mem_range.2 ht);rw [zp4,decide_eq_true_eq] at this;obtain ⟨d0,d1⟩:=h.k.wf.d t (lt3 hv ht);have hl:=h.l t;rcases Nat.lt_or_eq_of_le hl with g | g
  ·have:=(a6F d0 d1).1 this.1 _ g;rw [h.b t (lt3 hv ht)] at this;simp at this
  exact g
 intro hh t ht;have ht:=List.mem_range.1 ht;obtain ⟨d0,d1⟩:=h.k.wf.d t (lt3 hv ht);rw [zp4,decide_eq_true_eq];refine ⟨(a6F d0 d1).2 fun i hi => ?_,?_⟩
 ·rw [h.b t (lt3 hv ht),hh t ht];simpa using hi
 rw [h.k.nb (by decide) t (lt3 hv ht)];rfl
end
def run (P:Pg):Sta->List Nat->Option Sta
 | s,[]=>some s
 | s,t::w=>if t<P.length/\nx s t<(thr P t).length then run P (doS P s t (nx s t)) w else none
def ren (m t:Nat):Nat:=if t<m then m-1-t else t
section
variable (a b:Int)
end
theorem b7H {l:List Ac} (h:l.length<=1000000):M83 Ar.std (eT l)=some (eT l):=by
 have e:ap Ar.std [] (eT l)=some (eT l):=b1L (by omega);unfold M83;by_cases h0:0<l.length
 ·exact cnT (by simp;omega) (bt e rfl)
 obtain rfl:l=[]:=List.length_eq_zero_iff.1 (by omega);refine cnF (by simp) ?_;rw [show ap Ar.std [] (eT [])=some [] from e];simp [both]
theorem b9h (l:List Ac):scalars (eT l)=true:=by
 unfold scalars eT enc;rw [List.all_eq_true];intro x hx;obtain ⟨y,_,rfl⟩:=List.mem_map.1 hx
 rfl
theorem b4E {P:Pg} (hv:VP P) {z:Int} (hk:a2K z=true) : ∃ O,IsO z.toNat P O/\M19 Ar.std (eP P) z=some (a1v O,0):=by
 rcases b4y (VP.short hv) z with ⟨h1,_⟩ | ⟨_,h1,_⟩ | ⟨_,_,h⟩
 ·rw [VP.to hv] at h1;cases h1
 ·rw [hk] at h1;cases h1
 exact h
def gI:List (Int×Int)->Int->Option Int
 | [],_=>none
 | p::l,k=>if p.1=k then some p.2 else gI l k
def pI:List (Int×Int)->Int->Int->List (Int×Int)
 | [],k,m=>[(k,m)]
 | p::l,k,m=>if p.1=k then (k,m)::l else p::pI l k m
theorem b7I (l:List (Int×Int)) (k m v:Int):gI (pI l k m) v=if k=v then some m else gI l v:=by
 induction l with
 | nil=>rfl
 | cons p l ih =>
   simp only [pI];by_cases h:p.1=k
   ·rw [if_pos h];simp only [gI];by_cases hv:k=v
    ·rw [if_pos hv,if_pos hv]
    rw [if_neg hv,if_neg hv,if_neg (by rw [h];exact hv)]
   rw [if_neg h];simp only [gI,ih];by_cases hv:p.1=v
   ·rw [if_pos hv,if_neg (fun e=>h (hv.trans e.symm)),if_pos hv]
   rw [if_neg hv,if_neg hv]
theorem b5R (l:List (Int×Int)) (k m:Int):(pI l k m).map (·.1)=if k∈l.map (·.1) then l.map (·.1) else l.map (·.1)++[k]:=by
 induction l with
 | nil=>rfl
 | cons p l ih =>
   simp only [pI];by_cases h:p.1=k
   ·rw [if_pos h];simp [h]
   rw [if_neg h];simp only [List.map_cons,ih];by_cases hk:k∈l.map (·.1)
   ·rw [if_pos hk,if_pos (List.mem_cons_of_mem _ hk)]
   rw [if_neg hk,if_neg (by rw [List.mem_cons];rintro (e | e);exact h e.symm;exact hk e)];rfl
theorem or8 : ∀ (a:Fin 8) (t:Fin 3),(a.val ||| 2 ^ t.val)<8:=by decide +kernel
structure Cov (P:Pg) (Pr:Nat->Nat->Prop) (q:Ac->Prop) (l:List (Int×Int)):Prop where
 nd:(l.map (·.1)).Nodup
 no : ∀ v,gI l v=none -> ∀ t i,Pr t i->q (acA P (t,i))->(acA P (t,i)).2.1≠v
 ye : ∀ v m,gI l v=some m->0<=v/\v<=2/\(∃ t i,Pr t i/\q (acA P (t,i))/\(acA P (t,i)).2.1=v) /\ ∃ a:Nat,m=a/\a<8 /\ ∀ t,t<3->(a.testBit t=true ↔ ∃ i,Pr t i/\q (acA P (t,i))/\(acA P (t,i)).2.1=v)
theorem Cov.nil (P:Pg) (q:Ac->Prop) {Pr:Nat->Nat->Prop} (h : ∀ t i,¬ Pr t i):Cov P Pr q [] :=
 ⟨.nil,fun v _ t i hp=>absurd hp (h t i),fun v m h=>by cases h⟩
theorem Cov.put {P:Pg} {Pr Pr':Nat->Nat->Prop} {q:Ac->Prop} {l:List (Int×Int)} (h:Cov P Pr q l) {t i:Nat} (ht:t<3) (hq:q (acA P (t,i))) {c:Int} (hc:(acA P (t,i)).2.1=c) (c0:0<=c) (c2:c<=2)
  (hp : ∀ u j,Pr' u j↔Pr u j\/(u=t/\j=i)) : ∃ a:Nat,a<8/\(gI l c=none/\a=0\/gI l c=some (a:Int))/\Cov P Pr' q (pI l c ((a ||| 2 ^ t:Nat):Int)):=by
 have hor : ∀ {a u:Nat},(a ||| 2 ^ t).testBit u=true↔a.testBit u=true\/u=t:=fun {a u}=>by
  rw [Nat.testBit_or,Nat.testBit_two_pow,Bool.or_eq_true,decide_eq_true_eq];constructor
  ·rintro (h | h);exact .inl h;exact .inr h.symm
  rintro (h | h);exact .inl h;exact .inr h.symm
 have key : ∀ a:Nat,a<8->(∀ u,u<3->(a.testBit u=true ↔ ∃ j,Pr u j/\q (acA P (u,j))/\(acA P (u,j)).2.1=c))->Cov P Pr' q (pI l c ((a ||| 2 ^ t:Nat):Int)):=by
  intro a ha hb;refine ⟨?_,fun v hv u j hpr hqu => ?_,fun v m hm => ?_⟩
  ·rw [b5R];split
   ·exact h.nd
   rename_i hn;rw [List.nodup_append];exact ⟨h.nd,by simp,fun x hx y hy=>by simp at hy;subst hy;exact fun e=>hn (e▸hx)⟩
  ·rw [b7I] at hv;split at hv
   ·cases hv
   rename_i hne;rcases (hp u j).1 hpr with hpr | ⟨rfl,rfl⟩
   ·exact h.no v hv u j hpr hqu
   rw [hc];exact hne
  rw [b7I] at hm;split at hm
  ·rename_i hcv;subst hcv;cases hm;refine ⟨c0,c2,⟨t,i,(hp t i).2 (.inr ⟨rfl,rfl⟩),hq,hc⟩,_,rfl,or8 ⟨a,ha⟩ ⟨t,ht⟩,fun u hu => ?_⟩;rw [hor,hb u hu];constructor
   ·rintro (⟨j,g1,g2,g3⟩ | rfl)
    ·exact ⟨j,(hp u j).2 (.inl g1),g2,g3⟩
    exact ⟨i,(hp u i).2 (.inr ⟨rfl,rfl⟩),hq,hc⟩
   rintro ⟨j,g1,g2,g3⟩;rcases (hp u j).1 g1 with g1 | ⟨g1,_⟩
   ·exact .inl ⟨j,g1,g2,g3⟩
   exact .inr g1
  rename_i hne;obtain ⟨h1,h2,⟨t',i',h3,h4,h5⟩,b,h6,h7,h8⟩:=h.ye v m hm;refine ⟨h1,h2,⟨t',i',(hp t' i').2 (.inl h3),h4,h5⟩,b,h6,h7,fun u hu=>(h8 u hu).trans ?_⟩;constructor
  ·rintro ⟨j,g1,g2,g3⟩;exact ⟨j,(hp u j).2 (.inl g1),g2,g3⟩
  rintro ⟨j,g1,g2,g3⟩;rcases (hp u j).1 g1 with g1 | ⟨rfl,rfl⟩
  ·exact ⟨j,g1,g2,g3⟩
  exact absurd (hc.symm.trans g3) hne
 cases hg:gI l c with
 | none =>
   refine ⟨0,by omega,.inl ⟨rfl,rfl⟩,key 0 (by omega) fun u hu => ?_⟩;constructor
   ·intro h;simp at h
   rintro ⟨j,g1,g2,g3⟩;exact absurd g3 (h.no c hg u j g1 g2)
 | some m =>
   obtain ⟨_,_,_,a,rfl,h7,h8⟩:=h.ye c m hg;exact ⟨a,h7,.inr rfl,key a h7 h8⟩
theorem IsO.one {k:Nat} (hK:Kind k) {P:Pg} (hv:VP P) (hn:b2B P) {O:List (List Int)} (h:IsO k P O) {o:List Int} (ho:Can 3 P o):O=[o]:=by
 have up : ∀ o',Can k P o'->Can 3 P o':=fun o' h=>by
  rcases hK with rfl | rfl | rfl
  ·exact h.strict.loose
  ·exact h.loose
  exact h
 have hne:=h.ne hK hv
 match O,hne with
 | [x],_ =>
   have:=a6S hn (up x ((h.mem x).1 (by simp))) ho;rw [this]
 | x::y::r,_ =>
   exfalso;have h1:=a6S hn (up x ((h.mem x).1 (by simp))) ho;have h2:=a6S hn (up y ((h.mem y).1 (by simp))) ho;have:=List.nodup_cons.1 (SS.nodup h.ss);exact this.1 (by rw [h1,h2];simp)
def fnc:Ac:=(3,0,0)
theorem a4h (a:Ac) (l:List Ac) (f:Nat->Int):reads (a::l) f=(if a.1=1 then [f 0] else [])++reads l (fun i=>f (i+1)):=by
 unfold reads;rw [List.length_cons,List.range_succ_eq_map,List.filterMap_cons,List.filterMap_map];have e : ∀ i,aAt (a::l) (i+1)=aAt l i:=fun i=>rfl;have e0:aAt (a::l) 0=a:=rfl;have e2:((fun i=>if (aAt (a::l) i).1=1 then some (f i) else none)∘Nat.succ)=fun i=>if (aAt l i).1=1 then some (f (i+1)) else none:=by funext i;rfl
 rw [e2,e0];by_cases h:a.1=1 <;> simp [h]
theorem a5r : ∀ (l r:List Ac) (f:Nat->Int),reads (l++fnc::r) f=reads (l++r) (fun i=>f (if i<l.length then i else i+1))
 | [],r,f=>by
   rw [List.nil_append,List.nil_append,a4h]
   rfl
 | a::l,r,f=>by
   rw [List.cons_append,List.cons_append,a4h,a4h,a5r l r];congr 1;congr 1;funext i;by_cases h:i<l.length
   ·rw [if_pos h,if_pos (by simp;omega)]
   rw [if_neg h,if_neg (by simp;omega)]
structure More1 (P P':Pg) (t0 q:Nat):Prop where
 len:P'.length=P.length
 lt:t0<P.length
 oth : ∀ t,t≠t0->thr P' t=thr P t
 own : ∃ l r,l.length=q/\thr P t0=l++r/\thr P' t0=l++fnc::r
def shf (t0 q t i:Nat):Nat:=if t=t0/\q<=i then i+1 else i
theorem b4F {t0 q t i j:Nat} (h:j<i):shf t0 q t j<shf t0 q t i:=by unfold shf;split <;> split <;> omega
theorem b2D {t0 q t i j:Nat} (h:shf t0 q t i=shf t0 q t j):i=j:=by unfold shf at h;split at h <;> split at h <;> omega
theorem b9i {t0 q i:Nat}:shf t0 q t0 i≠q:=by unfold shf;split <;> omega
theorem b2E {t0 q t i:Nat} (h : ¬ (t=t0/\i=q)) : ∃ j,i=shf t0 q t j:=by
 by_cases ht:t=t0/\q<i
 ·exact ⟨i-1,by unfold shf;rw [if_pos (by omega)];omega⟩
 exact ⟨i,by unfold shf;rw [if_neg (by omega)]⟩
section
variable {P P':Pg} {t0 q:Nat} (hM:More1 P P' t0 q)
include hM
theorem More1.at (t i:Nat):aAt (thr P' t) (shf t0 q t i)=aAt (thr P t) i:=by
 by_cases ht:t=t0
 ·subst ht;obtain ⟨l,r,h1,h2,h3⟩:=hM.own;rw [h2,h3];unfold aAt shf;rw [List.getD_eq_getElem?_getD,List.getD_eq_getElem?_getD];by_cases hi:q<=i
  ·rw [if_pos ⟨rfl,hi⟩,zp8 (by omega),zp8 (by omega),show i+1-l.length=(i-l.length)+1 by omega,List.getElem?_cons_succ]
  rw [if_neg (by omega),zp7 (by omega),zp7 (by omega)]
 unfold shf;rw [if_neg (by omega),hM.oth t ht]
theorem More1.atq:aAt (thr P' t0) q=fnc:=by
 obtain ⟨l,r,h1,h2,h3⟩:=hM.own;rw [h3];unfold aAt;rw [List.getD_eq_getElem?_getD,zp8 (by omega),h1,Nat.sub_self];rfl
theorem More1.lent (t:Nat):(thr P' t).length=if t=t0 then (thr P t).length+1 else (thr P t).length:=by
 by_cases ht:t=t0
 ·subst ht;obtain ⟨l,r,h1,h2,h3⟩:=hM.own;rw [if_pos rfl,h2,h3];simp;omega
 rw [if_neg ht,hM.oth t ht]
theorem More1.qle:q<=(thr P t0).length:=by
 obtain ⟨l,r,h1,h2,h3⟩:=hM.own;rw [h2];simp;omega
theorem More1.shf_len {t i:Nat}:shf t0 q t i<(thr P' t).length↔i<(thr P t).length:=by
 rw [hM.lent];have:=hM.qle;by_cases ht:t=t0
 ·subst ht;rw [if_pos rfl];unfold shf;split <;> omega
 rw [if_neg ht];unfold shf;rw [if_neg (by omega)]
end
structure RF (t0 q:Nat) (s' s:AS):Prop where
 dn : ∀ t i,s.dn t i=s'.dn t (shf t0 q t i)
 rd : ∀ t i,s.rd t i=s'.rd t (shf t0 q t i)
 bf:s.bf=s'.bf
 ce:s.ce=s'.ce
theorem RF.init (t0 q:Nat):RF t0 q AS.init AS.init:=⟨fun _ _=>rfl,fun _ _=>rfl,rfl,rfl⟩
section
variable {P P':Pg} {t0 q:Nat} (hM:More1 P P' t0 q) {s' s:AS} (hR:RF t0 q s' s)
include hM hR
theorem RF.out:b2L P' s'=b2L P s:=by
 unfold b2L;rw [hM.len,hR.ce];congr 1;refine a4o fun t _ => ?_;by_cases ht:t=t0
 ·subst ht;obtain ⟨l,r,h1,h2,h3⟩:=hM.own;rw [h2,h3,a5r];congr 1;funext i;rw [hR.rd];unfold shf;rw [h1];by_cases hi:i<q
  ·rw [if_pos hi,if_neg (by omega)]
  rw [if_neg hi,if_pos (by omega)]
 rw [hM.oth t ht];congr 1;funext i;rw [hR.rd];unfold shf;rw [if_neg (by omega)]
theorem RF.fence (k:Nat):RF t0 q (doA k P' s' t0 q) s:=by
 have e:=hM.atq;refine ⟨fun t i => ?_,fun t i => ?_,?_,?_⟩
 ·rw [hR.dn];simp only [doA,fup];by_cases ht:t=t0
  ·subst ht;have:shf t q t i≠q:=b9i;simp [fup,this]
  simp [fup,ht]
 ·rw [hR.rd];simp only [doA,e,fnc]
  rfl
 ·rw [hR.bf];simp only [doA,e,fnc];rfl
 rw [hR.ce];simp only [doA,e,fnc];rfl
theorem RF.act (k:Nat) (t i:Nat):RF t0 q (doA k P' s' t (shf t0 q t i)) (doA k P s t i):=by
 have e:=hM.at t i;have hsn : ∀ c,sn s' t c=sn s t c:=fun c=>by unfold sn;rw [hR.bf,hR.ce]
 refine ⟨fun u j => ?_,fun u j => ?_,?_,?_⟩
 ·simp only [doA,fup];by_cases hu:u=t
  ·subst hu;by_cases hj:j=i
   ·subst hj;simp
   have:shf t0 q u j≠shf t0 q u i:=fun h=>hj (b2D h);simp [fup,hj,this,hR.dn]
  simp [fup,hu,hR.dn]
 ·simp only [doA,e,fup];by_cases h1:(aAt (thr P t) i).1=1
  ·rw [if_pos h1,if_pos h1];by_cases hu:u=t
   ·subst hu;by_cases hj:j=i
    ·subst hj;simp [hsn]
    have:shf t0 q u j≠shf t0 q u i:=fun h=>hj (b2D h);simp [fup,hj,this,hR.rd]
   simp [fup,hu,hR.rd]
  rw [if_neg h1,if_neg h1];exact hR.rd u j
 ·simp only [doA,e,hR.bf]
 simp only [doA,e,hR.ce]
theorem RF.outB (t:Nat):RF t0 q (outB s' t) (outB s t):=by
 unfold Go.Am.outB;rw [hR.bf];cases hb:s'.bf t with
 | nil=>exact hR
 | cons x r=>exact ⟨hR.dn,hR.rd,by simp only [hR.bf],by simp only [hR.ce]⟩
theorem RF.may {k t i:Nat} (h:a7P k (thr P' t) (s'.t t) (shf t0 q t i)):a7P k (thr P t) (s.t t) i:=by
 obtain ⟨h1,h2,h3⟩:=h;refine ⟨(hR.dn t i).trans h1,fun j hj hm=>(hR.dn t j).trans (h2 _ (b4F hj) ?_),fun hk hf => ?_⟩
 ·rw [hM.at,hM.at];exact hm
 have:=h3 hk (by rw [hM.at];exact hf);show s.bf t=[];rw [hR.bf];exact this
end
theorem a9D {P P':Pg} {t0 q:Nat} (hM:More1 P P' t0 q) {k:Nat} {o:List Int} (h:Can k P' o):Can k P o:=by
 obtain ⟨s',h1,h2,h3⟩:=h;have key : ∃ s,Stps k P AS.init s/\RF t0 q s' s:=by
  clear h2 h3
  induction h1 with
  | refl=>exact ⟨_,.refl _,RF.init t0 q⟩
  | tail _ h ih =>
    obtain ⟨s,i1,i2⟩:=ih;cases h with
    | act t i ht hi hm =>
      by_cases hq:t=t0/\i=q
      ·obtain ⟨rfl,rfl⟩:=hq;exact ⟨s,i1,i2.fence hM k⟩
      obtain ⟨j,rfl⟩:=b2E hq;exact ⟨_,.tail i1 (.act t j (hM.len▸ht) (hM.shf_len.1 hi) (i2.may hM hm)),i2.act hM k t j⟩
    | out t ht hk hb=>exact ⟨_,.tail i1 (.out t (hM.len▸ht) hk (by rw [i2.bf];exact hb)),i2.outB hM t⟩
 obtain ⟨s,i1,i2⟩:=key;refine ⟨s,i1,fun t ht=>⟨fun i hi => ?_,?_⟩,by rw [<-h3];exact (i2.out hM).symm⟩
 ·rw [i2.dn];exact (h2 t (hM.len▸ht)).1 _ (hM.shf_len.2 hi)
 rw [i2.bf];exact (h2 t (hM.len▸ht)).2
theorem a8R {P P':Pg} {t0 q:Nat} (hM:More1 P P' t0 q) {o:List Int} (h:Can 1 P o):Can 1 P' o:=by
 obtain ⟨s,h1,h2,h3⟩:=h;have hqlen:q<(thr P' t0).length:=by have:=hM.qle;rw [hM.lent,if_pos rfl];omega

 have fence : ∀ {s':AS},Stps 1 P' AS.init s'->RF t0 q s' s->True:=fun _ _=>trivial;have doF : ∀ {s' s:AS},Stps 1 P' AS.init s'->RF t0 q s' s->(∀ j,j<q->s.dn t0 j=true) -> ∃ s'',Stps 1 P' AS.init s''/\RF t0 q s'' s/\s''.dn t0 q=true:=by
  intro s' s g1 g2 g3;cases hd:s'.dn t0 q with
  | true=>exact ⟨s',g1,g2,hd⟩
  | false =>
    refine ⟨_,.tail g1 (.act t0 q (hM.len▸hM.lt) hqlen ⟨hd,fun j hj _ => ?_,fun hk=>by cases hk⟩),g2.fence hM 1,by simp [doA]⟩;have:=g2.dn t0 j;unfold shf at this;rw [if_neg (by omega),g3 j hj] at this;exact this.symm
 have key : ∃ s',Stps 1 P' AS.init s'/\RF t0 q s' s:=by
  clear h2 h3 fence
  induction h1 with
  | refl=>exact ⟨_,.refl _,RF.init t0 q⟩
  | @tail u v _ h ih =>
    obtain ⟨s',i1,i2⟩:=ih;cases h with
    | out t ht hk hb=>cases hk
    | act t i ht hi hm =>
      have hall : ∀ j,j<i->u.dn t j=true:=fun j hj=>hm.2.1 j hj (.inl (by decide));by_cases hq:t=t0/\q<=i
      ·obtain ⟨rfl,hqi⟩:=hq;obtain ⟨s'',j1,j2,j3⟩:=doF i1 i2 (fun j hj=>hall j (by omega));refine ⟨_,.tail j1 (.act t (shf t q t i) (hM.len▸ht) (hM.shf_len.2 hi) ⟨(j2.dn t i).symm.trans hm.1,fun j hj _ => ?_,fun hk=>by cases hk⟩),j2.act hM 1 t i⟩;by_cases hjq:j=q
       ·subst hjq;exact j3
       obtain ⟨j',rfl⟩:=b2E (t0:=t) (q:=q) (t:=t) (i:=j) (by omega);have hlt:j'<i:=by
        refine Classical.byContradiction fun hn => ?_;rcases Nat.lt_or_eq_of_le (Nat.le_of_not_lt hn) with g | g
        ·have:=b4F (t0:=t) (q:=q) (t:=t) g;omega
        subst g;omega
       exact (j2.dn t j').symm.trans (hall j' hlt)
      refine ⟨_,.tail i1 (.act t (shf t0 q t i) (hM.len▸ht) (hM.shf_len.2 hi) ⟨(i2.dn t i).symm.trans hm.1,fun j hj _ => ?_,fun hk=>by cases hk⟩),i2.act hM 1 t i⟩;have e:shf t0 q t i=i:=by unfold shf;rw [if_neg hq]
      rw [e] at hj;have e2:shf t0 q t j=j:=by unfold shf;rw [if_neg (by omega)]
      have:=i2.dn t j;rw [e2] at this;exact this.symm.trans (hall j hj)
 obtain ⟨s',i1,i2⟩:=key;obtain ⟨s'',j1,j2,j3⟩:=doF i1 i2 (fun j hj=>(h2 t0 hM.lt).1 j (by have:=hM.qle;omega));refine ⟨s'',j1,fun t ht=>⟨fun i hi => ?_,?_⟩,by rw [<-h3];exact j2.out hM⟩
 ·by_cases hq:t=t0/\i=q
  ·rw [hq.1,hq.2];exact j3
  obtain ⟨j,rfl⟩:=b2E hq;rw [<-j2.dn];exact (h2 t (hM.len▸ht)).1 j (hM.shf_len.1 hi)
 rw [<-j2.bf];exact (h2 t (hM.len▸ht)).2
theorem b3Q {P P':Pg} {t0 q:Nat} (hM:More1 P P' t0 q) {o:List Int}:Can 1 P' o↔Can 1 P o:=⟨a9D hM,a8R hM⟩
theorem b2F {P:Pg} {t0:Nat} (h:t0<P.length) (l:List Ac) (t:Nat):thr (P.set t0 l) t=if t=t0 then l else thr P t:=by
 unfold thr;rw [List.getD_eq_getElem?_getD,List.getD_eq_getElem?_getD,List.getElem?_set];by_cases ht:t0=t
 ·subst ht;simp [h]
 rw [if_neg ht,if_neg (fun e=>ht e.symm)]
theorem b3R {P:Pg} {t0:Nat} (h:t0<P.length) {l r:List Ac} (e:thr P t0=l++r):More1 P (P.set t0 (l++fnc::r)) t0 l.length where
 len:=by simp
 lt:=h
 oth t ht:=by rw [b2F h,if_neg ht]
 own:=⟨l,r,rfl,e,by rw [b2F h,if_pos rfl]⟩
theorem b5S {P:Pg} (hv:a3O P=true) : ∀ l∈P,∀ a∈l,a5v a=true:=by
 unfold a3O at hv;rw [zp4,zp4] at hv;have h1:=hv.1.1;rw [List.all_eq_true] at h1;intro l hl a ha;have h:=h1 l hl;unfold a7R at h;rw [zp4,zp4] at h;have h2:=h.1.2;rw [List.all_eq_true] at h2;exact h2 a ha
theorem a8S {α β:Type} {f g:α->Option β} : ∀ {l:List α},(∀ a∈l,f a=g a)->l.filterMap f=l.filterMap g
 | [],_=>rfl
 | a::l,h=>by
   rw [List.filterMap_cons,List.filterMap_cons,h a (List.mem_cons_self ..),a8S fun b hb=>h b (List.mem_cons_of_mem _ hb)]
theorem a2x {l:List Ac} {m:Nat} (hm:m<=l.length) (r:Nat->Int):reads (l.take m) r=(List.range m).filterMap fun i=>if (aAt l i).1=1 then some (r i) else none:=by
 unfold reads;rw [List.length_take,Nat.min_eq_left hm];refine a8S fun i hi => ?_;have hi:=List.mem_range.1 hi;have e:aAt (l.take m) i=aAt l i:=by
  unfold aAt;rw [List.getD_eq_getElem?_getD,List.getD_eq_getElem?_getD,List.getElem?_take_of_lt hi]
 rw [e]
theorem b0t {l:List Ac} {m:Nat} (hm:m<l.length) (r:Nat->Int):reads (l.take (m+1)) r=reads (l.take m) r++if (aAt l m).1=1 then [r m] else []:=by
 rw [a2x hm,a2x (Nat.le_of_lt hm),List.range_succ,List.filterMap_append];congr 1;by_cases h:(aAt l m).1=1 <;> simp [h]
theorem a6a {l:List Ac} {m:Nat} (hm:m<=l.length) {r r':Nat->Int} (h : ∀ i,i<m->r i=r' i):reads (l.take m) r=reads (l.take m) r':=by
 rw [a2x hm,a2x hm];refine a8S fun i hi => ?_;rw [h i (List.mem_range.1 hi)]
theorem b3S {l:List Ac} {m:Nat} (hm:m<=l.length) (r:Nat->Int):(reads (l.take m) r).length<=m:=by
 rw [a2x hm];have:=List.length_filterMap_le (fun i=>if (aAt l i).1=1 then some (r i) else none) (List.range m)
 rwa [List.length_range] at this
structure PR (P:Pg) (s:Sta) (n:Nat->Nat) (rd:Nat->List Int):Prop where
 sp:SP P s n
 rd : ∀ t,rd t=reads ((thr P t).take (n t)) ((vw P s).rd t)
theorem PR.init (P:Pg):PR P s0 (fun _=>0) (fun _=>[]):=⟨SP.init P,fun t=>by rw [List.take_zero];rfl⟩
def rd' (P:Pg) (s:Sta) (n:Nat->Nat) (rd:Nat->List Int) (t:Nat):Nat->List Int :=
 if (aAt (thr P t) (n t)).1=1 then fup rd t (rd t++[s (11+(aAt (thr P t) (n t)).2.1.toNat)]) else rd
section
variable {P:Pg} (hv:VP P) {s:Sta} {n:Nat->Nat} {rd:Nat->List Int} (h:PR P s n rd)
include hv h
theorem PR.nb : ∀ t,(vw P s).bf t=[]:=by
 intro t;show (if t<3 then a2Y s t else [])=[]
 split
 ·rename_i ht;unfold a2Y;rw [h.sp.k.nb (by decide) t ht];rfl
 rfl
theorem PR.len (t:Nat):(rd t).length<=7:=by
 rw [h.rd t];exact Nat.le_trans (b3S (h.sp.l t) _) (Nat.le_trans (h.sp.l t) (hv.l7 t))
theorem PR.step {t:Nat} (ht:t<P.length) (hi:n t<(thr P t).length):PR P (doS P s t (n t)) (fup n t (n t+1)) (rd' P s n rd t):=by
 have ht3:=lt3 hv ht;refine ⟨SP.step hv h.sp ht hi,fun u => ?_⟩;have hb:=PR.nb hv h;have e:vw P (doS P s t (n t))=doA 3 P (vw P s) t (n t):=by
  rw [b7h (k:=1) hv h.sp.k.wf ht hi (.inl (by decide)) (.inl (hb t)),b5O (by decide)]
 have hrd : ∀ u j,(vw P (doS P s t (n t))).rd u j=if (aAt (thr P t) (n t)).1=1/\(u,j)=(t,n t) then (vw P s).ce (aAt (thr P t) (n t)).2.1 else (vw P s).rd u j:=fun u j=>by
  rw [e];exact a8g hb (t,n t) (u,j)
 have old : ∀ u j,j<n u->(vw P (doS P s t (n t))).rd u j=(vw P s).rd u j:=fun u j hj=>by
  rw [hrd,if_neg];rintro ⟨_,hh⟩;rw [Prod.mk.injEq] at hh;obtain ⟨rfl,rfl⟩:=hh;omega
 have hl:=h.sp.l u;by_cases hut:u=t
 ·subst hut;rw [a0g,b0t hi,a6a hl (old u),<-h.rd u];unfold rd';by_cases h1:(aAt (thr P u) (n u)).1=1
  ·rw [if_pos h1,if_pos h1,a0g,hrd,if_pos ⟨h1,rfl⟩];obtain ⟨c0,c1,_⟩:=b0m hv h.sp.k.wf ht hi (.inl h1);congr 2;show _=(if 0<=(aAt (thr P u) (n u)).2.1/\(aAt (thr P u) (n u)).2.1<=2 then _ else _)
   rw [if_pos ⟨c0,c1⟩]
  rw [if_neg h1,if_neg h1,List.append_nil]
 rw [a0c _ _ _ hut,a6a hl (old u),<-h.rd u];unfold rd';split
 ·rw [a0c _ _ _ hut]
 rfl
end
def c3 (x y z c:Int):Int:=if c=0 then x else if c=1 then y else z
theorem s3 (s:Sta) {c:Int} (h0:0<=c) (h2:c<=2):c3 (s 11) (s 12) (s 13) c=s (11+c.toNat):=by
 rcases (show c=0\/c=1\/c=2 by omega) with rfl | rfl | rfl <;> rfl
section
variable {P:Pg} (hv:VP P) {s:Sta} {n:Nat->Nat} {rd:Nat->List Int} (h:PR P s n rd)
include hv h
end
theorem PR.out {P:Pg} (hv:VP P) {s:Sta} {n:Nat->Nat} {rd:Nat->List Int} (h:PR P s n rd) (ho:a3u P s=true):(List.range P.length).flatMap rd++[s 11,s 12,s 13]=a4g P s:=by
 rw [<-a6P];unfold b2L;have h1:=(SP.over hv h.sp).1 ho;congr 1;refine a4o fun t ht => ?_;have ht:=List.mem_range.1 ht;rw [h.rd t,h1 t ht,List.take_length]
theorem IsO.up {k k':Nat} {P:Pg} {O O':List (List Int)} (h:IsO k P O) (h':IsO k' P O') (hc : ∀ o,Can k P o->Can k' P o):b7y O' O=[]:=by
 unfold b7y;rw [List.filter_eq_nil_iff];intro x hx;have:=(h'.mem x).2 (hc x ((h.mem x).1 hx));simp [this]
theorem b4G (P:Pg) (i:Nat) (t:List Ac):(eP P).set i (.list 3 (eT t))=eP (P.set i t):=by
 unfold eP enc;rw [List.map_set,List.map_set];rfl
theorem b5T {P:Pg} (hv:VP P):b6u Ar.std (eP P)=some (eP P):=by
 have hn3:=hv.n3;have el:Ar.std.len (eP P)=(P.length:Int):=by simp
 have e9 : ∀ Q:Pg,Ar.std.len (eP Q)=(Q.length:Int):=fun Q=>by simp
 have key:=a3H (step:=a5J Ar.std (eP P)) P.length (fun (_:Unit) (i:Nat)=>((i:Int),eP (P.take i++List.replicate (P.length-i) []))) (fun _ _=>True) (fun _=>eP P)
  (fun i _ hi _=>by
   refine ⟨(),trivial,?_⟩;unfold a5J;dsimp only;have hl7:=hv.l7 i;have hlen:(P.take i++List.replicate (P.length-i) ([]:List Ac)).length=P.length:=by simp;omega
   refine cnT (by simp;omega) (bt (a3t (a0T hi)) (bt (b7H (by omega)) (bck (b9h _) (bck (by simp) (bck (by
    rw [e9,hlen];simp;omega) ?_)))))
   have ew:Ar.std.wrp .i64 (Ar.std.zadd (i:Int) 1)=((i+1:Nat):Int):=by simp only [a0l,a0r];exact a3J (n:=100) (by omega) (by omega)
   rw [ew];have e2:Ar.std.lset (eP (P.take i++List.replicate (P.length-i) [])) (Ar.std.nat (i:Int)) (.list 3 (eT (thr P i)))=eP (P.take (i+1)++List.replicate (P.length-(i+1)) []):=by
    show (eP (P.take i++List.replicate (P.length-i) [])).set i (.list 3 (eT (thr P i)))=_;rw [b4G];congr 1;apply List.ext_getElem?;intro j;rw [a0s (a0T hi)];rcases Nat.lt_trichotomy j i with g | g | g
    ·rw [List.getElem?_set_ne (by omega),zp7 (by simp;omega),List.append_assoc,zp7 (by simp;omega)]
    ·subst g;rw [List.getElem?_set_self (by omega),List.append_assoc,zp8 (by simp;omega)];rw [show j-(P.take j).length=0 by simp;omega];rfl
    rw [List.getElem?_set_ne (by omega),zp8 (by simp;omega),zp8 (by simp;omega),List.getElem?_replicate,List.getElem?_replicate];simp only [List.length_take,List.length_append,List.length_singleton];by_cases h:j<P.length
    ·rw [if_pos (by omega),if_pos (by omega)]
    rw [if_neg (by omega),if_neg (by omega)]
   rw [e2])
  (fun _ _=>by
   unfold a5J;dsimp only;refine cnF (by simp) ?_;simp) () trivial
 obtain ⟨_,_,h⟩:=key;have e0:Ar.std.rep (Ar.std.len (eP P)) (.list 3 [])=eP (P.take 0++List.replicate (P.length-0) []):=by
  rw [el];show List.replicate P.length (D.list 3 [])=_;simp [eP,enc];exact .inr rfl
 unfold b6u;refine bck (by simp) (bck (by simp) (bck (by rw [el,b3y,decide_eq_true_eq];omega) ?_));rw [e0];exact bt (show iter (a5J Ar.std (eP P)) (0,eP (P.take 0++List.replicate (P.length-0) []))=_ from h) rfl
theorem b7J {P:Pg} (hv:a3O P=true) {t0:Nat} (h:t0<P.length) {l:List Ac} (h7:l.length<=7) (ha : ∀ a∈l,a5v a=true) (hw:nWk l=nWk (thr P t0)):a3O (P.set t0 l)=true:=by
 have hv':=hv;unfold a3O at hv ⊢;simp only [zp4,decide_eq_true_eq,List.all_eq_true] at hv ⊢;obtain ⟨⟨h1,h2⟩,h4⟩:=hv;have hm:(P.set t0 l).map nWk=P.map nWk:=by
  rw [List.map_set];apply List.ext_getElem?;intro j;by_cases hj:t0=j
  ·subst hj;rw [List.getElem?_set_self (by simpa using h),List.getElem?_map,a0T h,hw];rfl
  rw [List.getElem?_set_ne hj]
 refine ⟨⟨fun t ht => ?_,by simpa using h2⟩,by unfold allW at h4 ⊢;rw [hm];exact h4⟩;rcases List.mem_or_eq_of_mem_set ht with ht | rfl
 ·exact h1 t ht
 have:=h1 _ (List.mem_of_getElem? (a0T h));unfold a7R at this ⊢;simp only [zp4,decide_eq_true_eq,List.all_eq_true] at this ⊢;exact ⟨⟨h7,ha⟩,by rw [hw];exact this.2⟩
theorem wS {i:Nat} (h:i<=1000):Ar.std.wrp .i64 (Ar.std.zadd (i:Int) 1)=((i+1:Nat):Int):=by
 simp only [a0l,a0r];rw [a2W _ (by omega) (by omega)];rfl
theorem b7K {n:Nat} (hn:1<=n) (z:Int):btw 0 z ((n-1:Nat):Int)=decide (0<=z/\z<(n:Int)):=by
 unfold btw;by_cases h0:0<=z <;> by_cases h1:z<(n:Int)
 ·simp [h0,h1];omega
 ·simp [h0,h1];omega
 ·simp [h0,h1]
 simp [h0,h1]
theorem b9j {P:Pg} (h1:1<=P.length) (h2:P.length<=100):Ar.std.wrp .i64 (Ar.std.zsub (Ar.std.len (eP P)) 1)=((P.length-1:Nat):Int):=by
 have el:Ar.std.len (eP P)=(P.length:Int):=by simp
 simp only [el,a0l,a0R];rw [a2W _ (by omega) (by omega)];omega
def b8o (P:Pg) (t i:Nat):Pg:=P.set t ((thr P t).take i++fnc::(thr P t).drop i)
theorem b5U {P:Pg} (hv:VP P) {t i:Nat} (ht:t<P.length) (hi:i<=(thr P t).length):b8r Ar.std (eP P) (t:Int) (i:Int)=some (eP (b8o P t i)):=by
 have hl7:=hv.l7 t;have hX:(eT (thr P t)).length=(thr P t).length:=by simp [enc]
 have e:b6v (eT (thr P t)) (i:Int)=eT ((thr P t).take i++fnc::(thr P t).drop i):=by
  unfold b6v eT enc;rw [List.map_append,List.map_take,List.map_cons,List.map_drop];rfl
 unfold b8r;refine bt (b5T hv) (bt (a3t (a0T ht)) (bck (by simp) (bck (by rw [hX];simp;omega) (bck (by rw [hX];simp;omega) ?_))));rw [e];exact congrArg some (b4G P t _)
def fok (P:Pg) (a b:Int):Prop:=(0<=a/\a<(P.length:Int))/\(0<=b/\b<=((thr P a.toNat).length:Int))/\(thr P a.toNat).length<7
instance (P:Pg) (a b:Int):Decidable (fok P a b):=by unfold fok;infer_instance
theorem b9k {P:Pg} (hv:VP P) (a b:Int):((M65 Ar.std 0 a (Ar.std.wrp .i64 (Ar.std.zsub (Ar.std.len (eP P)) 1))).bind fun r8 =>
   bif r8 then
    (gt Ar.std (cL 3) (eP P) a).bind fun a10 =>
    (M65 Ar.std 0 b (Ar.std.len a10)).bind fun r15 =>
    bif r15 then
     some (Ar.std.zeq (Ar.std.len a10) 7)
    else
     some true
   else
    some true:Option (Bool))=some (!decide (fok P a b)):=by
 have hn1:=hv.n1;have hn3:=hv.n3;have hl7:=hv.l7 a.toNat;rw [b9j hn1 (by omega)];refine bt (a7S _ _ _) ?_;rw [b7K hn1];by_cases hr:0<=a/\a<(P.length:Int)
 ·rw [decide_eq_true hr];have el:Ar.std.len (eT (thr P a.toNat))=((thr P a.toNat).length:Int):=by simp
  refine cnT rfl (bt (b6V hr.1 (a0T (by omega))) (bt (a7S _ _ _) ?_));rw [el];by_cases hb:0<=b/\b<=((thr P a.toNat).length:Int)
  ·refine cnT (by unfold btw;simp [hb]) ?_;rw [a1H];by_cases h7:(thr P a.toNat).length=7
   ·rw [decide_eq_true (show ((thr P a.toNat).length:Int)=7 by omega),decide_eq_false (fun h:fok P a b=>by have:=h.2.2;omega)];rfl
   rw [decide_eq_false (show ¬ ((thr P a.toNat).length:Int)=7 by omega),decide_eq_true (show fok P a b from ⟨hr,hb,by omega⟩)];rfl
  rw [decide_eq_false (fun h:fok P a b=>hb h.2.1)];exact cnF (by unfold btw;simp;omega) rfl
 rw [decide_eq_false hr,decide_eq_false (fun h:fok P a b=>hr h.1)];exact cnF rfl rfl
theorem b5V {P:Pg} (hv:VP P) (a b:Int):(fok P a b->M47 Ar.std (eP P) a b=some (eP (b8o P a.toNat b.toNat),0))/\(¬ fok P a b->M47 Ar.std (eP P) a b=some ([],2)):=by
 have e:=b4i (VP.short hv);rw [VP.to hv] at e;have hc:=b9k hv a b;constructor
 ·intro h;rw [decide_eq_true h] at hc;have e9:=b5U hv (t:=a.toNat) (i:=b.toNat) (by have:=h.1;omega) (by have:=h.2.1;omega);rw [Int.toNat_of_nonneg h.1.1,Int.toNat_of_nonneg h.2.1.1] at e9;unfold M47;exact bt e (cnT rfl (bt hc (cnF rfl (bt e9 rfl))))
 intro h;rw [decide_eq_false h] at hc;unfold M47;exact bt e (cnT rfl (bt hc (cnT rfl rfl)))
theorem b7L {P:Pg} (hv:a3O P=true) {t i:Nat} (ht:t<P.length) (h7:(thr P t).length<7):a3O (b8o P t i)=true:=by
 refine b7J hv ht ?_ (fun a ha => ?_) ?_
 ·simp only [List.length_append,List.length_take,List.length_cons,List.length_drop];omega
 ·have hm:=b5S hv _ (List.mem_of_getElem? (a0T ht));rcases List.mem_append.1 ha with h | h
  ·exact hm a (List.mem_of_mem_take h)
  rcases List.mem_cons.1 h with h | h
  ·rw [h];rfl
  exact hm a (List.mem_of_mem_drop h)
 unfold nWk;rw [List.countP_append,List.countP_cons_of_neg (by decide),<-List.countP_append,List.take_append_drop]
theorem b3T {P:Pg} {t i:Nat} (ht:t<P.length) (hi:i<=(thr P t).length):More1 P (b8o P t i) t i:=by
 have h:=b3R ht (l:=(thr P t).take i) (r:=(thr P t).drop i) (List.take_append_drop i _).symm;rw [List.length_take,Nat.min_eq_left hi] at h;exact h
theorem b3U {O R:List (List Int)} (hO:O.length<=5000000) (hR:R.length<4294967296) (sO : ∀ x∈O,SmL x) (sR : ∀ x∈R,SmL x) (hs : ∀ x∈O,x∈R):iter (a9N Ar.std (a1v O) (a1v R)) 0=some (.inl ()):=by
 have:=a6C (step:=a9N Ar.std (a1v O) (a1v R)) O (fun _=>false) (.inr ()) (.inl ()) (fun i x hx hi=>by
  have hm:=List.mem_of_getElem? hx;have ew:Ar.std.wrp .i64 (Ar.std.zadd (i:Int) 1)=((i+1:Nat):Int):=by simp only [a0l,a0r];exact a3J (n:=5000001) (by omega) (by omega)
  unfold a9N;refine cnT (by simp [hi]) (bt (a6E hx) (bt (b7A hR sR (sO x hm)) ?_));rw [decide_eq_true (hs x hm),ew];rfl) (by
  unfold a9N;exact cnF (by simp) rfl)
 rw [this];have:(O.any fun _=>false)=false:=by simp
 rw [this];rfl
theorem b3V {P P':Pg} (hv:VP P) (hv':VP P') {t i:Nat} (hM:More1 P P' t i):iter (a9O Ar.std (eP P) (eP P')) 1=some (.inl ()):=by
 have step : ∀ k:Nat,1<=k->k<=3->a9O Ar.std (eP P) (eP P') (k:Int)=some (.inl ((k+1:Nat):Int)):=by
  intro k k1 k3;have hK:Kind k:=by unfold Kind;omega
  have kb:a2K (k:Int)=true:=by unfold a2K;simp;omega
  obtain ⟨R,hR,e1⟩:=b4E hv kb;obtain ⟨F,hF,e2⟩:=b4E hv' kb;rw [show ((k:Int)).toNat=k from rfl] at hR hF;have sR:=hR.sm hK hv;have sF:=hF.sm hK hv';have lR:=hR.len;have lF:=hF.len;unfold a9O;refine cnT (by simp;omega) (bt e2 (bt e1 (bt (v:=false) (cnT rfl (cnT rfl ?_)) (cnF rfl (bt (b3U (by omega) (by omega) sF sR (fun x hx=>(hR.mem x).2 (a9D hM ((hF.mem x).1 hx)))) ?_)))))
  ·by_cases h1:k=1
   ·subst h1;have hFR:F=R:=b2g hF.ss hR.ss fun x=>(hF.mem x).trans ((b3Q hM).trans (hR.mem x).symm);subst hFR;exact cnT rfl (by simp [Ar.std])
   exact cnF (by simp;omega) rfl
  rw [Sum.elim_inl,wS (by omega)]
 refine (a1p (step 1 (by omega) (by omega))).trans ((a1p (step 2 (by omega) (by omega))).trans ((a1p (step 3 (by omega) (by omega))).trans (a0N ?_)));unfold a9O;exact cnF (by simp) rfl
theorem b7M (P:Pg) (hP:P.length<9223372036854775808) (hl : ∀ t∈P,t.length<9223372036854775808) (a b:Int) (ha:0<=a/\a<256) (hb:0<=b/\b<256):M12 Ar.std (eP P) a b=some true:=by
 obtain ⟨q,e,hq⟩:=b6Z P hP hl;unfold M12;cases q with
 | true=>exact bt (v:=true) (bt e rfl) (cnT rfl (bt a9A rfl))
 | false =>
   have hS:=hq rfl;have e2:=b7C hS;cases hp:a3O P with
   | false =>
     rw [hp] at e2;exact bt (v:=true) (bt e (cnF rfl (bt e2 rfl))) (cnT rfl (bt a9A rfl))
   | true =>
     rw [hp] at e2;have hv:=VP.of hp;have hn1:=hv.n1;have hn3:=hv.n3;obtain ⟨m,rfl⟩:=zp9 ha.1;obtain ⟨n,rfl⟩:=zp9 hb.1;have el:Ar.std.len (eP P)=(P.length:Int):=by simp
     have ew:Ar.std.wrp .i64 (m:Int)=(m:Int):=by simp only [a0l];exact a2W _ (by omega) (by omega)
     have ew2:Ar.std.wrp .i64 (n:Int)=(n:Int):=by simp only [a0l];exact a2W _ (by omega) (by omega)
     have er:Ar.std.rem (m:Int) (P.length:Int)=((m%P.length:Nat):Int):=rfl;have ht:=Nat.mod_lt m (show 0<P.length by omega);refine bt (v:=false) (bt e (cnF rfl (bt e2 rfl))) (cnF rfl ?_);rw [el,ew,ew2,er];generalize m%P.length=t at ht;have hl7:=hv.l7 t;have elt:Ar.std.len (eT (thr P t))=((thr P t).length:Int):=by simp
     have ewl:Ar.std.wrp .i64 (Ar.std.zadd ((thr P t).length:Int) 1)=(((thr P t).length+1:Nat):Int):=wS (by omega);have hi:=Nat.mod_lt n (show 0<(thr P t).length+1 by omega);have er2:Ar.std.rem (n:Int) (((thr P t).length+1:Nat):Int)=((n%((thr P t).length+1):Nat):Int):=rfl;refine bnk (by rw [a1H,decide_eq_false_iff_not];omega) (bt (a3t (a0T ht)) ?_);rw [elt,ewl,er2];generalize n%((thr P t).length+1)=i at hi;refine bnk (by rw [a1H,decide_eq_false_iff_not];omega) ?_;have hr:=b5V hv (t:Int) (i:Int);rw [show ((t:Int)).toNat=t from rfl,show ((i:Int)).toNat=i from rfl] at hr;by_cases h7:(thr P t).length=7
     ·have hf : ¬ fok P (t:Int) (i:Int):=fun h=>by
       have:=h.2.2;rw [show ((t:Int)).toNat=t from rfl] at this;omega
      refine bt (hr.2 hf) (cnF rfl (bt (v:=true) (cnT rfl (cnT (by simp [h7]) (cnT rfl (bt a9A rfl)))) rfl))
     have hf:fok P (t:Int) (i:Int):=by
      unfold fok;rw [show ((t:Int)).toNat=t from rfl];exact ⟨⟨by omega,by omega⟩,⟨by omega,by omega⟩,by omega⟩
     have hv':=VP.of (b7L (i:=i) hp ht (by omega));refine bt (hr.1 hf) (cnT rfl (bt (b3V hv hv' (b3T ht (by omega))) ?_));rw [Sum.elim_inl];exact bt a9A rfl
end Go.Am
