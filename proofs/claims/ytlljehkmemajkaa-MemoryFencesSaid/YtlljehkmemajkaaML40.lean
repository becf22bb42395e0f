import Derived.Test.YtlljehkmemajkaaML15
import Derived.Test.YtlljehkmemajkaaGenp0
set_option maxRecDepth 100000
set_option maxHeartbeats 2000000
set_option linter.unusedVariables false
set_option linter.unusedSimpArgs false
set_option linter.unusedSectionVars false
namespace Go.Am
open Go
abbrev Pt:=Nat×Nat
def acA (P:Pg) (x:Pt):Ac:=aAt (thr P x.1) x.2
def a5J (a b:Ac):Prop:=a.1=3\/b.1=3\/a.2.1≠b.2.1\/(a.1≠2/\b.1≠2)
theorem a5J.symm {a b:Ac} (h:a5J a b):a5J b a:=by
 rcases h with h | h | h | h
 ·exact .inr (.inl h)
 ·exact .inl h
 ·exact .inr (.inr (.inl fun e=>h e.symm))
 exact .inr (.inr (.inr ⟨h.2,h.1⟩))
theorem b2R {a b:Ac} (h : ¬ a5J a b):a.1≠3/\b.1≠3/\a.2.1=b.2.1/\(a.1=2\/b.1=2):=by
 unfold a5J at h;refine ⟨fun e=>h (.inl e),fun e=>h (.inr (.inl e)),?_,?_⟩
 ·exact Classical.byContradiction fun e=>h (.inr (.inr (.inl e)))
 exact Classical.byContradiction fun e=>h (.inr (.inr (.inr ⟨fun g=>e (.inl g),fun g=>e (.inr g)⟩)))
def ex (P:Pg) (s:AS) (L:List Pt):AS:=L.foldl (fun s x=>doA 3 P s x.1 x.2) s
theorem b9Q {s u:AS} (h1:s.dn=u.dn) (h2:s.rd=u.rd) (h3:s.bf=u.bf) (h4:s.ce=u.ce):s=u:=by
 cases s;cases u;simp only at h1 h2 h3 h4;subst h1 h2 h3 h4
 rfl
section
variable {P:Pg} {s:AS}
theorem b6m {k:Nat} (hk:k≠2) (t i:Nat):doA k P s t i=doA 3 P s t i:=by simp [doA,hk]
theorem b4W (x:Pt) (y:Pt):(doA 3 P s x.1 x.2).dn y.1 y.2=if y=x then true else s.dn y.1 y.2:=by
 obtain ⟨t,i⟩:=x;obtain ⟨u,j⟩:=y;simp only [doA,fup,Prod.mk.injEq];by_cases h1:u=t
 ·subst h1;by_cases h2:j=i <;> simp [fup,h2]
 simp [fup,h1]
theorem a3Q (x:Pt):(doA 3 P s x.1 x.2).bf=s.bf:=by simp [doA]
theorem a6g (x:Pt) (c:Int):(doA 3 P s x.1 x.2).ce c=if (acA P x).1=2/\c=(acA P x).2.1 then (acA P x).2.2 else s.ce c:=by
 simp only [doA,acA,fup];by_cases h:(aAt (thr P x.1) x.2).1=2
 ·simp [h,fup]
 simp [h]
theorem a8v (hb : ∀ t,s.bf t=[]) (x y:Pt):(doA 3 P s x.1 x.2).rd y.1 y.2=if (acA P x).1=1/\y=x then s.ce (acA P x).2.1 else s.rd y.1 y.2:=by
 obtain ⟨t,i⟩:=x;obtain ⟨u,j⟩:=y;simp only [doA,acA,fup,Prod.mk.injEq];by_cases h:(aAt (thr P t) i).1=1
 ·by_cases h1:u=t
  ·subst h1;by_cases h2:j=i <;> simp [fup,h,sn,hb,h2]
  simp [fup,h,h1]
 simp [h]
theorem b4o (hb : ∀ t,s.bf t=[]) {x y:Pt} (hxy:x≠y) (hi:a5J (acA P x) (acA P y)):doA 3 P (doA 3 P s x.1 x.2) y.1 y.2=doA 3 P (doA 3 P s y.1 y.2) x.1 x.2:=by
 have hbx : ∀ t,(doA 3 P s x.1 x.2).bf t=[]:=fun t=>by rw [a3Q];exact hb t
 have hby : ∀ t,(doA 3 P s y.1 y.2).bf t=[]:=fun t=>by rw [a3Q];exact hb t
 have ne1 : ¬ ((acA P y).1=1/\(acA P x).1=2/\(acA P y).2.1=(acA P x).2.1):=by
  rintro ⟨h1,h2,h3⟩;rcases hi with h | h | h | h
  ·omega
  ·omega
  ·exact h h3.symm
  exact h.1 h2
 have ne2 : ¬ ((acA P x).1=1/\(acA P y).1=2/\(acA P x).2.1=(acA P y).2.1):=by
  rintro ⟨h1,h2,h3⟩;rcases hi with h | h | h | h
  ·omega
  ·omega
  ·exact h h3
  exact h.2 h2
 have ne3 : ¬ ((acA P x).1=2/\(acA P y).1=2/\(acA P x).2.1=(acA P y).2.1):=by
  rintro ⟨h1,h2,h3⟩;rcases hi with h | h | h | h
  ·omega
  ·omega
  ·exact h h3
  exact h.2 h2
 refine b9Q ?_ ?_ ?_ ?_
 ·funext t i;have:=fun (s:AS) (x:Pt)=>b4W (P:=P) (s:=s) x (t,i);simp only at this;rw [this,this,this,this];by_cases h1:(t,i)=x <;> by_cases h2:(t,i)=y <;> simp [h1,h2]
 ·funext t i;have e1:=a8v (P:=P) hbx y (t,i);have e2:=a8v (P:=P) hby x (t,i);have e3:=a8v (P:=P) hb x (t,i);have e4:=a8v (P:=P) hb y (t,i);simp only at e1 e2 e3 e4;rw [e1,e2,e3,e4,a6g,a6g];by_cases h1:(acA P y).1=1/\(t,i)=y
  ·have h2 : ¬ ((acA P x).1=1/\(t,i)=x):=fun h=>hxy (h.2.symm.trans h1.2);have h3 : ¬ ((acA P x).1=2/\(acA P y).2.1=(acA P x).2.1):=fun h=>ne1 ⟨h1.1,h⟩;rw [if_pos h1,if_neg h2,if_neg h3,if_pos h1]
  rw [if_neg h1,if_neg h1];by_cases h2:(acA P x).1=1/\(t,i)=x
  ·have h3 : ¬ ((acA P y).1=2/\(acA P x).2.1=(acA P y).2.1):=fun h=>ne2 ⟨h2.1,h⟩;rw [if_pos h2,if_pos h2,if_neg h3]
  rw [if_neg h2,if_neg h2]
 ·rw [a3Q,a3Q,a3Q,a3Q]
 funext c;rw [a6g,a6g,a6g,a6g];by_cases h1:(acA P y).1=2/\c=(acA P y).2.1
 ·have h2 : ¬ ((acA P x).1=2/\c=(acA P x).2.1):=fun h=>ne3 ⟨h.1,h1.1,h.2.symm.trans h1.2⟩;rw [if_pos h1,if_neg h2,if_pos h1]
 rw [if_neg h1,if_neg h1]
end
theorem b8f {P:Pg} : ∀ (L:List Pt) (s:AS),(ex P s L).bf=s.bf
 | [],_=>rfl
 | x::L,s=>(b8f L (doA 3 P s x.1 x.2)).trans (a3Q x)
theorem b4X {P:Pg} (s:AS) (L M:List Pt):ex P s (L++M)=ex P (ex P s L) M:=by unfold ex;rw [List.foldl_append]
theorem b2S {P:Pg} {f:Pt} {l2:List Pt} : ∀ (l1:List Pt) (s:AS),(∀ t,s.bf t=[])->(∀ y∈l1,y≠f/\a5J (acA P y) (acA P f))->ex P s (l1++f::l2)=ex P s (f::(l1++l2))
 | [],_,_,_=>rfl
 | y::l1,s,hb,h=>by
   have hb' : ∀ t,(doA 3 P s y.1 y.2).bf t=[]:=fun t=>by rw [a3Q];exact hb t
   have ih:=b2S (f:=f) (l2:=l2) l1 (doA 3 P s y.1 y.2) hb' fun z hz=>h z (List.mem_cons_of_mem _ hz);obtain ⟨h1,h2⟩:=h y (List.mem_cons_self ..);show ex P (doA 3 P s y.1 y.2) (l1++f::l2)=_;rw [ih];show ex P (doA 3 P (doA 3 P s y.1 y.2) f.1 f.2) (l1++l2)=ex P (doA 3 P (doA 3 P s f.1 f.2) y.1 y.2) (l1++l2);rw [b4o hb h1 h2]
theorem b6n {P:Pg} (pos:Pt->Nat) (before:Pt->Pt->Prop) (A:Pt->Prop)
  (H : ∀ L:List Pt,L≠[]->L.Pairwise (fun x y=>pos x<pos y)->(∀ y∈L,A y) -> ∃ f∈L,(∀ y∈L,y≠f->before f y) /\ ∀ y∈L,pos y<pos f->a5J (acA P y) (acA P f)) :
  ∀ (n:Nat) (L:List Pt),L.length=n->L.Pairwise (fun x y=>pos x<pos y)->(∀ y∈L,A y) -> ∀ s:AS,(∀ t,s.bf t=[]) -> ∃ L',L'.Perm L/\L'.Pairwise before/\ex P s L'=ex P s L:=by
 intro n
 induction n with
 | zero =>
   intro L hL _ _ s _;obtain rfl:=List.length_eq_zero_iff.1 hL;exact ⟨[],.refl _,.nil,rfl⟩
 | succ n ih =>
   intro L hL hs hA s hb;obtain ⟨f,hf,h1,h2⟩:=H L (by intro e;rw [e] at hL;cases hL) hs hA;obtain ⟨l1,l2,rfl⟩:=List.append_of_mem hf;have hs':=hs;rw [List.pairwise_append] at hs;obtain ⟨p1,p2,p3⟩:=hs;rw [List.pairwise_cons] at p2;have hlt : ∀ y∈l1,pos y<pos f:=fun y hy=>p3 y hy f (by simp);have hsub:(l1++l2).Sublist (l1++f::l2):=List.Sublist.append (List.Sublist.refl _) (List.sublist_cons_self ..);have hbf : ∀ t,(doA 3 P s f.1 f.2).bf t=[]:=fun t=>by rw [a3Q];exact hb t
   obtain ⟨M,m1,m2,m3⟩:=ih (l1++l2) (by simp at hL ⊢;omega) (hs'.sublist hsub) (fun y hy=>hA y (hsub.subset hy)) _ hbf;refine ⟨f::M,(List.Perm.cons f m1).trans List.perm_middle.symm,List.pairwise_cons.2 ⟨fun y hy => ?_,m2⟩,?_⟩
   ·have hy:=m1.subset hy;refine h1 y (hsub.subset hy) fun e => ?_;subst e;rcases List.mem_append.1 hy with hy | hy
    ·exact Nat.lt_irrefl _ (hlt y hy)
    exact Nat.lt_irrefl _ (p2.1 y hy)
   rw [b2S l1 s hb fun y hy=>⟨fun e=>by subst e;exact Nat.lt_irrefl _ (hlt y hy),h2 y (List.mem_append_left _ hy) (hlt y hy)⟩];exact m3
inductive Trc (k:Nat) (P:Pg):List Pt->Prop
 | nil:Trc k P []
 | snoc {L:List Pt} {x:Pt} (h:Trc k P L) (h1:x.1<P.length) (h2:x.2<(thr P x.1).length) (h3:x∉L) (h4 : ∀ j,j<x.2->must k (acA P x) (acA P (x.1,j))->(x.1,j)∈L):Trc k P (L++[x])
theorem b8g {P:Pg} (y:Pt) : ∀ (L:List Pt) (s:AS),(ex P s L).dn y.1 y.2=true↔y∈L\/s.dn y.1 y.2=true
 | [],s=>by simp [ex]
 | x::L,s=>by
   have e:ex P s (x::L)=ex P (doA 3 P s x.1 x.2) L:=rfl;rw [e,b8g y L,b4W];by_cases h:y=x <;> simp [h]
theorem a6h {P:Pg} (y:Pt) (L:List Pt):(ex P AS.init L).dn y.1 y.2=true↔y∈L:=by
 rw [b8g];simp [AS.init]
theorem a9S {k:Nat} (hk:k≠2) {P:Pg} {u:AS}:Stps k P AS.init u ↔ ∃ L,Trc k P L/\u=ex P AS.init L:=by
 constructor
 ·intro h
  induction h with
  | refl=>exact ⟨[],.nil,rfl⟩
  | tail h h' ih =>
    obtain ⟨L,hL,rfl⟩:=ih;cases h' with
    | out t ht hk2=>exact absurd hk2 hk
    | act t i ht hi hm =>
      refine ⟨L++[(t,i)],.snoc hL ht hi ?_ fun j hj hmu => ?_,?_⟩
      ·intro hx;have:=(a6h (P:=P) (t,i) L).2 hx;have h1:(ex P AS.init L).dn t i=false:=hm.1;simp only at this;rw [h1] at this;cases this
      ·exact (a6h (P:=P) (t,j) L).1 (hm.2.1 j hj hmu)
      rw [b4X,b6m hk];rfl
 rintro ⟨L,hL,rfl⟩
 induction hL with
 | nil=>exact .refl _
 | @snoc L x hL h1 h2 h3 h4 ih =>
   refine .tail ih ?_;rw [b4X];have:ex P (ex P AS.init L) [x]=doA k P (ex P AS.init L) x.1 x.2:=by rw [b6m hk];rfl
   rw [this];refine .act _ _ h1 h2 ⟨?_,fun j hj hmu => ?_,fun hk2=>absurd hk2 hk⟩
   ·show (ex P AS.init L).dn x.1 x.2=false;rw [Bool.eq_false_iff];exact fun h=>h3 ((a6h x L).1 h)
   exact (a6h (P:=P) (x.1,j) L).2 (h4 j hj hmu)
theorem Trc.pos {k:Nat} {P:Pg} {L:List Pt} (h:Trc k P L) : ∃ pos:Pt->Nat,L.Pairwise (fun x y=>pos x<pos y)/\(∀ y∈L,pos y<L.length) /\
  ∀ x∈L,∀ j,j<x.2->must k (acA P x) (acA P (x.1,j))->(x.1,j)∈L/\pos (x.1,j)<pos x:=by
 induction h with
 | nil=>exact ⟨fun _=>0,.nil,fun y hy=>(by cases hy),fun y hy=>(by cases hy)⟩
 | @snoc L x hL h1 h2 h3 h4 ih =>
   obtain ⟨pos,p1,p2,p3⟩:=ih;have hne : ∀ y∈L,y≠x:=fun y hy e=>h3 (e▸hy);have e : ∀ y∈L,(if y=x then L.length else pos y)=pos y:=fun y hy=>if_neg (hne y hy)
   refine ⟨fun y=>if y=x then L.length else pos y,?_,?_,?_⟩
   ·rw [List.pairwise_append];refine ⟨?_,by simp,fun y hy z hz => ?_⟩
    ·refine (List.Pairwise.imp_of_mem ?_ p1);intro a b ha hb hab;show (if a=x then L.length else pos a)<(if b=x then L.length else pos b)
     rw [e a ha,e b hb];exact hab
    rw [List.mem_singleton] at hz;subst hz;show (if y=z then L.length else pos y)<(if z=z then L.length else pos z)
    rw [e y hy,if_pos rfl];exact p2 y hy
   ·intro y hy;rw [List.length_append,List.length_singleton];rcases List.mem_append.1 hy with hy | hy
    ·simp only [e y hy];have:=p2 y hy;omega
    rw [List.mem_singleton] at hy;subst hy;simp
   intro y hy j hj hmu;rcases List.mem_append.1 hy with hy | hy
   ·obtain ⟨q1,q2⟩:=p3 y hy j hj hmu;simp only [e y hy,e _ q1];exact ⟨List.mem_append_left _ q1,q2⟩
   rw [List.mem_singleton] at hy;subst hy;have q1:=h4 j hj hmu;simp only [e _ q1,if_true];exact ⟨List.mem_append_left _ q1,p2 _ q1⟩
theorem Trc.dom {k:Nat} {P:Pg} {L:List Pt} (h:Trc k P L) : ∀ x∈L,x.1<P.length/\x.2<(thr P x.1).length:=by
 induction h with
 | nil=>exact fun y hy=>(by cases hy)
 | snoc hL h1 h2 h3 h4 ih =>
   intro y hy;rcases List.mem_append.1 hy with hy | hy
   ·exact ih y hy
   rw [List.mem_singleton] at hy;subst hy;exact ⟨h1,h2⟩
def Whole (P:Pg) (L:List Pt):Prop := ∀ t i,t<P.length->i<(thr P t).length->(t,i)∈L
theorem a6i {P:Pg} {L:List Pt}:b5M P (ex P AS.init L)↔Whole P L:=by
 constructor
 ·intro h t i ht hi;exact (a6h (P:=P) (t,i) L).1 ((h t ht).1 i hi)
 intro h t ht;exact ⟨fun i hi=>(a6h (P:=P) (t,i) L).2 (h t i ht hi),by rw [b8f];rfl⟩
theorem b2T {k:Nat} (hk:k≠2) {P:Pg} {o:List Int}:Can k P o ↔ ∃ L,Trc k P L/\Whole P L/\b3k P (ex P AS.init L)=o:=by
 constructor
 ·rintro ⟨s,h1,h2,h3⟩;obtain ⟨L,hL,rfl⟩:=(a9S hk).1 h1;exact ⟨L,hL,a6i.1 h2,h3⟩
 rintro ⟨L,h1,h2,h3⟩;exact ⟨_,(a9S hk).2 ⟨L,h1,rfl⟩,a6i.2 h2,h3⟩
theorem least {α:Type} (f:α->Nat) (p:α->Prop) (h : ∃ a,p a) : ∃ a,p a /\ ∀ b,p b->f a<=f b:=by
 have key : ∀ (n:Nat) (a:α),f a<n->p a -> ∃ a,p a /\ ∀ b,p b->f a<=f b:=by
  intro n
  induction n with
  | zero=>intro a h;omega
  | succ n ih =>
    intro a ha hp;by_cases hb : ∃ b,p b/\f b<f a
    ·obtain ⟨b,h1,h2⟩:=hb;exact ih b (by omega) h1
    exact ⟨a,hp,fun b hb'=>Nat.le_of_not_lt fun hlt=>hb ⟨b,hb',hlt⟩⟩
 obtain ⟨a,ha⟩:=h;exact key _ a (Nat.lt_succ_self _) ha
def cfl (P:Pg) (x y:Pt):Prop:=x.1≠y.1 /\ ¬ a5J (acA P x) (acA P y)
def inP (P:Pg) (x:Pt):Prop:=x.1<P.length/\x.2<(thr P x.1).length
def stn (P:Pg) (t a b:Nat):Prop:=inP P (t,a)/\inP P (t,b)/\(acA P (t,a)).1≠3/\(acA P (t,b)).1≠3/\(a=b\/(a<b/\(acA P (t,a)).2.1≠(acA P (t,b)).2.1))
def b2U (P:Pg) (t a b:Nat):Prop := ∃ c,a<c/\c<b/\(acA P (t,c)).1=3
structure NC (P:Pg):Prop where
 n2 : ∀ t a b u c d,stn P t a b->stn P u c d->cfl P (t,b) (u,c)->cfl P (u,d) (t,a)->(a<b->b2U P t a b)/\(c<d->b2U P u c d)
 n3 : ∀ t a b u c d v e f,t≠v->stn P t a b->stn P u c d->stn P v e f->cfl P (t,b) (u,c)->cfl P (u,d) (v,e)->cfl P (v,f) (t,a)->(a<b->b2U P t a b)/\(c<d->b2U P u c d)/\(e<f->b2U P v e f)
def b2V (P:Pg):Prop := ∀ x y,inP P x->inP P y->x.1≠y.1->a5J (acA P x) (acA P y)
def lexB (x y:Pt):Prop:=x.1<y.1\/(x.1=y.1/\x.2<y.2)
theorem b2W {L:List Pt} (h:L≠[]) : ∃ f∈L,∀ y∈L,y≠f->lexB f y:=by
 obtain ⟨x,hx⟩:=List.exists_mem_of_ne_nil L h;obtain ⟨t,⟨i,hi⟩,h2⟩:=least (fun t=>t) (fun t => ∃ i,(t,i)∈L) ⟨x.1,x.2,hx⟩;obtain ⟨f,hf,h4⟩:=least (fun i=>i) (fun i=>(t,i)∈L) ⟨i,hi⟩;refine ⟨(t,f),hf,fun y hy hne => ?_⟩;obtain ⟨u,j⟩:=y;have h5:t<=u:=h2 u ⟨j,hy⟩;unfold lexB;simp only;rcases Nat.lt_or_eq_of_le h5 with g | g
 ·exact .inl g
 subst g;have h6:f<=j:=h4 j hy;rcases Nat.lt_or_eq_of_le h6 with g | g
 ·exact .inr ⟨rfl,g⟩
 subst g;exact absurd rfl hne
theorem a8w {P:Pg} (hn:b2V P) {L:List Pt} (hL:Trc 3 P L) : ∃ L',L'.Perm L/\L'.Pairwise lexB/\ex P AS.init L'=ex P AS.init L:=by
 obtain ⟨pos,p1,_,p3⟩:=hL.pos;have hdom:=hL.dom;refine b6n (P:=P) pos lexB (fun x=>x∈L) ?_ L.length L rfl p1 (fun y hy=>hy) AS.init (fun _=>rfl);intro M hne hs hsub;obtain ⟨f,hf,h1⟩:=b2W hne;refine ⟨f,hf,h1,fun y hy hlt => ?_⟩;by_cases ht:y.1=f.1
 ·obtain ⟨u,j⟩:=y;obtain ⟨t,i⟩:=f;simp only at ht;subst ht;refine Classical.byContradiction fun hi => ?_;obtain ⟨n1,n2,n3,_⟩:=b2R hi;have hne2:(u,j)≠(u,i):=fun e=>by rw [e] at hlt;omega
  have hj:i<j:=by
   rcases h1 _ hy hne2 with g | ⟨_,g⟩
   ·simp at g
   exact g
  have:pos (u,i)<pos (u,j):=(p3 (u,j) (hsub _ hy) i hj (.inr (.inr (.inr n3)))).2;omega
 exact hn y f (hdom _ (hsub _ hy)) (hdom _ (hsub _ hf)) ht
theorem b4p : ∀ {L M:List Pt},L.Perm M->L.Pairwise lexB->M.Pairwise lexB->L=M:=by
 intro L M hp h1 h2;refine hp.eq_of_pairwise (fun a b _ _ hab hba => ?_) h1 h2;unfold lexB at hab hba;omega
theorem a7c {P:Pg} (hn:b2V P) {o o':List Int} (h:Can 3 P o) (h':Can 3 P o'):o=o':=by
 obtain ⟨L,hL,hw,ho⟩:=(b2T (by decide)).1 h;obtain ⟨M,hM,hw',ho'⟩:=(b2T (by decide)).1 h';obtain ⟨L1,a1,a2,a3⟩:=a8w hn hL;obtain ⟨M1,b1,b2,b3⟩:=a8w hn hM;have hnd : ∀ {K:List Pt},K.Pairwise lexB->K.Nodup:=fun hk=>hk.imp fun hab e=>by
  subst e;unfold lexB at hab;omega
 have hp:L1.Perm M1:=by
  refine (List.perm_ext_iff_of_nodup (hnd a2) (hnd b2)).2 fun x => ?_;constructor
  ·intro hx;have:=hL.dom x (a1.mem_iff.1 hx);exact b1.mem_iff.2 (hw' x.1 x.2 this.1 this.2)
  intro hx;have:=hM.dom x (b1.mem_iff.1 hx);exact a1.mem_iff.2 (hw x.1 x.2 this.1 this.2)
 have:=b4p hp a2 b2;subst this;rw [<-ho,<-ho',<-a3,b3]
def fenced (P:Pg):Prop := ∀ t i,i+1<(thr P t).length->(acA P (t,i)).1=3\/(acA P (t,i+1)).1=3
structure SP (P:Pg) (s:Sta) (n:Nat->Nat):Prop where
 k:WfK 1 P s
 b : ∀ t,t<3 -> ∀ j,btI (s t) j=decide (j<n t)
 l : ∀ t,n t<=(thr P t).length
theorem SP.init (P:Pg):SP P s0 (fun _=>0):=⟨WfK.init 1 P,fun t ht j=>by unfold btI s0;simp,fun t=>Nat.zero_le _⟩
theorem b6o (P:Pg) (s:Sta) (t i:Nat) {u:Nat} (hu:u<3):doS P s t i u=dS s t i u:=by
 unfold doS;split
 ·rw [a0c _ _ _ (by omega)]
 split
 ·rw [a0c _ _ _ (by omega)]
 rfl
section
variable {P:Pg} (hv:VP P) {s:Sta} {n:Nat->Nat} (h:SP P s n)
include hv h
theorem SP.step {t:Nat} (ht:t<P.length) (hi:n t<(thr P t).length):SP P (doS P s t (n t)) (fup n t (n t+1)):=by
 have ht3:=lt3 hv ht;have hb:btI (s t) (n t)=false:=by rw [h.b t ht3];simp
 have hw:=b4O hv h.k ht hi hb;have e:a4h 1 P s t (n t)=doS P s t (n t):=by unfold a4h;simp
 rw [e] at hw;refine ⟨hw,fun u hu j => ?_,fun u => ?_⟩
 ·rw [b6o P s t _ hu];unfold dS;by_cases hut:u=t
  ·subst hut;rw [a0g,a0g,a5j,h.b u hu];rw [Bool.eq_iff_iff];simp;omega
  rw [a0c _ _ _ hut,a0c _ _ _ hut];exact h.b u hu j
 by_cases hut:u=t
 ·subst hut;rw [a0g];omega
 rw [a0c _ _ _ hut];exact h.l u
theorem SP.over:a3x P s=true ↔ ∀ t,t<P.length->n t=(thr P t).length:=by
 unfold a3x;rw [List.all_eq_true];constructor
 ·intro hh t ht;have:=hh t (List.mem_range.2 ht);rw [zp4,decide_eq_true_eq] at this;obtain ⟨d0,d1⟩:=h.k.wf.d t (lt3 hv ht);have hl:=h.l t;rcases Nat.lt_or_eq_of_le hl with g | g
  ·have:=(a6Q d0 d1).1 this.1 _ g;rw [h.b t (lt3 hv ht)] at this;simp at this
  exact g
 intro hh t ht;have ht:=List.mem_range.1 ht;obtain ⟨d0,d1⟩:=h.k.wf.d t (lt3 hv ht);rw [zp4,decide_eq_true_eq];refine ⟨(a6Q d0 d1).2 fun i hi => ?_,?_⟩
 ·rw [h.b t (lt3 hv ht),hh t ht];simpa using hi
 rw [h.k.nb (by decide) t (lt3 hv ht)];rfl
end
def run (P:Pg):Sta->List Nat->Option Sta
 | s,[]=>some s
 | s,t::w=>if t<P.length/\nx s t<(thr P t).length then run P (doS P s t (nx s t)) w else none
def ren (m t:Nat):Nat:=if t<m then m-1-t else t
section
variable (a b:Int)
end
theorem b4Y {l:List Ac} (h:l.length<=1000000):M83 Ar.std (eT l)=some (eT l):=by
 have e:ap Ar.std [] (eT l)=some (eT l):=a6M (by omega);unfold M83;by_cases h0:0<l.length
 ·exact cnT (by simp;omega) (bt e rfl)
 obtain rfl:l=[]:=List.length_eq_zero_iff.1 (by omega);refine cnF (by simp) ?_;rw [show ap Ar.std [] (eT [])=some [] from e];simp [both]
theorem b9R (l:List Ac) {i:Nat} (h:i<l.length) (x:Ac) {z:Nat} (hz:z=i):Ar.std.lset (eT l) z (.agg [.int .i64 x.1,.int .i64 x.2.1,.int .i64 x.2.2])=eT (l.set i x):=by
 subst hz;show (eT l).set z _=_;unfold eT enc;rw [List.map_set];rfl
theorem gcT {l:List Ac} {i:Nat} {x:Ac} (h:l[i]?=some x) {z:Nat} (hz:z=i):gc Ar.std cA3 (eT l) z=some x:=by
 subst hz;have h2:(eT l)[z]?=some (cA3.en x):=by
  unfold eT enc;rw [List.getElem?_map,h];rfl
 unfold gc;have:Ar.std.lget (eT l) z=some (cA3.en x):=h2;rw [this];rfl
theorem b8h (l:List Ac):scalars (eT l)=true:=by
 unfold scalars eT enc;rw [List.all_eq_true];intro x hx;obtain ⟨y,_,rfl⟩:=List.mem_map.1 hx
 rfl
theorem b4Z {P:Pg} (hv:VP P):M41 Ar.std (eP P) (eP P)=some true:=by
 have hn3:=hv.n3;unfold M41;refine cnT (by simp) ?_;have key:=a3L (step:=a7w Ar.std (eP P) (eP P)) P (fun _=>false) (.inr ()) (.inl ()) (fun i t ht hi=>by
  have et:t=thr P i:=by rw [a0x hi] at ht;exact (Option.some.inj ht).symm
  have hl7:=hv.l7 i;rw [<-et] at hl7;unfold a7w;refine cnT (by simp [hi]) (bt (a1O ht) (bt (a1O ht) (cnT (by simp) ?_)));have k2:=a3L (step:=a7v Ar.std (eT t) (eT t)) t (fun _=>false) (.inr ()) (.inl ()) (fun j x hx hj=>by
   unfold a7v;refine cnT (by simp [hj]) (bt (a0U hx) (bt (a0U hx) (cnT (by simp [Ar.std]) ?_)));simp only [a0n,a0o];rw [a3o _ (by omega) (by omega)];rfl) (by
   unfold a7v;exact cnF (by simp) rfl)
  refine bt k2 ?_;have:t.any (fun _=>false)=false:=by rw [List.any_eq_false];intro x _ h;cases h
  rw [this];simp only [cond_false,Sum.elim_inl,a0n,a0o];rw [a3o _ (by omega) (by omega)];rfl) (by
  unfold a7w;exact cnF (by simp) rfl)
 refine bt key ?_;have:P.any (fun _=>false)=false:=by rw [List.any_eq_false];intro x _ h;cases h
 rw [this];rfl
def gI:List (Int×Int)->Int->Option Int
 | [],_=>none
 | p::l,k=>if p.1=k then some p.2 else gI l k
def pI:List (Int×Int)->Int->Int->List (Int×Int)
 | [],k,m=>[(k,m)]
 | p::l,k,m=>if p.1=k then (k,m)::l else p::pI l k m
theorem b8i (l:List (Int×Int)) (k m v:Int):gI (pI l k m) v=if k=v then some m else gI l v:=by
 induction l with
 | nil=>rfl
 | cons p l ih =>
   simp only [pI];by_cases h:p.1=k
   ·rw [if_pos h];simp only [gI];by_cases hv:k=v
    ·rw [if_pos hv,if_pos hv]
    rw [if_neg hv,if_neg hv,if_neg (by rw [h];exact hv)]
   rw [if_neg h];simp only [gI,ih];by_cases hv:p.1=v
   ·rw [if_pos hv,if_neg (fun e=>h (hv.trans e.symm)),if_pos hv]
   rw [if_neg hv,if_neg hv]
theorem b6p (l:List (Int×Int)) (k m:Int):(pI l k m).map (·.1)=if k∈l.map (·.1) then l.map (·.1) else l.map (·.1)++[k]:=by
 induction l with
 | nil=>rfl
 | cons p l ih =>
   simp only [pI];by_cases h:p.1=k
   ·rw [if_pos h];simp [h]
   rw [if_neg h];simp only [List.map_cons,ih];by_cases hk:k∈l.map (·.1)
   ·rw [if_pos hk,if_pos (List.mem_cons_of_mem _ hk)]
   rw [if_neg hk,if_neg (by rw [List.mem_cons];rintro (e | e);exact h e.symm;exact hk e)];rfl
theorem or8 : ∀ (a:Fin 8) (t:Fin 3),(a.val ||| 2 ^ t.val)<8:=by decide +kernel
structure Cov (P:Pg) (Pr:Nat->Nat->Prop) (q:Ac->Prop) (l:List (Int×Int)):Prop where
 nd:(l.map (·.1)).Nodup
 no : ∀ v,gI l v=none -> ∀ t i,Pr t i->q (acA P (t,i))->(acA P (t,i)).2.1≠v
 ye : ∀ v m,gI l v=some m->0<=v/\v<=2/\(∃ t i,Pr t i/\q (acA P (t,i))/\(acA P (t,i)).2.1=v) /\ ∃ a:Nat,m=a/\a<8 /\ ∀ t,t<3->(a.testBit t=true ↔ ∃ i,Pr t i/\q (acA P (t,i))/\(acA P (t,i)).2.1=v)
theorem Cov.nil (P:Pg) (q:Ac->Prop) {Pr:Nat->Nat->Prop} (h : ∀ t i,¬ Pr t i):Cov P Pr q [] :=
 ⟨.nil,fun v _ t i hp=>absurd hp (h t i),fun v m h=>by cases h⟩
theorem Cov.put {P:Pg} {Pr Pr':Nat->Nat->Prop} {q:Ac->Prop} {l:List (Int×Int)} (h:Cov P Pr q l) {t i:Nat} (ht:t<3) (hq:q (acA P (t,i))) {c:Int} (hc:(acA P (t,i)).2.1=c) (c0:0<=c) (c2:c<=2)
  (hp : ∀ u j,Pr' u j↔Pr u j\/(u=t/\j=i)) : ∃ a:Nat,a<8/\(gI l c=none/\a=0\/gI l c=some (a:Int))/\Cov P Pr' q (pI l c ((a ||| 2 ^ t:Nat):Int)):=by
 have hor : ∀ {a u:Nat},(a ||| 2 ^ t).testBit u=true↔a.testBit u=true\/u=t:=fun {a u}=>by
  rw [Nat.testBit_or,Nat.testBit_two_pow,Bool.or_eq_true,decide_eq_true_eq];constructor
  ·rintro (h | h);exact .inl h;exact .inr h.symm
  rintro (h | h);exact .inl h;exact .inr h.symm
 have key : ∀ a:Nat,a<8->(∀ u,u<3->(a.testBit u=true ↔ ∃ j,Pr u j/\q (acA P (u,j))/\(acA P (u,j)).2.1=c))->Cov P Pr' q (pI l c ((a ||| 2 ^ t:Nat):Int)):=by
  intro a ha hb;refine ⟨?_,fun v hv u j hpr hqu => ?_,fun v m hm => ?_⟩
  ·rw [b6p];split
   ·exact h.nd
   rename_i hn;rw [List.nodup_append];exact ⟨h.nd,by simp,fun x hx y hy=>by simp at hy;subst hy;exact fun e=>hn (e▸hx)⟩
  ·rw [b8i] at hv;split at hv
   ·cases hv
   rename_i hne;rcases (hp u j).1 hpr with hpr | ⟨rfl,rfl⟩
   ·exact h.no v hv u j hpr hqu
   rw [hc];exact hne
  rw [b8i] at hm;split at hm
  ·rename_i hcv;subst hcv;cases hm;refine ⟨c0,c2,⟨t,i,(hp t i).2 (.inr ⟨rfl,rfl⟩),hq,hc⟩,_,rfl,or8 ⟨a,ha⟩ ⟨t,ht⟩,fun u hu => ?_⟩;rw [hor,hb u hu];constructor
   ·rintro (⟨j,g1,g2,g3⟩ | rfl)
    ·exact ⟨j,(hp u j).2 (.inl g1),g2,g3⟩
    exact ⟨i,(hp u i).2 (.inr ⟨rfl,rfl⟩),hq,hc⟩
   rintro ⟨j,g1,g2,g3⟩;rcases (hp u j).1 g1 with g1 | ⟨g1,_⟩
   ·exact .inl ⟨j,g1,g2,g3⟩
   exact .inr g1
  rename_i hne;obtain ⟨h1,h2,⟨t',i',h3,h4,h5⟩,b,h6,h7,h8⟩:=h.ye v m hm;refine ⟨h1,h2,⟨t',i',(hp t' i').2 (.inl h3),h4,h5⟩,b,h6,h7,fun u hu=>(h8 u hu).trans ?_⟩;constructor
  ·rintro ⟨j,g1,g2,g3⟩;exact ⟨j,(hp u j).2 (.inl g1),g2,g3⟩
  rintro ⟨j,g1,g2,g3⟩;rcases (hp u j).1 g1 with g1 | ⟨rfl,rfl⟩
  ·exact ⟨j,g1,g2,g3⟩
  exact absurd (hc.symm.trans g3) hne
 cases hg:gI l c with
 | none =>
   refine ⟨0,by omega,.inl ⟨rfl,rfl⟩,key 0 (by omega) fun u hu => ?_⟩;constructor
   ·intro h;simp at h
   rintro ⟨j,g1,g2,g3⟩;exact absurd g3 (h.no c hg u j g1 g2)
 | some m =>
   obtain ⟨_,_,_,a,rfl,h7,h8⟩:=h.ye c m hg;exact ⟨a,h7,.inr rfl,key a h7 h8⟩
theorem IsO.one {k:Nat} (hK:Kind k) {P:Pg} (hv:VP P) (hn:b2V P) {O:List (List Int)} (h:IsO k P O) {o:List Int} (ho:Can 3 P o):O=[o]:=by
 have up : ∀ o',Can k P o'->Can 3 P o':=fun o' h=>by
  rcases hK with rfl | rfl | rfl
  ·exact h.strict.loose
  ·exact h.loose
  exact h
 have hne:=h.ne hK hv
 match O,hne with
 | [x],_ =>
   have:=a7c hn (up x ((h.mem x).1 (by simp))) ho;rw [this]
 | x::y::r,_ =>
   exfalso;have h1:=a7c hn (up x ((h.mem x).1 (by simp))) ho;have h2:=a7c hn (up y ((h.mem y).1 (by simp))) ho;have:=List.nodup_cons.1 (SS.nodup h.ss);exact this.1 (by rw [h1,h2];simp)
def fnc:Ac:=(3,0,0)
theorem a4k (a:Ac) (l:List Ac) (f:Nat->Int):reads (a::l) f=(if a.1=1 then [f 0] else [])++reads l (fun i=>f (i+1)):=by
 unfold reads;rw [List.length_cons,List.range_succ_eq_map,List.filterMap_cons,List.filterMap_map];have e : ∀ i,aAt (a::l) (i+1)=aAt l i:=fun i=>rfl;have e0:aAt (a::l) 0=a:=rfl;have e2:((fun i=>if (aAt (a::l) i).1=1 then some (f i) else none)∘Nat.succ)=fun i=>if (aAt l i).1=1 then some (f (i+1)) else none:=by funext i;rfl
 rw [e2,e0];by_cases h:a.1=1 <;> simp [h]
theorem a5w : ∀ (l r:List Ac) (f:Nat->Int),reads (l++fnc::r) f=reads (l++r) (fun i=>f (if i<l.length then i else i+1))
 | [],r,f=>by
   rw [List.nil_append,List.nil_append,a4k]
   rfl
 | a::l,r,f=>by
   rw [List.cons_append,List.cons_append,a4k,a4k,a5w l r];congr 1;congr 1;funext i;by_cases h:i<l.length
   ·rw [if_pos h,if_pos (by simp;omega)]
   rw [if_neg h,if_neg (by simp;omega)]
structure More1 (P P':Pg) (t0 q:Nat):Prop where
 len:P'.length=P.length
 lt:t0<P.length
 oth : ∀ t,t≠t0->thr P' t=thr P t
 own : ∃ l r,l.length=q/\thr P t0=l++r/\thr P' t0=l++fnc::r
def shf (t0 q t i:Nat):Nat:=if t=t0/\q<=i then i+1 else i
theorem b2X {t0 q t i j:Nat} (h:shf t0 q t i=shf t0 q t j):i=j:=by unfold shf at h;split at h <;> split at h <;> omega
section
variable {P P':Pg} {t0 q:Nat} (hM:More1 P P' t0 q)
include hM
theorem More1.at (t i:Nat):aAt (thr P' t) (shf t0 q t i)=aAt (thr P t) i:=by
 by_cases ht:t=t0
 ·subst ht;obtain ⟨l,r,h1,h2,h3⟩:=hM.own;rw [h2,h3];unfold aAt shf;rw [List.getD_eq_getElem?_getD,List.getD_eq_getElem?_getD];by_cases hi:q<=i
  ·rw [if_pos ⟨rfl,hi⟩,zp8 (by omega),zp8 (by omega),show i+1-l.length=(i-l.length)+1 by omega,List.getElem?_cons_succ]
  rw [if_neg (by omega),zp7 (by omega),zp7 (by omega)]
 unfold shf;rw [if_neg (by omega),hM.oth t ht]
theorem More1.lent (t:Nat):(thr P' t).length=if t=t0 then (thr P t).length+1 else (thr P t).length:=by
 by_cases ht:t=t0
 ·subst ht;obtain ⟨l,r,h1,h2,h3⟩:=hM.own;rw [if_pos rfl,h2,h3];simp;omega
 rw [if_neg ht,hM.oth t ht]
end
structure RF (t0 q:Nat) (s' s:AS):Prop where
 dn : ∀ t i,s.dn t i=s'.dn t (shf t0 q t i)
 rd : ∀ t i,s.rd t i=s'.rd t (shf t0 q t i)
 bf:s.bf=s'.bf
 ce:s.ce=s'.ce
theorem RF.init (t0 q:Nat):RF t0 q AS.init AS.init:=⟨fun _ _=>rfl,fun _ _=>rfl,rfl,rfl⟩
section
variable {P P':Pg} {t0 q:Nat} (hM:More1 P P' t0 q) {s' s:AS} (hR:RF t0 q s' s)
include hM hR
theorem RF.out:b3k P' s'=b3k P s:=by
 unfold b3k;rw [hM.len,hR.ce];congr 1;refine a4t fun t _ => ?_;by_cases ht:t=t0
 ·subst ht;obtain ⟨l,r,h1,h2,h3⟩:=hM.own;rw [h2,h3,a5w];congr 1;funext i;rw [hR.rd];unfold shf;rw [h1];by_cases hi:i<q
  ·rw [if_pos hi,if_neg (by omega)]
  rw [if_neg hi,if_pos (by omega)]
 rw [hM.oth t ht];congr 1;funext i;rw [hR.rd];unfold shf;rw [if_neg (by omega)]
theorem RF.act (k:Nat) (t i:Nat):RF t0 q (doA k P' s' t (shf t0 q t i)) (doA k P s t i):=by
 have e:=hM.at t i;have hsn : ∀ c,sn s' t c=sn s t c:=fun c=>by unfold sn;rw [hR.bf,hR.ce]
 refine ⟨fun u j => ?_,fun u j => ?_,?_,?_⟩
 ·simp only [doA,fup];by_cases hu:u=t
  ·subst hu;by_cases hj:j=i
   ·subst hj;simp
   have:shf t0 q u j≠shf t0 q u i:=fun h=>hj (b2X h);simp [fup,hj,this,hR.dn]
  simp [fup,hu,hR.dn]
 ·simp only [doA,e,fup];by_cases h1:(aAt (thr P t) i).1=1
  ·rw [if_pos h1,if_pos h1];by_cases hu:u=t
   ·subst hu;by_cases hj:j=i
    ·subst hj;simp [hsn]
    have:shf t0 q u j≠shf t0 q u i:=fun h=>hj (b2X h);simp [fup,hj,this,hR.rd]
   simp [fup,hu,hR.rd]
  rw [if_neg h1,if_neg h1];exact hR.rd u j
 ·simp only [doA,e,hR.bf]
 simp only [doA,e,hR.ce]
theorem RF.outB (t:Nat):RF t0 q (outB s' t) (outB s t):=by
 unfold Go.Am.outB;rw [hR.bf];cases hb:s'.bf t with
 | nil=>exact hR
 | cons x r=>exact ⟨hR.dn,hR.rd,by simp only [hR.bf],by simp only [hR.ce]⟩
end
def nfP (P:Pg):Pg:=P.map fun l=>l.filter wk
theorem b6q {P:Pg} (f:List Ac->List Ac) (h0:f []=[]) (t:Nat):thr (P.map f) t=f (thr P t):=by
 unfold thr;rw [List.getD_eq_getElem?_getD,List.getD_eq_getElem?_getD,List.getElem?_map];cases P[t]? with
 | none=>exact h0.symm
 | some l=>rfl
def sep:List Ac->List Ac
 | []=>[]
 | [a]=>[a]
 | a::b::l=>a::fnc::sep (b::l)
def allF (P:Pg):Pg:=P.map fun l=>sep (l.filter wk)
theorem a6j : ∀ {l:List Ac},(∀ a∈l,wk a=true)->(sep l).filter wk=l
 | [],_=>rfl
 | [a],h=>by rw [sep,List.filter_cons_of_pos (h a (by simp))];rfl
 | a::b::l,h=>by
   rw [sep,List.filter_cons_of_pos (h a (by simp)),List.filter_cons_of_neg (by simp [wk,fnc]),a6j fun c hc=>h c (by simp at hc ⊢;right;exact hc)]
theorem b2Y : ∀ {l:List Ac} {a:Ac},a∈sep l->a∈l\/a=fnc
 | [],_,h=>by cases h
 | [b],_,h => .inl h
 | b::c::l,a,h=>by
   rw [sep] at h;rcases List.mem_cons.1 h with h | h
   ·exact .inl (by rw [h];simp)
   rcases List.mem_cons.1 h with h | h
   ·exact .inr h
   rcases b2Y h with h | h
   ·exact .inl (List.mem_cons_of_mem _ h)
   exact .inr h
theorem a7d : ∀ l:List Ac,(sep l).length=2*l.length-1
 | []=>rfl
 | [a]=>rfl
 | a::b::l=>by
   rw [sep];have:=a7d (b::l);simp only [List.length_cons] at this ⊢;omega
theorem b2Z (l:List Ac):nWk (sep (l.filter wk))=nWk l:=by
 unfold nWk;rw [List.countP_eq_length_filter,List.countP_eq_length_filter,a6j fun a ha=>(List.mem_filter.1 ha).2]
theorem VP.allF {P:Pg} (hv:a3h P=true):a3h (allF P)=true:=by
 unfold a3h allW Go.Am.allF at *;rw [zp4,zp4] at *;obtain ⟨⟨h1,h2⟩,h3⟩:=hv;have e:(P.map fun l=>sep (l.filter wk)).map nWk=P.map nWk:=by
  rw [List.map_map];exact List.map_congr_left fun l _=>b2Z l
 rw [e,List.length_map];refine ⟨⟨?_,h2⟩,h3⟩;rw [List.all_eq_true] at *;intro l hl;obtain ⟨m,hm,rfl⟩:=List.mem_map.1 hl;have h4:=h1 m hm;unfold a6P at *;rw [zp4,zp4,decide_eq_true_eq,decide_eq_true_eq] at *;rw [b2Z];refine ⟨⟨?_,?_⟩,h4.2⟩
 ·rw [a7d];have:(m.filter wk).length<=4:=by rw [<-List.countP_eq_length_filter];exact h4.2
  omega
 rw [List.all_eq_true] at *;intro a ha;rcases b2Y ha with h | h
 ·exact h4.1.2 a (List.mem_filter.1 h).1
 rw [h];rfl
theorem b6r {P:Pg} (hv:a3h P=true) : ∀ l∈P,∀ a∈l,a5A a=true:=by
 unfold a3h at hv;rw [zp4,zp4] at hv;have h1:=hv.1.1;rw [List.all_eq_true] at h1;intro l hl a ha;have h:=h1 l hl;unfold a6P at h;rw [zp4,zp4] at h;have h2:=h.1.2;rw [List.all_eq_true] at h2;exact h2 a ha
theorem a9h {α β:Type} {f g:α->Option β} : ∀ {l:List α},(∀ a∈l,f a=g a)->l.filterMap f=l.filterMap g
 | [],_=>rfl
 | a::l,h=>by
   rw [List.filterMap_cons,List.filterMap_cons,h a (List.mem_cons_self ..),a9h fun b hb=>h b (List.mem_cons_of_mem _ hb)]
theorem a2z {l:List Ac} {m:Nat} (hm:m<=l.length) (r:Nat->Int):reads (l.take m) r=(List.range m).filterMap fun i=>if (aAt l i).1=1 then some (r i) else none:=by
 unfold reads;rw [List.length_take,Nat.min_eq_left hm];refine a9h fun i hi => ?_;have hi:=List.mem_range.1 hi;have e:aAt (l.take m) i=aAt l i:=by
  unfold aAt;rw [List.getD_eq_getElem?_getD,List.getD_eq_getElem?_getD,List.getElem?_take_of_lt hi]
 rw [e]
theorem b0L {l:List Ac} {m:Nat} (hm:m<l.length) (r:Nat->Int):reads (l.take (m+1)) r=reads (l.take m) r++if (aAt l m).1=1 then [r m] else []:=by
 rw [a2z hm,a2z (Nat.le_of_lt hm),List.range_succ,List.filterMap_append];congr 1;by_cases h:(aAt l m).1=1 <;> simp [h]
theorem a6k {l:List Ac} {m:Nat} (hm:m<=l.length) {r r':Nat->Int} (h : ∀ i,i<m->r i=r' i):reads (l.take m) r=reads (l.take m) r':=by
 rw [a2z hm,a2z hm];refine a9h fun i hi => ?_;rw [h i (List.mem_range.1 hi)]
theorem b4q {l:List Ac} {m:Nat} (hm:m<=l.length) (r:Nat->Int):(reads (l.take m) r).length<=m:=by
 rw [a2z hm];have:=List.length_filterMap_le (fun i=>if (aAt l i).1=1 then some (r i) else none) (List.range m)
 rwa [List.length_range] at this
structure PR (P:Pg) (s:Sta) (n:Nat->Nat) (rd:Nat->List Int):Prop where
 sp:SP P s n
 rd : ∀ t,rd t=reads ((thr P t).take (n t)) ((vw P s).rd t)
theorem PR.init (P:Pg):PR P s0 (fun _=>0) (fun _=>[]):=⟨SP.init P,fun t=>by rw [List.take_zero];rfl⟩
def rd' (P:Pg) (s:Sta) (n:Nat->Nat) (rd:Nat->List Int) (t:Nat):Nat->List Int :=
 if (aAt (thr P t) (n t)).1=1 then fup rd t (rd t++[s (11+(aAt (thr P t) (n t)).2.1.toNat)]) else rd
section
variable {P:Pg} (hv:VP P) {s:Sta} {n:Nat->Nat} {rd:Nat->List Int} (h:PR P s n rd)
include hv h
theorem PR.nb : ∀ t,(vw P s).bf t=[]:=by
 intro t;show (if t<3 then a3a s t else [])=[]
 split
 ·rename_i ht;unfold a3a;rw [h.sp.k.nb (by decide) t ht];rfl
 rfl
theorem PR.len (t:Nat):(rd t).length<=7:=by
 rw [h.rd t];exact Nat.le_trans (b4q (h.sp.l t) _) (Nat.le_trans (h.sp.l t) (hv.l7 t))
theorem PR.step {t:Nat} (ht:t<P.length) (hi:n t<(thr P t).length):PR P (doS P s t (n t)) (fup n t (n t+1)) (rd' P s n rd t):=by
 have ht3:=lt3 hv ht;refine ⟨SP.step hv h.sp ht hi,fun u => ?_⟩;have hb:=PR.nb hv h;have e:vw P (doS P s t (n t))=doA 3 P (vw P s) t (n t):=by
  rw [b7J (k:=1) hv h.sp.k.wf ht hi (.inl (by decide)) (.inl (hb t)),b6m (by decide)]
 have hrd : ∀ u j,(vw P (doS P s t (n t))).rd u j=if (aAt (thr P t) (n t)).1=1/\(u,j)=(t,n t) then (vw P s).ce (aAt (thr P t) (n t)).2.1 else (vw P s).rd u j:=fun u j=>by
  rw [e];exact a8v hb (t,n t) (u,j)
 have old : ∀ u j,j<n u->(vw P (doS P s t (n t))).rd u j=(vw P s).rd u j:=fun u j hj=>by
  rw [hrd,if_neg];rintro ⟨_,hh⟩;rw [Prod.mk.injEq] at hh;obtain ⟨rfl,rfl⟩:=hh;omega
 have hl:=h.sp.l u;by_cases hut:u=t
 ·subst hut;rw [a0g,b0L hi,a6k hl (old u),<-h.rd u];unfold rd';by_cases h1:(aAt (thr P u) (n u)).1=1
  ·rw [if_pos h1,if_pos h1,a0g,hrd,if_pos ⟨h1,rfl⟩];obtain ⟨c0,c1,_⟩:=b0E hv h.sp.k.wf ht hi (.inl h1);congr 2;show _=(if 0<=(aAt (thr P u) (n u)).2.1/\(aAt (thr P u) (n u)).2.1<=2 then _ else _)
   rw [if_pos ⟨c0,c1⟩]
  rw [if_neg h1,if_neg h1,List.append_nil]
 rw [a0c _ _ _ hut,a6k hl (old u),<-h.rd u];unfold rd';split
 ·rw [a0c _ _ _ hut]
 rfl
end
def c3 (x y z c:Int):Int:=if c=0 then x else if c=1 then y else z
theorem s3 (s:Sta) {c:Int} (h0:0<=c) (h2:c<=2):c3 (s 11) (s 12) (s 13) c=s (11+c.toNat):=by
 rcases (show c=0\/c=1\/c=2 by omega) with rfl | rfl | rfl <;> rfl
section
variable {P:Pg} (hv:VP P) {s:Sta} {n:Nat->Nat} {rd:Nat->List Int} (h:PR P s n rd)
include hv h
end
theorem PR.out {P:Pg} (hv:VP P) {s:Sta} {n:Nat->Nat} {rd:Nat->List Int} (h:PR P s n rd) (ho:a3x P s=true):(List.range P.length).flatMap rd++[s 11,s 12,s 13]=a4j P s:=by
 rw [<-a6Z];unfold b3k;have h1:=(SP.over hv h.sp).1 ho;congr 1;refine a4t fun t ht => ?_;have ht:=List.mem_range.1 ht;rw [h.rd t,h1 t ht,List.take_length]
theorem a9i (a:Ac):b5i Ar.std a.1 a.2.1 a.2.2=some (!wk a):=rfl
def kw (l:List Ac):List Ac:=l.filter wk
theorem a7e {l:List Ac} {i:Nat} {x:Ac} (h:l[i]?=some x):kw (l.take (i+1))=bif wk x then kw (l.take i)++[x] else kw (l.take i):=by
 unfold kw;rw [a0i h,List.filter_append];cases hd:wk x <;> simp [hd]
theorem b5a (l:List Ac) (i:Nat):(kw (l.take i)).length<=i:=by
 unfold kw;have:=List.length_filter_le wk (l.take i);have h2:(l.take i).length<=i:=by simp;omega
 omega
theorem b8j (l:List Ac) {n:Nat} (h:n<=l.length):fz Ar.std (eT l) 0 (n:Int)=some (eT (l.take n)):=by
 unfold fz;have hz:Ar.std.zle (Ar.std.zadd 0 (n:Int)) (Ar.std.len (eT l))=true:=by simp;omega
 rw [hz,cond_true];simp only [a0o,b2c,Int.zero_add,Int.toNat_zero,List.drop_zero,Nat.sub_zero,Int.toNat_natCast];unfold eT enc;rw [<-List.map_take]
theorem b6s {l:List Ac} (hl:l.length<=1000000) :
  ∃ l':List Ac,b6R Ar.std 0 (l.length:Int) (eT l)=some (0,((kw l).length:Int),eT l')/\l'.take (kw l).length=kw l/\(kw l).length<=l'.length:=by
 have ew : ∀ i:Nat,i<=1000000->Ar.std.wrp .i64 (Ar.std.zadd (i:Int) 1)=((i+1:Nat):Int):=fun i hi=>by
  simp only [a0n,a0o];exact a3w (n:=5000001) (by omega) (by omega)
 have ez : ∀ i:Nat,Ar.std.nat (Ar.std.zadd 0 (i:Int))=i:=fun i=>by simp
 have e0:b0X Ar.std 0 (l.length:Int) (eT l)=some ((l.findIdx? fun x => !wk x).elim (-1) (fun i=>(i:Int))):=by
  have key:=a8d (step:=a4J Ar.std 0 (l.length:Int) (eT l)) l (fun x => !wk x) (fun i=>Sum.inr (i:Int)) (Sum.inl ()) (fun i a ha hi=>by
   unfold a4J;refine cnT (by simp [hi]) (bc (bck (by simp [hi]) ?_));rw [ez];refine bt (gcT ha rfl) (bt (a9i a) ?_);rw [ew i (by omega)];cases wk a <;> rfl) (by
   unfold a4J;exact cnF (by simp) rfl)
  unfold b0X;refine bt key ?_;exact a8e _ _
 unfold b6R;have hself:kw (l.take l.length)=kw l:=by rw [List.take_length]
 cases hf:l.findIdx? fun x => !wk x with
 | none =>
   rw [hf] at e0;rw [List.findIdx?_eq_none_iff] at hf;have e:kw l=l:=by
    unfold kw;rw [List.filter_eq_self];intro x hx;have:=hf x hx;simpa using this
   rw [e];exact ⟨l,bt e0 (cnT (by simp) rfl),by rw [List.take_length],Nat.le_refl _⟩
 | some q =>
   rw [hf] at e0;obtain ⟨hq,hq1,hq2⟩:=List.findIdx?_eq_some_iff_getElem.1 hf;simp only [Option.elim_some] at e0;have hkq : ∀ i,i<=q->kw (l.take i)=l.take i:=by
    intro i
    induction i with
    | zero=>intro _;rfl
    | succ i ih =>
      intro hi;have hx:l[i]?=some l[i]:=zp1 (by omega);have h2:=hq2 i (by omega);have h3:wk l[i]=true:=by simpa using h2
      rw [a7e hx,ih (by omega),h3,cond_true,a0i hx]
   have hxq:l[q]?=some l[q]:=zp1 hq;have hkq1:kw (l.take (q+1))=l.take q:=by
    have h3:wk l[q]=false:=by simpa using hq1
    rw [a7e hxq,h3,cond_false,hkq q (Nat.le_refl _)]
   obtain ⟨⟨w,m⟩,⟨h1,h2,h3,h4,h5⟩,e⟩:=a1g (step:=a5N Ar.std 0 (l.length:Int)) (l.length-q-1) (fun (s:Nat×List Ac) (i:Nat)=>((s.1:Int),((q+1+i:Nat):Int),eT s.2))
    (fun i s=>s.1=(kw (l.take (q+1+i))).length/\s.2.take s.1=kw (l.take (q+1+i))/\s.2.length=l.length/\(∀ j,q+1+i<=j->s.2[j]?=l[j]?)/\s.1<=q+i) (fun s=>((s.1:Int),eT s.2))
    (fun i s hi hR=>by
     obtain ⟨w,m⟩:=s;obtain ⟨g1,g2,g3,g4,g5⟩:=hR;simp only at g1 g2 g3 g4 g5;have hx:l[q+1+i]?=some l[q+1+i]:=zp1 (by omega);have mx:m[q+1+i]?=some l[q+1+i]:=by rw [g4 _ (Nat.le_refl _),hx]
     have hsucc:=a7e hx;rw [show q+1+i+1=q+1+(i+1) by omega] at hsucc;cases hd:wk l[q+1+i] with
     | false =>
       rw [hd,cond_false] at hsucc;refine ⟨(w,m),⟨by rw [hsucc];exact g1,by rw [hsucc];exact g2,g3,fun j hj=>g4 j (by omega),by simp only;omega⟩,?_⟩;unfold a5N;dsimp only;rw [ez];refine cnT (by simp;omega) (bc (bck (by simp;omega) (bt (gcT mx rfl) (bt (a9i _) ?_))));rw [hd,ew (q+1+i) (by omega)];rfl
     | true =>
       rw [hd,cond_true] at hsucc;have htk:(m.set w l[q+1+i]).take (w+1)=kw (l.take (q+1+i))++[l[q+1+i]]:=by
        have:(m.set w l[q+1+i])[w]?=some l[q+1+i]:=List.getElem?_set_self (by omega);rw [a0i this,List.take_set_of_le (Nat.le_refl _),g2]
       refine ⟨(w+1,m.set w l[q+1+i]),⟨by rw [hsucc,List.length_append,<-g1];rfl,by rw [hsucc];exact htk,by simp only [List.length_set];exact g3,fun j hj => ?_,by simp only;omega⟩,?_⟩
       ·simp only;rw [List.getElem?_set_ne (by omega)];exact g4 j (by omega)
       unfold a5N;dsimp only;rw [ez,ez];refine cnT (by simp;omega) (bc (bck (by simp;omega) (bt (gcT mx rfl) (bt (a9i _) ?_))));rw [hd,ew (q+1+i) (by omega)];refine bt (v:=(((w+1:Nat):Int),eT (m.set w l[q+1+i]))) ?_ rfl;have hmw:m[w]?=some m[w]:=zp1 (by omega);refine cnF rfl (bc (bck (by simp;omega) (bt (gcT hmw rfl) ?_)));rw [b9R m (i:=w) (by omega) _ rfl,ew w (by omega)])
    (fun s _=>by
     unfold a5N;exact cnF (by simp;omega) rfl) (q,l) ⟨by rw [Nat.add_zero,hkq1,List.length_take];omega,by rw [Nat.add_zero,hkq1],rfl,fun _ _=>rfl,by simp⟩
   have hqn2:q+1+(l.length-q-1)=l.length:=by omega
   rw [hqn2,hself] at h1 h2;simp only at h1 h2 h3 h5 e;rw [<-h1];have hwn:w<=l.length:=by rw [h1,<-hself];exact b5a l l.length
   refine ⟨m.take w++List.replicate (l.length-w) (0,0,0)++m.drop l.length,?_,?_,?_⟩
   ·refine bt e0 (cnF (by simp) ?_);rw [ew q (by omega)];rw [Nat.add_zero] at e;refine bt e ?_;dsimp only;refine bc (bck (by simp;omega) (bc (bck (by simp;omega) (bc (bc (bck (by simp;omega) ?_))))));have hfl:Ar.std.fill (eT m) (Ar.std.zadd 0 (w:Int)) (Ar.std.zsub (l.length:Int) (w:Int)) (.agg [.int .i64 0,.int .i64 0,.int .i64 0])=eT (m.take w++List.replicate (l.length-w) (0,0,0)++m.drop l.length):=by
     have a1:Ar.std.zadd 0 (w:Int)=(w:Int):=by simp
     have a2:Ar.std.zsub (l.length:Int) (w:Int)=((l.length-w:Nat):Int):=by simp;omega
     rw [a1,a2,a9C];unfold a1d eT enc;rw [Int.toNat_natCast,Int.toNat_natCast,List.map_append,List.map_append,List.map_take,List.map_drop,List.map_replicate,show w+(l.length-w)=l.length by omega];rfl
    rw [hfl];simp
   ·have hml:w<=m.length:=by omega
    rw [List.append_assoc,List.take_append_of_le_length (by simp;omega),List.take_take,Nat.min_self];exact h2
   simp;omega
theorem b5b {l:List Ac} (hl:l.length<=1000000):M90 Ar.std (eT l)=some (eT (kw l)):=by
 unfold M90;refine bt (b4Y hl) ?_;by_cases h0:0<l.length
 ·obtain ⟨l',h1,h2,h3⟩:=b6s hl;have el:Ar.std.len (eT l)=(l.length:Int):=by simp
  refine cnT (by simp;omega) (bck (b8h l) ?_);rw [el];refine bt h1 (bt (b8j l' h3) ?_);rw [h2]
 obtain rfl:l=[]:=List.length_eq_zero_iff.1 (by omega);refine cnF (by simp) (bt (v:=[]) ?_ rfl);unfold b3p;refine bt (v := -1) ?_ (cnT rfl rfl);unfold b3o;refine bt (v := .inl ()) (a0W ?_) rfl;unfold a8D;exact cnF (by simp) rfl
theorem a7f : ∀ (l:List Ac) (a:Ac),sep (l++[a])=if l=[] then [a] else sep l++[fnc,a]
 | [],a=>rfl
 | [b],a=>rfl
 | b::c::l,a=>by
   have:=a7f (c::l) a;rw [if_neg (by simp)] at this;rw [if_neg (by simp),List.cons_append,List.cons_append,sep,<-List.cons_append,this,sep];rfl
theorem b8k {l:List Ac} (hl:l.length<=1000000):M89 Ar.std (eT l)=some (eT (sep (l.filter wk))):=by
 unfold M89;refine bt (b5b hl) ?_;have hk:(kw l).length<=1000000:=Nat.le_trans (List.length_filter_le ..) hl;change (iter (a8E Ar.std (eT (kw l))) ([],0)).bind _=some (eT (sep (kw l)));generalize kw l=r at hk;have key:=a1g (step:=a8E Ar.std (eT r)) r.length (fun (_:Unit) (i:Nat)=>(eT (sep (r.take i)),(i:Int))) (fun _ _=>True) (fun _=>eT (sep r))
  (fun i _ hi _=>by
   refine ⟨(),trivial,?_⟩;unfold a8E;dsimp only;have hx:=zp1 hi;have ew:Ar.std.wrp .i64 (Ar.std.zadd (i:Int) 1)=((i+1:Nat):Int):=by simp only [a0n,a0o];exact a3w (n:=5000001) (by omega) (by omega)
   have hl1:=a7d (r.take i);rw [List.length_take,Nat.min_eq_left (Nat.le_of_lt hi)] at hl1;have hs:=a7f (r.take i) r[i];rw [<-a0i hx] at hs;have ap1 : ∀ (m:List Ac) (x:Ac),m.length<=4000000->ap Ar.std (eT m) [D.agg [.int .i64 x.1,.int .i64 x.2.1,.int .i64 x.2.2]]=some (eT (m++[x])):=fun m x hm=>by
    rw [a5i (by rw [a5Z];simp;omega)];unfold eT enc;rw [List.map_append];rfl
   refine cnT (by simp;omega) (bt (a0U hx) (bt (v:=eT (if i=0 then sep (r.take i) else sep (r.take i)++[fnc])) ?_ ?_))
   ·by_cases h0:i=0
    ·subst h0;rw [if_pos rfl];exact cnF (by simp) rfl
    rw [if_neg h0];exact cnT (by simp;omega) (bt (ap1 _ fnc (by omega)) rfl)
   have hle:(if i=0 then sep (r.take i) else sep (r.take i)++[fnc]).length<=4000000:=by
    split
    ·omega
    rw [List.length_append,hl1];simp;omega
   refine bt (ap1 _ r[i] hle) ?_;rw [ew,hs];by_cases h0:i=0
   ·subst h0;rw [if_pos rfl,if_pos (by simp)]
    rfl
   have hne : ¬ r.take i=[]:=fun e=>by
    have:=congrArg List.length e;rw [List.length_take,Nat.min_eq_left (Nat.le_of_lt hi)] at this;exact h0 this
   rw [if_neg h0,if_neg hne];simp)
  (fun _ _=>by
   unfold a8E;refine cnF (by simp) ?_;rw [List.take_length]) () trivial
 obtain ⟨_,_,h⟩:=key;exact bt (show iter (a8E Ar.std (eT r)) ([],0)=_ from h) rfl
theorem b8l {P:Pg} (hv:VP P):M45 Ar.std (eP P)=some (eP (allF P),0):=by
 have hn3:=hv.n3;have e:=a8h (VP.short hv);rw [VP.to hv] at e;have el:Ar.std.len (eP P)=(P.length:Int):=by simp
 have key:=a1g (step:=a5O Ar.std (eP P)) P.length (fun (_:Unit) (i:Nat)=>((i:Int),eP ((allF P).take i))) (fun _ _=>True) (fun _=>eP (allF P))
  (fun i _ hi _=>by
   refine ⟨(),trivial,?_⟩;unfold a5O;dsimp only;have hr:(allF P)[i]?=some (sep ((thr P i).filter wk)):=by unfold allF;rw [List.getElem?_map,a0x hi];rfl
   have hl7:=hv.l7 i;have ea:ap Ar.std (eP ((allF P).take i)) [D.list 3 (eT (sep ((thr P i).filter wk)))]=some (eP ((allF P).take (i+1))):=by
    rw [a5i (by simp;omega),a0i hr];unfold eP enc;rw [List.map_append,List.map_append];rfl
   refine cnT (by simp;omega) (bt (a1O (a0x hi)) (bt (b8k (by omega)) (bt ea ?_)));simp only [a0n,a0o];rw [a3o _ (by omega) (by omega)];rfl)
  (fun _ _=>by
   unfold a5O;dsimp only;refine cnF (by simp) ?_;rw [List.take_of_length_le (by unfold allF;simp)]) () trivial
 obtain ⟨_,_,h⟩:=key;have ezle:Ar.std.zle 0 (Ar.std.len (eP P))=true:=by rw [el,a3v,decide_eq_true_eq];omega
 have efit:Ar.std.fits (Ar.std.len (eP P))=true:=by rw [el,a6J,decide_eq_true_eq];omega
 unfold M45 b6S;exact bt (bt e (cnT rfl (bck ezle (bck rfl (bck efit (bt (show iter (a5O Ar.std (eP P)) (0,Ar.std.rep 0 (.list 3 []))=_ from h) rfl)))))) rfl
theorem IsO.up {k k':Nat} {P:Pg} {O O':List (List Int)} (h:IsO k P O) (h':IsO k' P O') (hc : ∀ o,Can k P o->Can k' P o):b8b O' O=[]:=by
 unfold b8b;rw [List.filter_eq_nil_iff];intro x hx;have:=(h'.mem x).2 (hc x ((h.mem x).1 hx));simp [this]
theorem b3a (P:Pg) (i:Nat) (t:List Ac):(eP P).set i (.list 3 (eT t))=eP (P.set i t):=by
 unfold eP enc;rw [List.map_set,List.map_set];rfl
theorem b6t {P:Pg} (hv:VP P):b6U Ar.std (eP P)=some (eP P):=by
 have hn3:=hv.n3;have el:Ar.std.len (eP P)=(P.length:Int):=by simp
 have e9 : ∀ Q:Pg,Ar.std.len (eP Q)=(Q.length:Int):=fun Q=>by simp
 have key:=a1g (step:=a5Q Ar.std (eP P)) P.length (fun (_:Unit) (i:Nat)=>((i:Int),eP (P.take i++List.replicate (P.length-i) []))) (fun _ _=>True) (fun _=>eP P)
  (fun i _ hi _=>by
   refine ⟨(),trivial,?_⟩;unfold a5Q;dsimp only;have hl7:=hv.l7 i;have hlen:(P.take i++List.replicate (P.length-i) ([]:List Ac)).length=P.length:=by simp;omega
   refine cnT (by simp;omega) (bt (a1O (a0x hi)) (bt (b4Y (by omega)) (bck (b8h _) (bck (by simp) (bck (by
    rw [e9,hlen];simp;omega) ?_)))))
   have ew:Ar.std.wrp .i64 (Ar.std.zadd (i:Int) 1)=((i+1:Nat):Int):=by simp only [a0n,a0o];exact a3w (n:=100) (by omega) (by omega)
   rw [ew];have e2:Ar.std.lset (eP (P.take i++List.replicate (P.length-i) [])) (Ar.std.nat (i:Int)) (.list 3 (eT (thr P i)))=eP (P.take (i+1)++List.replicate (P.length-(i+1)) []):=by
    show (eP (P.take i++List.replicate (P.length-i) [])).set i (.list 3 (eT (thr P i)))=_;rw [b3a];congr 1;apply List.ext_getElem?;intro j;rw [a0i (a0x hi)];rcases Nat.lt_trichotomy j i with g | g | g
    ·rw [List.getElem?_set_ne (by omega),zp7 (by simp;omega),List.append_assoc,zp7 (by simp;omega)]
    ·subst g;rw [List.getElem?_set_self (by omega),List.append_assoc,zp8 (by simp;omega)];rw [show j-(P.take j).length=0 by simp;omega];rfl
    rw [List.getElem?_set_ne (by omega),zp8 (by simp;omega),zp8 (by simp;omega),List.getElem?_replicate,List.getElem?_replicate];simp only [List.length_take,List.length_append,List.length_singleton];by_cases h:j<P.length
    ·rw [if_pos (by omega),if_pos (by omega)]
    rw [if_neg (by omega),if_neg (by omega)]
   rw [e2])
  (fun _ _=>by
   unfold a5Q;dsimp only;refine cnF (by simp) ?_;simp) () trivial
 obtain ⟨_,_,h⟩:=key;have e0:Ar.std.rep (Ar.std.len (eP P)) (.list 3 [])=eP (P.take 0++List.replicate (P.length-0) []):=by
  rw [el];show List.replicate P.length (D.list 3 [])=_;simp [eP,enc];exact .inr rfl
 unfold b6U;refine bck (by simp) (bck (by simp) (bck (by rw [el,a6J,decide_eq_true_eq];omega) ?_));rw [e0];exact bt (show iter (a5Q Ar.std (eP P)) (0,eP (P.take 0++List.replicate (P.length-0) []))=_ from h) rfl
theorem b8m {P:Pg} (hv:a3h P=true) {t0:Nat} (h:t0<P.length) {l:List Ac} (h7:l.length<=7) (ha : ∀ a∈l,a5A a=true) (hw:nWk l=nWk (thr P t0)):a3h (P.set t0 l)=true:=by
 have hv':=hv;unfold a3h at hv ⊢;simp only [zp4,decide_eq_true_eq,List.all_eq_true] at hv ⊢;obtain ⟨⟨h1,h2⟩,h4⟩:=hv;have hm:(P.set t0 l).map nWk=P.map nWk:=by
  rw [List.map_set];apply List.ext_getElem?;intro j;by_cases hj:t0=j
  ·subst hj;rw [List.getElem?_set_self (by simpa using h),List.getElem?_map,a0x h,hw];rfl
  rw [List.getElem?_set_ne hj]
 refine ⟨⟨fun t ht => ?_,by simpa using h2⟩,by unfold allW at h4 ⊢;rw [hm];exact h4⟩;rcases List.mem_or_eq_of_mem_set ht with ht | rfl
 ·exact h1 t ht
 have:=h1 _ (List.mem_of_getElem? (a0x h));unfold a6P at this ⊢;simp only [zp4,decide_eq_true_eq,List.all_eq_true] at this ⊢;exact ⟨⟨h7,ha⟩,by rw [hw];exact this.2⟩
theorem b8n {P:Pg} (hv:VP P):M46 Ar.std (eP P)=some (eP (nfP P),0):=by
 have hn3:=hv.n3;have e:=a8h (VP.short hv);rw [VP.to hv] at e;have el:Ar.std.len (eP P)=(P.length:Int):=by simp
 have key:=a1g (step:=a5P Ar.std (eP P)) P.length (fun (_:Unit) (i:Nat)=>((i:Int),eP ((nfP P).take i))) (fun _ _=>True) (fun _=>eP (nfP P))
  (fun i _ hi _=>by
   refine ⟨(),trivial,?_⟩;unfold a5P;dsimp only;have hr:(nfP P)[i]?=some ((thr P i).filter wk):=by unfold nfP;rw [List.getElem?_map,a0x hi];rfl
   have hl7:=hv.l7 i;have ea:ap Ar.std (eP ((nfP P).take i)) [D.list 3 (eT ((thr P i).filter wk))]=some (eP ((nfP P).take (i+1))):=by
    rw [a5i (by simp;omega),a0i hr];unfold eP enc;rw [List.map_append,List.map_append];rfl
   refine cnT (by simp;omega) (bt (a1O (a0x hi)) (bt (b5b (by omega)) (bt ea ?_)));simp only [a0n,a0o];rw [a3o _ (by omega) (by omega)];rfl)
  (fun _ _=>by
   unfold a5P;dsimp only;refine cnF (by simp) ?_;rw [List.take_of_length_le (by unfold nfP;simp)]) () trivial
 obtain ⟨_,_,h⟩:=key;have ezle:Ar.std.zle 0 (Ar.std.len (eP P))=true:=by rw [el,a3v,decide_eq_true_eq];omega
 have efit:Ar.std.fits (Ar.std.len (eP P))=true:=by rw [el,a6J,decide_eq_true_eq];omega
 unfold M46 b6T;exact bt (bt e (cnT rfl (bck ezle (bck rfl (bck efit (bt (show iter (a5P Ar.std (eP P)) (0,Ar.std.rep 0 (.list 3 []))=_ from h) rfl)))))) rfl
theorem b9S {P:Pg} (hv:a3h P=true):a3h (nfP P)=true:=by
 unfold a3h at hv ⊢;simp only [zp4,decide_eq_true_eq,List.all_eq_true] at hv ⊢;obtain ⟨⟨h1,h2⟩,h4⟩:=hv;have hn : ∀ l:List Ac,nWk (l.filter wk)=nWk l:=fun l=>by unfold nWk;rw [List.countP_filter];congr 1;funext a;simp
 refine ⟨⟨fun t ht => ?_,by simpa [nfP] using h2⟩,?_⟩
 ·obtain ⟨l,hl,rfl⟩:=List.mem_map.1 ht;have:=h1 l hl;unfold a6P at this ⊢;simp only [zp4,decide_eq_true_eq,List.all_eq_true] at this ⊢;exact ⟨⟨Nat.le_trans (List.length_filter_le _ _) this.1.1,fun a ha=>this.1.2 a (List.mem_filter.1 ha).1⟩,by rw [hn];exact this.2⟩
 unfold allW nfP at *;rw [List.map_map];have:(nWk∘fun l=>List.filter wk l)=nWk:=by funext l;exact hn l
 rw [this];exact h4
theorem wS {i:Nat} (h:i<=1000):Ar.std.wrp .i64 (Ar.std.zadd (i:Int) 1)=((i+1:Nat):Int):=by
 simp only [a0n,a0o];rw [a3o _ (by omega) (by omega)];rfl
theorem b3b {P:Pg} (h1:P.length<=100) (h2 : ∀ t∈P,t.length<=100):M41 Ar.std (eP P) (eP P)=some true:=by
 unfold M41;refine cnT (by simp) ?_;have key:=a3L (step:=a7w Ar.std (eP P) (eP P)) P (fun _=>false) (.inr ()) (.inl ()) (fun i t ht hi=>by
  have hl7:=h2 t (List.mem_of_getElem? ht);unfold a7w;refine cnT (by simp [hi]) (bt (a1O ht) (bt (a1O ht) (cnT (by simp) ?_)));have k2:=a3L (step:=a7v Ar.std (eT t) (eT t)) t (fun _=>false) (.inr ()) (.inl ()) (fun j x hx hj=>by
   unfold a7v;refine cnT (by simp [hj]) (bt (a0U hx) (bt (a0U hx) (cnT (by simp [Ar.std]) ?_)));rw [wS (by omega)];rfl) (by
   unfold a7v;exact cnF (by simp) rfl)
  refine bt k2 ?_;have:t.any (fun _=>false)=false:=by rw [List.any_eq_false];intro x _ h;cases h
  rw [this];simp only [cond_false,Sum.elim_inl];rw [wS (by omega)]) (by
  unfold a7w;exact cnF (by simp) rfl)
 refine bt key ?_;have:P.any (fun _=>false)=false:=by rw [List.any_eq_false];intro x _ h;cases h
 rw [this];rfl
theorem b8o {P:Pg} (hv:VP P):M88 Ar.std (eP P)=some (eP P):=by
 have hn3:=hv.n3;have key:=a1g (step:=b0c Ar.std (eP P)) P.length (fun (_:Unit) (i:Nat)=>(eP (P.take i),(i:Int))) (fun _ _=>True) (fun _=>eP P)
  (fun i _ hi _=>by
   refine ⟨(),trivial,?_⟩;unfold b0c;dsimp only;have hl7:=hv.l7 i;have e1:ap Ar.std [] (eT (thr P i))=some (eT (thr P i)):=a6M (by omega);have ea:ap Ar.std (eP (P.take i)) [D.list 3 (eT (thr P i))]=some (eP (P.take (i+1))):=by
    rw [a5i (by simp;omega),a0i (a0x hi)];unfold eP enc;rw [List.map_append,List.map_append];rfl
   refine cnT (by simp;omega) (bt (a1O (a0x hi)) (bt e1 (bt ea ?_)));rw [wS (by omega)])
  (fun _ _=>by
   unfold b0c;dsimp only;refine cnF (by simp) ?_;rw [List.take_length]) () trivial
 obtain ⟨_,_,h⟩:=key;unfold M88;exact bt (show iter (b0c Ar.std (eP P)) ([],0)=_ from h) rfl
theorem b3c (Q:Pg) (t:List Ac):eP (Q++[t])=eP Q++[D.list 3 (eT t)]:=by
 unfold eP enc;rw [List.map_append,List.map_append];rfl
theorem b5c {n:Nat} (hn:1<=n) (z:Int):btw 0 z ((n-1:Nat):Int)=decide (0<=z/\z<(n:Int)):=by
 unfold btw;by_cases h0:0<=z <;> by_cases h1:z<(n:Int)
 ·simp [h0,h1];omega
 ·simp [h0,h1];omega
 ·simp [h0,h1]
 simp [h0,h1]
theorem b8p {P:Pg} (h1:1<=P.length) (h2:P.length<=100):Ar.std.wrp .i64 (Ar.std.zsub (Ar.std.len (eP P)) 1)=((P.length-1:Nat):Int):=by
 have el:Ar.std.len (eP P)=(P.length:Int):=by simp
 simp only [el,a0n,a0X];rw [a3o _ (by omega) (by omega)];omega
def b8q (P:Pg) (t i:Nat):Pg:=P.set t ((thr P t).take i++fnc::(thr P t).drop i)
theorem b6u {P:Pg} (hv:VP P) {t i:Nat} (ht:t<P.length) (hi:i<=(thr P t).length):b8X Ar.std (eP P) (t:Int) (i:Int)=some (eP (b8q P t i)):=by
 have hl7:=hv.l7 t;have hX:(eT (thr P t)).length=(thr P t).length:=by simp [enc]
 have e:b6V (eT (thr P t)) (i:Int)=eT ((thr P t).take i++fnc::(thr P t).drop i):=by
  unfold b6V eT enc;rw [List.map_append,List.map_take,List.map_cons,List.map_drop];rfl
 unfold b8X;refine bt (b6t hv) (bt (a1O (a0x ht)) (bck (by simp) (bck (by rw [hX];simp;omega) (bck (by rw [hX];simp;omega) ?_))));rw [e];exact congrArg some (b3a P t _)
def fok (P:Pg) (a b:Int):Prop:=(0<=a/\a<(P.length:Int))/\(0<=b/\b<=((thr P a.toNat).length:Int))/\(thr P a.toNat).length<7
instance (P:Pg) (a b:Int):Decidable (fok P a b):=by unfold fok;infer_instance
theorem b9T {P:Pg} (hv:VP P) (a b:Int):((M65 Ar.std 0 a (Ar.std.wrp .i64 (Ar.std.zsub (Ar.std.len (eP P)) 1))).bind fun r8 =>
   bif r8 then
    (gt Ar.std (cL 3) (eP P) a).bind fun a10 =>
    (M65 Ar.std 0 b (Ar.std.len a10)).bind fun r15 =>
    bif r15 then
     some (Ar.std.zeq (Ar.std.len a10) 7)
    else
     some true
   else
    some true:Option (Bool))=some (!decide (fok P a b)):=by
 have hn1:=hv.n1;have hn3:=hv.n3;have hl7:=hv.l7 a.toNat;rw [b8p hn1 (by omega)];refine bt (a8g _ _ _) ?_;rw [b5c hn1];by_cases hr:0<=a/\a<(P.length:Int)
 ·rw [decide_eq_true hr];have el:Ar.std.len (eT (thr P a.toNat))=((thr P a.toNat).length:Int):=by simp
  refine cnT rfl (bt (b2i hr.1 (a0x (by omega))) (bt (a8g _ _ _) ?_));rw [el];by_cases hb:0<=b/\b<=((thr P a.toNat).length:Int)
  ·refine cnT (by unfold btw;simp [hb]) ?_;rw [a2I];by_cases h7:(thr P a.toNat).length=7
   ·rw [decide_eq_true (show ((thr P a.toNat).length:Int)=7 by omega),decide_eq_false (fun h:fok P a b=>by have:=h.2.2;omega)];rfl
   rw [decide_eq_false (show ¬ ((thr P a.toNat).length:Int)=7 by omega),decide_eq_true (show fok P a b from ⟨hr,hb,by omega⟩)];rfl
  rw [decide_eq_false (fun h:fok P a b=>hb h.2.1)];exact cnF (by unfold btw;simp;omega) rfl
 rw [decide_eq_false hr,decide_eq_false (fun h:fok P a b=>hr h.1)];exact cnF rfl rfl
theorem b9U {P:Pg} (hv:VP P) (a b:Int):((M66 Ar.std 0 a (Ar.std.wrp .i64 (Ar.std.zsub (Ar.std.len (eP P)) 1))).bind fun r8 =>
   bif r8 then
    (gt Ar.std (cL 3) (eP P) a).bind fun a10 =>
    (M66 Ar.std 0 b (Ar.std.len a10)).bind fun r15 =>
    bif r15 then
     some (Ar.std.zle 7 (Ar.std.len a10))
    else
     some true
   else
    some true:Option (Bool))=some (!decide (fok P a b)):=by
 have hn1:=hv.n1;have hn3:=hv.n3;have hl7:=hv.l7 a.toNat;rw [b8p hn1 (by omega)];refine bt (a9Q _ _ _) ?_;rw [b5c hn1];by_cases hr:0<=a/\a<(P.length:Int)
 ·rw [decide_eq_true hr];have el:Ar.std.len (eT (thr P a.toNat))=((thr P a.toNat).length:Int):=by simp
  refine cnT rfl (bt (b2i hr.1 (a0x (by omega))) (bt (a9Q _ _ _) ?_));rw [el];by_cases hb:0<=b/\b<=((thr P a.toNat).length:Int)
  ·refine cnT (by unfold btw;simp [hb]) ?_;rw [a3v];by_cases h7:(thr P a.toNat).length=7
   ·rw [decide_eq_true (show (7:Int)<=((thr P a.toNat).length:Int) by omega),decide_eq_false (fun h:fok P a b=>by have:=h.2.2;omega)];rfl
   rw [decide_eq_false (show ¬ (7:Int)<=((thr P a.toNat).length:Int) by omega),decide_eq_true (show fok P a b from ⟨hr,hb,by omega⟩)];rfl
  rw [decide_eq_false (fun h:fok P a b=>hb h.2.1)];exact cnF (by unfold btw;simp;omega) rfl
 rw [decide_eq_false hr,decide_eq_false (fun h:fok P a b=>hr h.1)];exact cnF rfl rfl
theorem b3d {P:Pg} (hv:VP P) (a b:Int):(fok P a b->M47 Ar.std (eP P) a b=some (eP (b8q P a.toNat b.toNat),0))/\(¬ fok P a b->M47 Ar.std (eP P) a b=some ([],2)):=by
 have e:=a8h (VP.short hv);rw [VP.to hv] at e;have hc:=b9T hv a b;constructor
 ·intro h;rw [decide_eq_true h] at hc;have e9:=b6u hv (t:=a.toNat) (i:=b.toNat) (by have:=h.1;omega) (by have:=h.2.1;omega);rw [Int.toNat_of_nonneg h.1.1,Int.toNat_of_nonneg h.2.1.1] at e9;unfold M47;exact bt e (cnT rfl (bt hc (cnF rfl (bt e9 rfl))))
 intro h;rw [decide_eq_false h] at hc;unfold M47;exact bt e (cnT rfl (bt hc (cnT rfl rfl)))
theorem apA {m:List Ac} (x:Ac) (hm:m.length<=4000000):ap Ar.std (eT m) [D.agg [.int .i64 x.1,.int .i64 x.2.1,.int .i64 x.2.2]]=some (eT (m++[x])):=by
 rw [a5i (by rw [a5Z];simp;omega)];unfold eT enc;rw [List.map_append];rfl
theorem b3e {P:Pg} (hv:VP P) (a b:Int):(fok P a b->M48 Ar.std (eP P) a b=some (eP (b8q P a.toNat b.toNat),0))/\(¬ fok P a b->M48 Ar.std (eP P) a b=some ([],2)):=by
 have e:=b2K (VP.short hv);rw [VP.to hv] at e;have hc:=b9U hv a b;have hn3:=hv.n3;constructor
 ·intro h;rw [decide_eq_true h] at hc;have h1:=h.1;have h2:=h.2.1;have hl7:=hv.l7 a.toNat;have ht:a.toNat<P.length:=by omega
  have el:Ar.std.len (eT (thr P a.toNat))=((thr P a.toNat).length:Int):=by simp
  have ep:Ar.std.len (eP P)=(P.length:Int):=by simp
  have s1:sl Ar.std (eT (thr P a.toNat)) 0 b=some (eT ((thr P a.toNat).take b.toNat)):=by
   have:=a6L (c:=cA3) (l:=thr P a.toNat) (i:=b.toNat) (by omega);rw [Int.toNat_of_nonneg h2.1] at this;exact this
  have s2:sl Ar.std (eT (thr P a.toNat)) b (Ar.std.len (eT (thr P a.toNat)))=some (eT ((thr P a.toNat).drop b.toNat)):=by
   rw [el];have:=b7t (c:=cA3) (l:=thr P a.toNat) (lo:=b) (hi:=((thr P a.toNat).length:Int)) h2.1 h2.2 (Int.le_refl _);rw [Int.toNat_natCast,List.take_of_length_le (by rw [List.length_drop];omega)] at this;exact this
  have a1:ap Ar.std [] (eT ((thr P a.toNat).take b.toNat))=some (eT ((thr P a.toNat).take b.toNat)):=a6M (by rw [List.length_take];omega);have a2:=apA (m:=(thr P a.toNat).take b.toNat) fnc (by rw [List.length_take];omega);have a3:ap Ar.std (eT ((thr P a.toNat).take b.toNat++[fnc])) (eT ((thr P a.toNat).drop b.toNat))=some (eT ((thr P a.toNat).take b.toNat++[fnc]++(thr P a.toNat).drop b.toNat)) :=
   b2f (by simp only [List.length_append,List.length_take,List.length_drop,List.length_singleton];omega)
  rw [List.append_assoc,List.singleton_append] at a3;unfold M48;refine bt e (cnT rfl (bt hc (cnF rfl (bt (b8o hv) (bt (b2i h1.1 (a0x ht)) (bt s1 (bt a1 (bt a2 (bt s2 (bt a3 (bck (by simp;omega) (bck (by rw [ep];simp;omega) ?_))))))))))));have:=b3a P a.toNat ((thr P a.toNat).take b.toNat++fnc::(thr P a.toNat).drop b.toNat);show some ((eP P).set a.toNat _,(0:Int))=_;rw [this];rfl
 intro h;rw [decide_eq_false h] at hc;unfold M48;exact bt e (cnT rfl (bt hc (cnT rfl rfl)))
theorem b4r {P:Pg} {t:Nat} (ht:t<P.length) (hl:(thr P t).length<=100):iter (b0d Ar.std (eP P) (t:Int)) ([],0)=some (eT (kw (thr P t))):=by
 have key:=a1g (step:=b0d Ar.std (eP P) (t:Int)) (thr P t).length (fun (_:Unit) (i:Nat)=>(eT (kw ((thr P t).take i)),(i:Int))) (fun _ _=>True) (fun _=>eT (kw (thr P t)))
  (fun i _ hi _=>by
   refine ⟨(),trivial,?_⟩;unfold b0d;dsimp only;have hx:=zp1 hi;generalize (thr P t)[i]=x at hx;have hk:=b5a (thr P t) i;refine bt (a1O (a0x ht)) (cnT (by simp;omega) (bt (a0U hx) (bt (v:=eT (kw ((thr P t).take (i+1)))) ?_ (by rw [wS (by omega)]))));rw [a7e hx];show (bif decide (x.1=3) then _ else _)=_
   by_cases h3:x.1=3
   ·have:wk x=false:=by unfold wk;simp [h3]
    rw [this];exact cnT (by simp [h3]) rfl
   have:wk x=true:=by unfold wk;simp [h3]
   rw [this];exact cnF (by simp [h3]) (bt (apA x (by omega)) rfl))
  (fun _ _=>by
   unfold b0d;dsimp only;refine bt (a1O (a0x ht)) (cnF (by simp) ?_);rw [List.take_length]) () trivial
 obtain ⟨_,_,h⟩:=key;exact h
theorem b5d {P:Pg} (hv:VP P):M49 Ar.std (eP P)=some (eP (nfP P),0):=by
 have hn3:=hv.n3;have e:=b2K (VP.short hv);rw [VP.to hv] at e;have key:=a1g (step:=b0e Ar.std (eP P)) P.length (fun (_:Unit) (i:Nat)=>(eP ((nfP P).take i),(i:Int))) (fun _ _=>True) (fun _=>eP (nfP P))
  (fun i _ hi _=>by
   refine ⟨(),trivial,?_⟩;unfold b0e;dsimp only;have hr:(nfP P)[i]?=some (kw (thr P i)):=by unfold nfP;rw [List.getElem?_map,a0x hi];rfl
   have hl7:=hv.l7 i;have ea:ap Ar.std (eP ((nfP P).take i)) [D.list 3 (eT (kw (thr P i)))]=some (eP ((nfP P).take (i+1))):=by
    rw [a5i (by simp;omega),a0i hr,b3c]
   refine cnT (by simp;omega) (bt (b4r hi (by omega)) (bt ea ?_));rw [wS (by omega)])
  (fun _ _=>by
   unfold b0e;dsimp only;refine cnF (by simp) ?_;rw [List.take_of_length_le (by unfold nfP;simp)]) () trivial
 obtain ⟨_,_,h⟩:=key;unfold M49;exact bt e (cnT rfl (bt (show iter (b0e Ar.std (eP P)) ([],0)=_ from h) rfl))
theorem b4s {Q:Pg} {t:Nat} (ht:t<Q.length) (hl:(thr Q t).length<=100):iter (b0f Ar.std (eP Q) (t:Int)) ([],0)=some (eT (sep (thr Q t))):=by
 have key:=a1g (step:=b0f Ar.std (eP Q) (t:Int)) (thr Q t).length (fun (_:Unit) (i:Nat)=>(eT (sep ((thr Q t).take i)),(i:Int))) (fun _ _=>True) (fun _=>eT (sep (thr Q t)))
  (fun i _ hi _=>by
   refine ⟨(),trivial,?_⟩;unfold b0f;dsimp only;have hx:=zp1 hi;have hl1:=a7d ((thr Q t).take i);rw [List.length_take,Nat.min_eq_left (Nat.le_of_lt hi)] at hl1;have hs:=a7f ((thr Q t).take i) (thr Q t)[i];rw [<-a0i hx] at hs;refine bt (a1O (a0x ht)) (cnT (by simp;omega) (bt (v:=eT (if i=0 then sep ((thr Q t).take i) else sep ((thr Q t).take i)++[fnc])) ?_ (bt (a0U hx) ?_)))
   ·by_cases h0:i=0
    ·subst h0;rw [if_pos rfl];exact cnF (by simp) rfl
    rw [if_neg h0];exact cnT (by simp;omega) (bt (apA fnc (by omega)) rfl)
   have hle:(if i=0 then sep ((thr Q t).take i) else sep ((thr Q t).take i)++[fnc]).length<=4000000:=by
    split
    ·omega
    rw [List.length_append,hl1];simp;omega
   refine bt (apA (thr Q t)[i] hle) ?_;rw [wS (by omega),hs];by_cases h0:i=0
   ·subst h0;rw [if_pos rfl,if_pos (by simp)]
    rfl
   have hne : ¬ (thr Q t).take i=[]:=fun e=>by
    have:=congrArg List.length e;rw [List.length_take,Nat.min_eq_left (Nat.le_of_lt hi)] at this;exact h0 this
   rw [if_neg h0,if_neg hne];simp)
  (fun _ _=>by
   unfold b0f;dsimp only;refine bt (a1O (a0x ht)) (cnF (by simp) ?_);rw [List.take_length]) () trivial
 obtain ⟨_,_,h⟩:=key;exact h
theorem b8r {P:Pg} (hv:VP P):M50 Ar.std (eP P)=some (eP (allF P),0):=by
 have hn3:=hv.n3;have hnl:(nfP P).length=P.length:=by unfold nfP;simp
 have key:=a1g (step:=b0g Ar.std (eP (nfP P))) P.length (fun (_:Unit) (i:Nat)=>(eP ((allF P).take i),(i:Int))) (fun _ _=>True) (fun _=>eP (allF P))
  (fun i _ hi _=>by
   refine ⟨(),trivial,?_⟩;unfold b0g;dsimp only;have hth:thr (nfP P) i=kw (thr P i):=by unfold nfP;rw [b6q _ rfl];rfl
   have hr:(allF P)[i]?=some (sep (thr (nfP P) i)):=by rw [hth];unfold allF;rw [List.getElem?_map,a0x hi];rfl
   have hl7:=hv.l7 i;have hkl:(thr (nfP P) i).length<=100:=by rw [hth];have:=List.length_filter_le wk (thr P i);unfold kw;omega
   have ea:ap Ar.std (eP ((allF P).take i)) [D.list 3 (eT (sep (thr (nfP P) i)))]=some (eP ((allF P).take (i+1))):=by
    rw [a5i (by simp;omega),a0i hr,b3c]
   refine cnT (by simp [hnl];omega) (bt (b4s (by omega) hkl) (bt ea ?_));rw [wS (by omega)])
  (fun _ _=>by
   unfold b0g;dsimp only;refine cnF (by simp [hnl]) ?_;rw [List.take_of_length_le (by unfold allF;simp)]) () trivial
 obtain ⟨_,_,h⟩:=key;unfold M50;exact bt (b5d hv) (cnT rfl (bt (show iter (b0g Ar.std (eP (nfP P))) ([],0)=_ from h) rfl))
theorem b8s {P:Pg} (hv:a3h P=true) {t i:Nat} (ht:t<P.length) (h7:(thr P t).length<7):a3h (b8q P t i)=true:=by
 refine b8m hv ht ?_ (fun a ha => ?_) ?_
 ·simp only [List.length_append,List.length_take,List.length_cons,List.length_drop];omega
 ·have hm:=b6r hv _ (List.mem_of_getElem? (a0x ht));rcases List.mem_append.1 ha with h | h
  ·exact hm a (List.mem_of_mem_take h)
  rcases List.mem_cons.1 h with h | h
  ·rw [h];rfl
  exact hm a (List.mem_of_mem_drop h)
 unfold nWk;rw [List.countP_append,List.countP_cons_of_neg (by decide),<-List.countP_append,List.take_append_drop]
theorem b8t (P:Pg) (hP:P.length<9223372036854775808) (hl : ∀ t∈P,t.length<9223372036854775808) (a b:Int):M13 Ar.std (eP P) a b=some true:=by
 obtain ⟨q,e,hq⟩:=b7B P hP hl;unfold M13;cases q with
 | true=>exact bt e (cnT rfl (bt b2J rfl))
 | false =>
   have hS:=hq rfl;refine bt e (cnF rfl ?_);have nilOk:M41 Ar.std [] []=some true:=b3b (P:=[]) (by simp) (by simp);cases hp:a3h P with
   | false =>
     have e2:=b2K hS;have e3:=a8h hS;rw [hp] at e2 e3;have f47:M47 Ar.std (eP P) a b=some ([],40):=by unfold M47;exact bt e3 (cnF rfl rfl)
     have f48:M48 Ar.std (eP P) a b=some ([],40):=by unfold M48;exact bt e2 (cnF rfl rfl)
     have f46:M46 Ar.std (eP P)=some ([],40):=by unfold M46 b6T;exact bt (bt e3 (cnF rfl rfl)) rfl
     have f49:M49 Ar.std (eP P)=some ([],40):=by unfold M49;exact bt e2 (cnF rfl rfl)
     have f45:M45 Ar.std (eP P)=some ([],40):=by unfold M45 b6S;exact bt (bt e3 (cnF rfl rfl)) rfl
     have f50:M50 Ar.std (eP P)=some ([],40):=by unfold M50;exact bt f49 (cnF rfl rfl)
     exact bt f47 (bt f48 (bt (v:=false) (bt nilOk rfl) (cnF rfl (bt f46 (bt f49 (bt f45 (bt f50 (bt (v:=true) (bt nilOk (cnT rfl (cnT rfl (bt nilOk (cnT rfl (cnT rfl (bt b2J rfl))))))) rfl))))))))
   | true =>
     have hv:=VP.of hp;have hn3:=hv.n3;obtain ⟨R,hR1,hR2,y,f47,f48⟩ : ∃ R:Pg,R.length<=100/\(∀ t∈R,t.length<=100) /\ ∃ y,M47 Ar.std (eP P) a b=some (eP R,y)/\M48 Ar.std (eP P) a b=some (eP R,y):=by
      by_cases h:fok P a b
      ·have hv':=VP.of (b8s (i:=b.toNat) hp (t:=a.toNat) (by have:=h.1;omega) h.2.2);have h3:=hv'.n3;refine ⟨b8q P a.toNat b.toNat,by omega,fun t ht => ?_,0,(b3d hv a b).1 h,(b3e hv a b).1 h⟩;have:=(VP.short hv').2 t ht;omega
      exact ⟨[],by simp,by simp,2,(b3d hv a b).2 h,(b3e hv a b).2 h⟩
     have hvn:=VP.of (b9S hp);have hva:=VP.of (VP.allF hp);have m1:=b3b hR1 hR2;have m2:=b4Z hvn;have m3:=b4Z hva;refine bt f47 (bt f48 (bt (v:=false) (bt m1 (cnT rfl (by simp [Ar.std]))) (cnF rfl (bt (b8n hv) (bt (b5d hv) (bt (b8l hv) (bt (b8r hv) (bt (v:=true) (bt m2 (cnT rfl (cnT rfl (bt m3 (cnT rfl (cnT rfl (bt b2J rfl))))))) rfl))))))))
end Go.Am
