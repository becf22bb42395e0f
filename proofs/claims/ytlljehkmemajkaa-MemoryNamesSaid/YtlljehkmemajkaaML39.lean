import Derived.Test.YtlljehkmemajkaaML15
import Derived.Test.YtlljehkmemajkaaGenp0
set_option maxRecDepth 100000
set_option maxHeartbeats 2000000
set_option linter.unusedVariables false
set_option linter.unusedSimpArgs false
set_option linter.unusedSectionVars false
namespace Go.Am
open Go
abbrev Pt:=Nat×Nat
def acA (P:Pg) (x:Pt):Ac:=aAt (thr P x.1) x.2
def a4m (a b:Ac):Prop:=a.1=3\/b.1=3\/a.2.1≠b.2.1\/(a.1≠2/\b.1≠2)
theorem a4m.symm {a b:Ac} (h:a4m a b):a4m b a:=by
 rcases h with h | h | h | h
 ·exact .inr (.inl h)
 ·exact .inl h
 ·exact .inr (.inr (.inl fun e=>h e.symm))
 exact .inr (.inr (.inr ⟨h.2,h.1⟩))
theorem a8k {a b:Ac} (h : ¬ a4m a b):a.1≠3/\b.1≠3/\a.2.1=b.2.1/\(a.1=2\/b.1=2):=by
 unfold a4m at h;refine ⟨fun e=>h (.inl e),fun e=>h (.inr (.inl e)),?_,?_⟩
 ·exact Classical.byContradiction fun e=>h (.inr (.inr (.inl e)))
 exact Classical.byContradiction fun e=>h (.inr (.inr (.inr ⟨fun g=>e (.inl g),fun g=>e (.inr g)⟩)))
def ex (P:Pg) (s:AS) (L:List Pt):AS:=L.foldl (fun s x=>doA 3 P s x.1 x.2) s
theorem b9q {s u:AS} (h1:s.dn=u.dn) (h2:s.rd=u.rd) (h3:s.bf=u.bf) (h4:s.ce=u.ce):s=u:=by
 cases s;cases u;simp only at h1 h2 h3 h4;subst h1 h2 h3 h4
 rfl
section
variable {P:Pg} {s:AS}
theorem b6b {k:Nat} (hk:k≠2) (t i:Nat):doA k P s t i=doA 3 P s t i:=by simp [doA,hk]
theorem b4O (x:Pt) (y:Pt):(doA 3 P s x.1 x.2).dn y.1 y.2=if y=x then true else s.dn y.1 y.2:=by
 obtain ⟨t,i⟩:=x;obtain ⟨u,j⟩:=y;simp only [doA,fup,Prod.mk.injEq];by_cases h1:u=t
 ·subst h1;by_cases h2:j=i <;> simp [fup,h2]
 simp [fup,h1]
theorem a3O (x:Pt):(doA 3 P s x.1 x.2).bf=s.bf:=by simp [doA]
theorem a6a (x:Pt) (c:Int):(doA 3 P s x.1 x.2).ce c=if (acA P x).1=2/\c=(acA P x).2.1 then (acA P x).2.2 else s.ce c:=by
 simp only [doA,acA,fup];by_cases h:(aAt (thr P x.1) x.2).1=2
 ·simp [h,fup]
 simp [h]
theorem a8l (hb : ∀ t,s.bf t=[]) (x y:Pt):(doA 3 P s x.1 x.2).rd y.1 y.2=if (acA P x).1=1/\y=x then s.ce (acA P x).2.1 else s.rd y.1 y.2:=by
 obtain ⟨t,i⟩:=x;obtain ⟨u,j⟩:=y;simp only [doA,acA,fup,Prod.mk.injEq];by_cases h:(aAt (thr P t) i).1=1
 ·by_cases h1:u=t
  ·subst h1;by_cases h2:j=i <;> simp [fup,h,sn,hb,h2]
  simp [fup,h,h1]
 simp [h]
theorem b4b (hb : ∀ t,s.bf t=[]) {x y:Pt} (hxy:x≠y) (hi:a4m (acA P x) (acA P y)):doA 3 P (doA 3 P s x.1 x.2) y.1 y.2=doA 3 P (doA 3 P s y.1 y.2) x.1 x.2:=by
 have hbx : ∀ t,(doA 3 P s x.1 x.2).bf t=[]:=fun t=>by rw [a3O];exact hb t
 have hby : ∀ t,(doA 3 P s y.1 y.2).bf t=[]:=fun t=>by rw [a3O];exact hb t
 have ne1 : ¬ ((acA P y).1=1/\(acA P x).1=2/\(acA P y).2.1=(acA P x).2.1):=by
  rintro ⟨h1,h2,h3⟩;rcases hi with h | h | h | h
  ·omega
  ·omega
  ·exact h h3.symm
  exact h.1 h2
 have ne2 : ¬ ((acA P x).1=1/\(acA P y).1=2/\(acA P x).2.1=(acA P y).2.1):=by
  rintro ⟨h1,h2,h3⟩;rcases hi with h | h | h | h
  ·omega
  ·omega
  ·exact h h3
  exact h.2 h2
 have ne3 : ¬ ((acA P x).1=2/\(acA P y).1=2/\(acA P x).2.1=(acA P y).2.1):=by
  rintro ⟨h1,h2,h3⟩;rcases hi with h | h | h | h
  ·omega
  ·omega
  ·exact h h3
  exact h.2 h2
 refine b9q ?_ ?_ ?_ ?_
 ·funext t i;have:=fun (s:AS) (x:Pt)=>b4O (P:=P) (s:=s) x (t,i);simp only at this;rw [this,this,this,this];by_cases h1:(t,i)=x <;> by_cases h2:(t,i)=y <;> simp [h1,h2]
 ·funext t i;have e1:=a8l (P:=P) hbx y (t,i);have e2:=a8l (P:=P) hby x (t,i);have e3:=a8l (P:=P) hb x (t,i);have e4:=a8l (P:=P) hb y (t,i);simp only at e1 e2 e3 e4;rw [e1,e2,e3,e4,a6a,a6a];by_cases h1:(acA P y).1=1/\(t,i)=y
  ·have h2 : ¬ ((acA P x).1=1/\(t,i)=x):=fun h=>hxy (h.2.symm.trans h1.2);have h3 : ¬ ((acA P x).1=2/\(acA P y).2.1=(acA P x).2.1):=fun h=>ne1 ⟨h1.1,h⟩;rw [if_pos h1,if_neg h2,if_neg h3,if_pos h1]
  rw [if_neg h1,if_neg h1];by_cases h2:(acA P x).1=1/\(t,i)=x
  ·have h3 : ¬ ((acA P y).1=2/\(acA P x).2.1=(acA P y).2.1):=fun h=>ne2 ⟨h2.1,h⟩;rw [if_pos h2,if_pos h2,if_neg h3]
  rw [if_neg h2,if_neg h2]
 ·rw [a3O,a3O,a3O,a3O]
 funext c;rw [a6a,a6a,a6a,a6a];by_cases h1:(acA P y).1=2/\c=(acA P y).2.1
 ·have h2 : ¬ ((acA P x).1=2/\c=(acA P x).2.1):=fun h=>ne3 ⟨h.1,h1.1,h.2.symm.trans h1.2⟩;rw [if_pos h1,if_neg h2,if_pos h1]
 rw [if_neg h1,if_neg h1]
end
theorem b7L {P:Pg} : ∀ (L:List Pt) (s:AS),(ex P s L).bf=s.bf
 | [],_=>rfl
 | x::L,s=>(b7L L (doA 3 P s x.1 x.2)).trans (a3O x)
theorem b4P {P:Pg} (s:AS) (L M:List Pt):ex P s (L++M)=ex P (ex P s L) M:=by unfold ex;rw [List.foldl_append]
theorem b2L {P:Pg} {f:Pt} {l2:List Pt} : ∀ (l1:List Pt) (s:AS),(∀ t,s.bf t=[])->(∀ y∈l1,y≠f/\a4m (acA P y) (acA P f))->ex P s (l1++f::l2)=ex P s (f::(l1++l2))
 | [],_,_,_=>rfl
 | y::l1,s,hb,h=>by
   have hb' : ∀ t,(doA 3 P s y.1 y.2).bf t=[]:=fun t=>by rw [a3O];exact hb t
   have ih:=b2L (f:=f) (l2:=l2) l1 (doA 3 P s y.1 y.2) hb' fun z hz=>h z (List.mem_cons_of_mem _ hz);obtain ⟨h1,h2⟩:=h y (List.mem_cons_self ..);show ex P (doA 3 P s y.1 y.2) (l1++f::l2)=_;rw [ih];show ex P (doA 3 P (doA 3 P s y.1 y.2) f.1 f.2) (l1++l2)=ex P (doA 3 P (doA 3 P s f.1 f.2) y.1 y.2) (l1++l2);rw [b4b hb h1 h2]
theorem b6c {P:Pg} (pos:Pt->Nat) (before:Pt->Pt->Prop) (A:Pt->Prop)
  (H : ∀ L:List Pt,L≠[]->L.Pairwise (fun x y=>pos x<pos y)->(∀ y∈L,A y) -> ∃ f∈L,(∀ y∈L,y≠f->before f y) /\ ∀ y∈L,pos y<pos f->a4m (acA P y) (acA P f)) :
  ∀ (n:Nat) (L:List Pt),L.length=n->L.Pairwise (fun x y=>pos x<pos y)->(∀ y∈L,A y) -> ∀ s:AS,(∀ t,s.bf t=[]) -> ∃ L',L'.Perm L/\L'.Pairwise before/\ex P s L'=ex P s L:=by
 intro n
 induction n with
 | zero =>
   intro L hL _ _ s _;obtain rfl:=List.length_eq_zero_iff.1 hL;exact ⟨[],.refl _,.nil,rfl⟩
 | succ n ih =>
   intro L hL hs hA s hb;obtain ⟨f,hf,h1,h2⟩:=H L (by intro e;rw [e] at hL;cases hL) hs hA;obtain ⟨l1,l2,rfl⟩:=List.append_of_mem hf;have hs':=hs;rw [List.pairwise_append] at hs;obtain ⟨p1,p2,p3⟩:=hs;rw [List.pairwise_cons] at p2;have hlt : ∀ y∈l1,pos y<pos f:=fun y hy=>p3 y hy f (by simp);have hsub:(l1++l2).Sublist (l1++f::l2):=List.Sublist.append (List.Sublist.refl _) (List.sublist_cons_self ..);have hbf : ∀ t,(doA 3 P s f.1 f.2).bf t=[]:=fun t=>by rw [a3O];exact hb t
   obtain ⟨M,m1,m2,m3⟩:=ih (l1++l2) (by simp at hL ⊢;omega) (hs'.sublist hsub) (fun y hy=>hA y (hsub.subset hy)) _ hbf;refine ⟨f::M,(List.Perm.cons f m1).trans List.perm_middle.symm,List.pairwise_cons.2 ⟨fun y hy => ?_,m2⟩,?_⟩
   ·have hy:=m1.subset hy;refine h1 y (hsub.subset hy) fun e => ?_;subst e;rcases List.mem_append.1 hy with hy | hy
    ·exact Nat.lt_irrefl _ (hlt y hy)
    exact Nat.lt_irrefl _ (p2.1 y hy)
   rw [b2L l1 s hb fun y hy=>⟨fun e=>by subst e;exact Nat.lt_irrefl _ (hlt y hy),h2 y (List.mem_append_left _ hy) (hlt y hy)⟩];exact m3
inductive Trc (k:Nat) (P:Pg):List Pt->Prop
 | nil:Trc k P []
 | snoc {L:List Pt} {x:Pt} (h:Trc k P L) (h1:x.1<P.length) (h2:x.2<(thr P x.1).length) (h3:x∉L) (h4 : ∀ j,j<x.2->must k (acA P x) (acA P (x.1,j))->(x.1,j)∈L):Trc k P (L++[x])
theorem b7M {P:Pg} (y:Pt) : ∀ (L:List Pt) (s:AS),(ex P s L).dn y.1 y.2=true↔y∈L\/s.dn y.1 y.2=true
 | [],s=>by simp [ex]
 | x::L,s=>by
   have e:ex P s (x::L)=ex P (doA 3 P s x.1 x.2) L:=rfl;rw [e,b7M y L,b4O];by_cases h:y=x <;> simp [h]
theorem a6b {P:Pg} (y:Pt) (L:List Pt):(ex P AS.init L).dn y.1 y.2=true↔y∈L:=by
 rw [b7M];simp [AS.init]
theorem a9O {k:Nat} (hk:k≠2) {P:Pg} {u:AS}:Stps k P AS.init u ↔ ∃ L,Trc k P L/\u=ex P AS.init L:=by
 constructor
 ·intro h
  induction h with
  | refl=>exact ⟨[],.nil,rfl⟩
  | tail h h' ih =>
    obtain ⟨L,hL,rfl⟩:=ih;cases h' with
    | out t ht hk2=>exact absurd hk2 hk
    | act t i ht hi hm =>
      refine ⟨L++[(t,i)],.snoc hL ht hi ?_ fun j hj hmu => ?_,?_⟩
      ·intro hx;have:=(a6b (P:=P) (t,i) L).2 hx;have h1:(ex P AS.init L).dn t i=false:=hm.1;simp only at this;rw [h1] at this;cases this
      ·exact (a6b (P:=P) (t,j) L).1 (hm.2.1 j hj hmu)
      rw [b4P,b6b hk];rfl
 rintro ⟨L,hL,rfl⟩
 induction hL with
 | nil=>exact .refl _
 | @snoc L x hL h1 h2 h3 h4 ih =>
   refine .tail ih ?_;rw [b4P];have:ex P (ex P AS.init L) [x]=doA k P (ex P AS.init L) x.1 x.2:=by rw [b6b hk];rfl
   rw [this];refine .act _ _ h1 h2 ⟨?_,fun j hj hmu => ?_,fun hk2=>absurd hk2 hk⟩
   ·show (ex P AS.init L).dn x.1 x.2=false;rw [Bool.eq_false_iff];exact fun h=>h3 ((a6b x L).1 h)
   exact (a6b (P:=P) (x.1,j) L).2 (h4 j hj hmu)
theorem Trc.pos {k:Nat} {P:Pg} {L:List Pt} (h:Trc k P L) : ∃ pos:Pt->Nat,L.Pairwise (fun x y=>pos x<pos y)/\(∀ y∈L,pos y<L.length) /\
  ∀ x∈L,∀ j,j<x.2->must k (acA P x) (acA P (x.1,j))->(x.1,j)∈L/\pos (x.1,j)<pos x:=by
 induction h with
 | nil=>exact ⟨fun _=>0,.nil,fun y hy=>(by cases hy),fun y hy=>(by cases hy)⟩
 | @snoc L x hL h1 h2 h3 h4 ih =>
   obtain ⟨pos,p1,p2,p3⟩:=ih;have hne : ∀ y∈L,y≠x:=fun y hy e=>h3 (e▸hy);have e : ∀ y∈L,(if y=x then L.length else pos y)=pos y:=fun y hy=>if_neg (hne y hy)
   refine ⟨fun y=>if y=x then L.length else pos y,?_,?_,?_⟩
   ·rw [List.pairwise_append];refine ⟨?_,by simp,fun y hy z hz => ?_⟩
    ·refine (List.Pairwise.imp_of_mem ?_ p1);intro a b ha hb hab;show (if a=x then L.length else pos a)<(if b=x then L.length else pos b)
     rw [e a ha,e b hb];exact hab
    rw [List.mem_singleton] at hz;subst hz;show (if y=z then L.length else pos y)<(if z=z then L.length else pos z)
    rw [e y hy,if_pos rfl];exact p2 y hy
   ·intro y hy;rw [List.length_append,List.length_singleton];rcases List.mem_append.1 hy with hy | hy
    ·simp only [e y hy];have:=p2 y hy;omega
    rw [List.mem_singleton] at hy;subst hy;simp
   intro y hy j hj hmu;rcases List.mem_append.1 hy with hy | hy
   ·obtain ⟨q1,q2⟩:=p3 y hy j hj hmu;simp only [e y hy,e _ q1];exact ⟨List.mem_append_left _ q1,q2⟩
   rw [List.mem_singleton] at hy;subst hy;have q1:=h4 j hj hmu;simp only [e _ q1,if_true];exact ⟨List.mem_append_left _ q1,p2 _ q1⟩
theorem Trc.dom {k:Nat} {P:Pg} {L:List Pt} (h:Trc k P L) : ∀ x∈L,x.1<P.length/\x.2<(thr P x.1).length:=by
 induction h with
 | nil=>exact fun y hy=>(by cases hy)
 | snoc hL h1 h2 h3 h4 ih =>
   intro y hy;rcases List.mem_append.1 hy with hy | hy
   ·exact ih y hy
   rw [List.mem_singleton] at hy;subst hy;exact ⟨h1,h2⟩
def Whole (P:Pg) (L:List Pt):Prop := ∀ t i,t<P.length->i<(thr P t).length->(t,i)∈L
theorem a6c {P:Pg} {L:List Pt}:b5B P (ex P AS.init L)↔Whole P L:=by
 constructor
 ·intro h t i ht hi;exact (a6b (P:=P) (t,i) L).1 ((h t ht).1 i hi)
 intro h t ht;exact ⟨fun i hi=>(a6b (P:=P) (t,i) L).2 (h t i ht hi),by rw [b7L];rfl⟩
theorem b2M {k:Nat} (hk:k≠2) {P:Pg} {o:List Int}:Can k P o ↔ ∃ L,Trc k P L/\Whole P L/\b2X P (ex P AS.init L)=o:=by
 constructor
 ·rintro ⟨s,h1,h2,h3⟩;obtain ⟨L,hL,rfl⟩:=(a9O hk).1 h1;exact ⟨L,hL,a6c.1 h2,h3⟩
 rintro ⟨L,h1,h2,h3⟩;exact ⟨_,(a9O hk).2 ⟨L,h1,rfl⟩,a6c.2 h2,h3⟩
theorem least {α:Type} (f:α->Nat) (p:α->Prop) (h : ∃ a,p a) : ∃ a,p a /\ ∀ b,p b->f a<=f b:=by
 have key : ∀ (n:Nat) (a:α),f a<n->p a -> ∃ a,p a /\ ∀ b,p b->f a<=f b:=by
  intro n
  induction n with
  | zero=>intro a h;omega
  | succ n ih =>
    intro a ha hp;by_cases hb : ∃ b,p b/\f b<f a
    ·obtain ⟨b,h1,h2⟩:=hb;exact ih b (by omega) h1
    exact ⟨a,hp,fun b hb'=>Nat.le_of_not_lt fun hlt=>hb ⟨b,hb',hlt⟩⟩
 obtain ⟨a,ha⟩:=h;exact key _ a (Nat.lt_succ_self _) ha
def cfl (P:Pg) (x y:Pt):Prop:=x.1≠y.1 /\ ¬ a4m (acA P x) (acA P y)
def inP (P:Pg) (x:Pt):Prop:=x.1<P.length/\x.2<(thr P x.1).length
def stn (P:Pg) (t a b:Nat):Prop:=inP P (t,a)/\inP P (t,b)/\(acA P (t,a)).1≠3/\(acA P (t,b)).1≠3/\(a=b\/(a<b/\(acA P (t,a)).2.1≠(acA P (t,b)).2.1))
def b2N (P:Pg) (t a b:Nat):Prop := ∃ c,a<c/\c<b/\(acA P (t,c)).1=3
structure NC (P:Pg):Prop where
 n2 : ∀ t a b u c d,stn P t a b->stn P u c d->cfl P (t,b) (u,c)->cfl P (u,d) (t,a)->(a<b->b2N P t a b)/\(c<d->b2N P u c d)
 n3 : ∀ t a b u c d v e f,t≠v->stn P t a b->stn P u c d->stn P v e f->cfl P (t,b) (u,c)->cfl P (u,d) (v,e)->cfl P (v,f) (t,a)->(a<b->b2N P t a b)/\(c<d->b2N P u c d)/\(e<f->b2N P v e f)
def a8m (P:Pg):Prop := ∀ x y,inP P x->inP P y->x.1≠y.1->a4m (acA P x) (acA P y)
def lexB (x y:Pt):Prop:=x.1<y.1\/(x.1=y.1/\x.2<y.2)
theorem b2O {L:List Pt} (h:L≠[]) : ∃ f∈L,∀ y∈L,y≠f->lexB f y:=by
 obtain ⟨x,hx⟩:=List.exists_mem_of_ne_nil L h;obtain ⟨t,⟨i,hi⟩,h2⟩:=least (fun t=>t) (fun t => ∃ i,(t,i)∈L) ⟨x.1,x.2,hx⟩;obtain ⟨f,hf,h4⟩:=least (fun i=>i) (fun i=>(t,i)∈L) ⟨i,hi⟩;refine ⟨(t,f),hf,fun y hy hne => ?_⟩;obtain ⟨u,j⟩:=y;have h5:t<=u:=h2 u ⟨j,hy⟩;unfold lexB;simp only;rcases Nat.lt_or_eq_of_le h5 with g | g
 ·exact .inl g
 subst g;have h6:f<=j:=h4 j hy;rcases Nat.lt_or_eq_of_le h6 with g | g
 ·exact .inr ⟨rfl,g⟩
 subst g;exact absurd rfl hne
theorem a8n {P:Pg} (hn:a8m P) {L:List Pt} (hL:Trc 3 P L) : ∃ L',L'.Perm L/\L'.Pairwise lexB/\ex P AS.init L'=ex P AS.init L:=by
 obtain ⟨pos,p1,_,p3⟩:=hL.pos;have hdom:=hL.dom;refine b6c (P:=P) pos lexB (fun x=>x∈L) ?_ L.length L rfl p1 (fun y hy=>hy) AS.init (fun _=>rfl);intro M hne hs hsub;obtain ⟨f,hf,h1⟩:=b2O hne;refine ⟨f,hf,h1,fun y hy hlt => ?_⟩;by_cases ht:y.1=f.1
 ·obtain ⟨u,j⟩:=y;obtain ⟨t,i⟩:=f;simp only at ht;subst ht;refine Classical.byContradiction fun hi => ?_;obtain ⟨n1,n2,n3,_⟩:=a8k hi;have hne2:(u,j)≠(u,i):=fun e=>by rw [e] at hlt;omega
  have hj:i<j:=by
   rcases h1 _ hy hne2 with g | ⟨_,g⟩
   ·simp at g
   exact g
  have:pos (u,i)<pos (u,j):=(p3 (u,j) (hsub _ hy) i hj (.inr (.inr (.inr n3)))).2;omega
 exact hn y f (hdom _ (hsub _ hy)) (hdom _ (hsub _ hf)) ht
theorem b4c : ∀ {L M:List Pt},L.Perm M->L.Pairwise lexB->M.Pairwise lexB->L=M:=by
 intro L M hp h1 h2;refine hp.eq_of_pairwise (fun a b _ _ hab hba => ?_) h1 h2;unfold lexB at hab hba;omega
theorem a6S {P:Pg} (hn:a8m P) {o o':List Int} (h:Can 3 P o) (h':Can 3 P o'):o=o':=by
 obtain ⟨L,hL,hw,ho⟩:=(b2M (by decide)).1 h;obtain ⟨M,hM,hw',ho'⟩:=(b2M (by decide)).1 h';obtain ⟨L1,a1,a2,a3⟩:=a8n hn hL;obtain ⟨M1,b1,b2,b3⟩:=a8n hn hM;have hnd : ∀ {K:List Pt},K.Pairwise lexB->K.Nodup:=fun hk=>hk.imp fun hab e=>by
  subst e;unfold lexB at hab;omega
 have hp:L1.Perm M1:=by
  refine (List.perm_ext_iff_of_nodup (hnd a2) (hnd b2)).2 fun x => ?_;constructor
  ·intro hx;have:=hL.dom x (a1.mem_iff.1 hx);exact b1.mem_iff.2 (hw' x.1 x.2 this.1 this.2)
  intro hx;have:=hM.dom x (b1.mem_iff.1 hx);exact a1.mem_iff.2 (hw x.1 x.2 this.1 this.2)
 have:=b4c hp a2 b2;subst this;rw [<-ho,<-ho',<-a3,b3]
def fenced (P:Pg):Prop := ∀ t i,i+1<(thr P t).length->(acA P (t,i)).1=3\/(acA P (t,i+1)).1=3
structure SP (P:Pg) (s:Sta) (n:Nat->Nat):Prop where
 k:WfK 1 P s
 b : ∀ t,t<3 -> ∀ j,btI (s t) j=decide (j<n t)
 l : ∀ t,n t<=(thr P t).length
theorem SP.init (P:Pg):SP P s0 (fun _=>0):=⟨WfK.init 1 P,fun t ht j=>by unfold btI s0;simp,fun t=>Nat.zero_le _⟩
theorem b6d (P:Pg) (s:Sta) (t i:Nat) {u:Nat} (hu:u<3):doS P s t i u=dS s t i u:=by
 unfold doS;split
 ·rw [a0c _ _ _ (by omega)]
 split
 ·rw [a0c _ _ _ (by omega)]
 rfl
section
variable {P:Pg} (hv:VP P) {s:Sta} {n:Nat->Nat} (h:SP P s n)
include hv h
theorem SP.step {t:Nat} (ht:t<P.length) (hi:n t<(thr P t).length):SP P (doS P s t (n t)) (fup n t (n t+1)):=by
 have ht3:=lt3 hv ht;have hb:btI (s t) (n t)=false:=by rw [h.b t ht3];simp
 have hw:=b4G hv h.k ht hi hb;have e:a4j 1 P s t (n t)=doS P s t (n t):=by unfold a4j;simp
 rw [e] at hw;refine ⟨hw,fun u hu j => ?_,fun u => ?_⟩
 ·rw [b6d P s t _ hu];unfold dS;by_cases hut:u=t
  ·subst hut;rw [a0g,a0g,a5m,h.b u hu];rw [Bool.eq_iff_iff];simp;omega
  rw [a0c _ _ _ hut,a0c _ _ _ hut];exact h.b u hu j
 by_cases hut:u=t
 ·subst hut;rw [a0g];omega
 rw [a0c _ _ _ hut];exact h.l u
theorem SP.over:a3t P s=true ↔ ∀ t,t<P.length->n t=(thr P t).length:=by
 unfold a3t;rw [List.all_eq_true];constructor
 ·intro hh t ht;have:=hh t (List.mem_range.2 ht);rw [zp4,decide_eq_true_eq] at this;obtain ⟨d0,d1⟩:=h.k.wf.d t (lt3 hv ht);have hl:=h.l t;rcases Nat.lt_or_eq_of_le hl with g | g
  ·have:=(a6G d0 d1).1 this.1 _ g;rw [h.b t (lt3 hv ht)] at this;simp at this
  exact g
 intro hh t ht;have ht:=List.mem_range.1 ht;obtain ⟨d0,d1⟩:=h.k.wf.d t (lt3 hv ht);rw [zp4,decide_eq_true_eq];refine ⟨(a6G d0 d1).2 fun i hi => ?_,?_⟩
 ·rw [h.b t (lt3 hv ht),hh t ht];simpa using hi
 rw [h.k.nb (by decide) t (lt3 hv ht)];rfl
end
def run (P:Pg):Sta->List Nat->Option Sta
 | s,[]=>some s
 | s,t::w=>if t<P.length/\nx s t<(thr P t).length then run P (doS P s t (nx s t)) w else none
def ren (m t:Nat):Nat:=if t<m then m-1-t else t
section
variable (a b:Int)
def sg (c:Int):Int:=if c=a then b else if c=b then a else c
def swA (x:Ac):Ac:=if x.1=3 then x else (x.1,sg a b x.2.1,x.2.2)
def swP (P:Pg):Pg:=P.map fun l=>l.map (swA a b)
end
theorem b4Q {l:List Ac} (h:l.length<=1000000):M83 Ar.std (eT l)=some (eT l):=by
 have e:ap Ar.std [] (eT l)=some (eT l):=a6E (by omega);unfold M83;by_cases h0:0<l.length
 ·exact cnT (by simp;omega) (bt e rfl)
 obtain rfl:l=[]:=List.length_eq_zero_iff.1 (by omega);refine cnF (by simp) ?_;rw [show ap Ar.std [] (eT [])=some [] from e];simp [both]
theorem b4d (l:List Ac) {i:Nat} (h:i<l.length) (x:Ac) {z:Nat} (hz:z=i):Ar.std.lset (eT l) z (.agg [.int .i64 x.1,.int .i64 x.2.1,.int .i64 x.2.2])=eT (l.set i x):=by
 subst hz;show (eT l).set z _=_;unfold eT enc;rw [List.map_set];rfl
theorem gcT {l:List Ac} {i:Nat} {x:Ac} (h:l[i]?=some x) {z:Nat} (hz:z=i):gc Ar.std cA3 (eT l) z=some x:=by
 subst hz;have h2:(eT l)[z]?=some (cA3.en x):=by
  unfold eT enc;rw [List.getElem?_map,h];rfl
 unfold gc;have:Ar.std.lget (eT l) z=some (cA3.en x):=h2;rw [this];rfl
theorem fzT (l:List Ac):fz Ar.std (eT l) 0 (Ar.std.len (eT l))=some (eT l):=by
 unfold fz;have hz:Ar.std.zle (Ar.std.zadd 0 (Ar.std.len (eT l))) (Ar.std.len (eT l))=true:=by simp
 rw [hz,cond_true];have:Ar.std.sub (eT l) 0 (Ar.std.zadd 0 (Ar.std.len (eT l)))=eT l:=by
  show ((eT l).drop (0:Int).toNat).take ((0+((eT l).length:Int)).toNat-(0:Int).toNat)=_;simp;exact List.take_of_length_le (by simp)
 rw [this]
theorem b9r (l:List Ac):scalars (eT l)=true:=by
 unfold scalars eT enc;rw [List.all_eq_true];intro x hx;obtain ⟨y,_,rfl⟩:=List.mem_map.1 hx
 rfl
theorem b7N {l:List Ac} (hl:l.length<=20) (a b:Int):M85 Ar.std (eT l) a b=some (eT (l.map (swA a b))):=by
 unfold M85;refine bt (b4Q (by omega)) ?_;by_cases h0:0<l.length
 ·refine cnT (by simp;omega) (bck (b9r l) ?_);have key:=a1A (step:=a9V Ar.std a b (eT l)) l.length (fun (_:Unit) (i:Nat)=>((i:Int),eT ((l.map (swA a b)).take i++l.drop i))) (fun _ _=>True) (fun _=>eT (l.map (swA a b)))
   (fun i _ hi _=>by
    refine ⟨(),trivial,?_⟩;unfold a9V;dsimp only;have hx:=zp1 hi;generalize l[i]=x at hx;have hlen:((l.map (swA a b)).take i++l.drop i).length=l.length:=by simp;omega
    have hmx:((l.map (swA a b)).take i++l.drop i)[i]?=some x:=by
     rw [zp8 (by simp;omega),List.getElem?_drop];rw [show i+(i-((l.map (swA a b)).take i).length)=i by simp;omega];exact hx
    have hnext : ∀ y,y=swA a b x->((l.map (swA a b)).take i++l.drop i).set i y=(l.map (swA a b)).take (i+1)++l.drop (i+1):=by
     rintro y rfl;have hmg:(l.map (swA a b))[i]?=some (swA a b x):=by rw [List.getElem?_map,hx];rfl
     rw [a0h hmg];apply List.ext_getElem?;intro j;rcases Nat.lt_trichotomy j i with g | g | g
     ·rw [List.getElem?_set_ne (by omega),zp7 (by simp;omega),List.append_assoc,zp7 (by simp;omega)]
     ·subst g;rw [List.getElem?_set_self (by omega),List.append_assoc,zp8 (by simp;omega)];rw [show j-((l.map (swA a b)).take j).length=0 by simp;omega];rfl
     rw [List.getElem?_set_ne (by omega),zp8 (by simp;omega),zp8 (by simp;omega),List.getElem?_drop,List.getElem?_drop];congr 1;simp;omega
    have hsame:swA a b x=x->((l.map (swA a b)).take i++l.drop i)=(l.map (swA a b)).take (i+1)++l.drop (i+1):=fun hs=>by
     rw [<-hnext x hs.symm];apply List.ext_getElem?;intro j;by_cases g:j=i
     ·subst g;rw [List.getElem?_set_self (by omega),hmx]
     rw [List.getElem?_set_ne (by omega)]
    have ez:Ar.std.nat (Ar.std.zadd 0 (i:Int))=i:=b6r (by simp);have ew:Ar.std.wrp .i64 (Ar.std.zadd (i:Int) 1)=((i+1:Nat):Int):=by simp only [a0n,a0q];exact a3j (n:=100) (by omega) (by omega)
    rw [ew,ez];refine cnT (by simp;omega) (bck (by simp) (bck (by simp;omega) (bt (gcT hmx rfl) (bt (v := !decide (x.1=3)) rfl (bt (v:=eT ((l.map (swA a b)).take (i+1)++l.drop (i+1))) ?_ rfl)))));by_cases h3:x.1=3
    ·rw [decide_eq_true h3];rw [hsame (by unfold swA;rw [if_pos h3])];rfl
    rw [decide_eq_false h3];refine cnT rfl (bt (v:=eT ((l.map (swA a b)).take (i+1)++l.drop (i+1))) ?_ rfl);by_cases ha:x.2.1=a
    ·refine cnT (by simp [ha]) (bck (by simp) (bck (by simp;omega) ?_));rw [<-hnext (x.1,b,x.2.2) (by unfold swA sg;rw [if_neg h3,if_pos ha])];exact congrArg some (b4d _ (by omega) (x.1,b,x.2.2) rfl)
    refine cnF (by simp [ha]) (bt (v:=eT ((l.map (swA a b)).take (i+1)++l.drop (i+1))) ?_ rfl);by_cases hb:x.2.1=b
    ·refine cnT (by simp [hb]) (bck (by simp) (bck (by simp;omega) ?_));rw [<-hnext (x.1,a,x.2.2) (by unfold swA sg;rw [if_neg h3,if_neg ha,if_pos hb])];exact congrArg some (b4d _ (by omega) (x.1,a,x.2.2) rfl)
    refine cnF (by simp [hb]) ?_;rw [hsame (by unfold swA sg;rw [if_neg h3,if_neg ha,if_neg hb])])
   (fun _ _=>by
    unfold a9V;dsimp only;refine cnF (by simp) ?_;rw [List.take_of_length_le (by simp),List.drop_eq_nil_of_le (Nat.le_refl _),List.append_nil]) () trivial
  obtain ⟨_,_,h⟩:=key;refine bt (show iter (a9V Ar.std a b (eT l)) (0,eT l)=_ from h) ?_;have el:Ar.std.len (eT l)=Ar.std.len (eT (l.map (swA a b))):=by simp
  rw [el];exact bt (fzT _) rfl
 obtain rfl:l=[]:=List.length_eq_zero_iff.1 (by omega);refine cnF (by simp) (bt (v:=()) ?_ rfl);refine a0X ?_;unfold b4U;exact cnF (by simp) rfl
theorem b7O {P:Pg} (hv:VP P) (a b:Int):M84 Ar.std (eP P) a b=some (eP (swP a b P),0):=by
 have hn3:=hv.n3;have e:=a5l (VP.short hv);rw [VP.to hv] at e;have el:Ar.std.len (eP P)=(P.length:Int):=by simp
 have key:=a1A (step:=a9W Ar.std (eP P) a b) P.length (fun (_:Unit) (i:Nat)=>((i:Int),eP ((swP a b P).take i))) (fun _ _=>True) (fun _=>eP (swP a b P))
  (fun i _ hi _=>by
   refine ⟨(),trivial,?_⟩;unfold a9W;dsimp only;have hr:(swP a b P)[i]?=some ((thr P i).map (swA a b)):=by unfold swP;rw [List.getElem?_map,a0F hi];rfl
   have hl7:=hv.l7 i;have ea:ap Ar.std (eP ((swP a b P).take i)) [D.list 3 (eT ((thr P i).map (swA a b)))]=some (eP ((swP a b P).take (i+1))):=by
    rw [a9x (by simp;omega),a0h hr];unfold eP enc;rw [List.map_append,List.map_append];rfl
   refine cnT (by simp;omega) (bt (a2b (a0F hi)) (bt (b7N (by omega) a b) (bt ea ?_)));simp only [a0n,a0q];rw [a3w _ (by omega) (by omega)];rfl)
  (fun _ _=>by
   unfold a9W;dsimp only;refine cnF (by simp) ?_;rw [List.take_of_length_le (by unfold swP;simp)]) () trivial
 obtain ⟨_,_,h⟩:=key;have ezle:Ar.std.zle 0 (Ar.std.len (eP P))=true:=by rw [el,a5i,decide_eq_true_eq];omega
 have efit:Ar.std.fits (Ar.std.len (eP P))=true:=by rw [el,a9w,decide_eq_true_eq];omega
 unfold M84;refine bt e (cnT rfl (bck ezle (bck rfl (bck efit (bt (show iter (a9W Ar.std (eP P) a b) (0,Ar.std.rep 0 (.list 3 []))=_ from h) rfl)))))
theorem b7P {P:Pg} (hv:VP P) {a b:Int} (ha:0<=a/\a<=2) (hb:0<=b/\b<=2):M40 Ar.std (eP P) a b=some (eP (swP a b P),0):=by
 have e:=a5l (VP.short hv);rw [VP.to hv] at e;have b1:btw 0 a 2=true:=by unfold btw;simp;omega
 have b2:btw 0 b 2=true:=by unfold btw;simp;omega
 unfold M40;refine bt e (cnT rfl (bt (v:=false) (bt (a3n _ _ _) ?_) (cnF rfl (bt (b7O hv a b) rfl))));rw [b1];refine cnT rfl (bt (a3n _ _ _) ?_);rw [b2];rfl
def eMp (l:List (Int×Int)):List (D×D):=l.map fun p=>(.int .i64 p.1,.int .u64 p.2)
def gI:List (Int×Int)->Int->Option Int
 | [],_=>none
 | p::l,k=>if p.1=k then some p.2 else gI l k
def pI:List (Int×Int)->Int->Int->List (Int×Int)
 | [],k,m=>[(k,m)]
 | p::l,k,m=>if p.1=k then (k,m)::l else p::pI l k m
theorem lkM (l:List (Int×Int)) (k:Int):lk Ar.std (cI .u64) (eMp l) (.int .i64 k)=some (gI l k):=by
 have e:Ar.std.mget (eMp l) (.int .i64 k)=(gI l k).map (.int .u64):=by
  show Am.mget _ _=_
  induction l with
  | nil=>rfl
  | cons p l ih =>
    unfold eMp at ih ⊢;simp only [List.map_cons,Am.mget,gI];by_cases h:p.1=k
    ·subst h;simp
    have : ¬ (D.int .i64 p.1=D.int .i64 k):=fun e=>h (by injection e);rw [if_neg this,if_neg h,ih]
 unfold lk;rw [e];cases gI l k <;> rfl
theorem b7Q (l:List (Int×Int)) (k m:Int):Ar.std.mput (eMp l) (.int .i64 k) (.int .u64 m)=eMp (pI l k m):=by
 show Am.mput _ _ _=_
 induction l with
 | nil=>rfl
 | cons p l ih =>
   unfold eMp at ih ⊢;simp only [List.map_cons,Am.mput,pI];by_cases h:p.1=k
   ·subst h;simp
   have : ¬ (D.int .i64 p.1=D.int .i64 k):=fun e=>h (by injection e);rw [if_neg this,if_neg h,ih];rfl
theorem b7R (l:List (Int×Int)) (k m v:Int):gI (pI l k m) v=if k=v then some m else gI l v:=by
 induction l with
 | nil=>rfl
 | cons p l ih =>
   simp only [pI];by_cases h:p.1=k
   ·rw [if_pos h];simp only [gI];by_cases hv:k=v
    ·rw [if_pos hv,if_pos hv]
    rw [if_neg hv,if_neg hv,if_neg (by rw [h];exact hv)]
   rw [if_neg h];simp only [gI,ih];by_cases hv:p.1=v
   ·rw [if_pos hv,if_neg (fun e=>h (hv.trans e.symm)),if_pos hv]
   rw [if_neg hv,if_neg hv]
theorem b6e (l:List (Int×Int)) (k m:Int):(pI l k m).map (·.1)=if k∈l.map (·.1) then l.map (·.1) else l.map (·.1)++[k]:=by
 induction l with
 | nil=>rfl
 | cons p l ih =>
   simp only [pI];by_cases h:p.1=k
   ·rw [if_pos h];simp [h]
   rw [if_neg h];simp only [List.map_cons,ih];by_cases hk:k∈l.map (·.1)
   ·rw [if_pos hk,if_pos (List.mem_cons_of_mem _ hk)]
   rw [if_neg hk,if_neg (by rw [List.mem_cons];rintro (e | e);exact h e.symm;exact hk e)];rfl
theorem b2P {l:List (Int×Int)} {v:Int}:v∈l.map (·.1) ↔ ∃ m,gI l v=some m:=by
 induction l with
 | nil=>simp [gI]
 | cons p l ih =>
   simp only [List.map_cons,List.mem_cons,gI];by_cases h:p.1=v
   ·rw [if_pos h];simp [h]
   rw [if_neg h,<-ih];constructor
   ·rintro (e | e)
    ·exact absurd e.symm h
    exact e
   exact .inr
theorem orF : ∀ (a:Fin 8) (t:Fin 3),a2p .or .u64 (a.val:Int) (IntKind.u64.wrap (1*2 ^ (min t.val IntKind.u64.bits)))=((a.val ||| 2 ^ t.val:Nat):Int):=by decide +kernel
theorem or8 : ∀ (a:Fin 8) (t:Fin 3),(a.val ||| 2 ^ t.val)<8:=by decide +kernel
theorem b7S : ∀ a:Fin 8,decide (a2p .and .u64 (a.val:Int) (IntKind.u64.wrap ((a.val:Int)-1))=0)=decide (∀ t u:Fin 3,a.val.testBit t.val=true->a.val.testBit u.val=true->t=u):=by decide +kernel
theorem orM {a:Nat} (ha:a<8) {t:Nat} (ht:t<3):Ar.std.bits .or .u64 (a:Int) (Ar.std.shl .u64 1 (t:Int))=((a ||| 2 ^ t:Nat):Int):=orF ⟨a,ha⟩ ⟨t,ht⟩
theorem b4R {a:Nat} (ha:a<8):M92 Ar.std (a:Int)=some (decide (∀ t u:Fin 3,a.testBit t.val=true->a.testBit u.val=true->t=u)):=by
 unfold M92;have:=b7S ⟨a,ha⟩;exact congrArg some this
structure Cov (P:Pg) (Pr:Nat->Nat->Prop) (q:Ac->Prop) (l:List (Int×Int)):Prop where
 nd:(l.map (·.1)).Nodup
 no : ∀ v,gI l v=none -> ∀ t i,Pr t i->q (acA P (t,i))->(acA P (t,i)).2.1≠v
 ye : ∀ v m,gI l v=some m->0<=v/\v<=2/\(∃ t i,Pr t i/\q (acA P (t,i))/\(acA P (t,i)).2.1=v) /\ ∃ a:Nat,m=a/\a<8 /\ ∀ t,t<3->(a.testBit t=true ↔ ∃ i,Pr t i/\q (acA P (t,i))/\(acA P (t,i)).2.1=v)
theorem Cov.nil (P:Pg) (q:Ac->Prop) {Pr:Nat->Nat->Prop} (h : ∀ t i,¬ Pr t i):Cov P Pr q [] :=
 ⟨.nil,fun v _ t i hp=>absurd hp (h t i),fun v m h=>by cases h⟩
theorem Cov.same {P:Pg} {Pr Pr':Nat->Nat->Prop} {q:Ac->Prop} {l:List (Int×Int)} (h:Cov P Pr q l) (hp : ∀ t i,Pr' t i/\q (acA P (t,i))↔Pr t i/\q (acA P (t,i))):Cov P Pr' q l:=by
 refine ⟨h.nd,fun v hv t i hpr hq=>h.no v hv t i ((hp t i).1 ⟨hpr,hq⟩).1 hq,fun v m hm => ?_⟩;obtain ⟨h1,h2,⟨t,i,h3,h4,h5⟩,a,h6,h7,h8⟩:=h.ye v m hm;refine ⟨h1,h2,⟨t,i,((hp t i).2 ⟨h3,h4⟩).1,h4,h5⟩,a,h6,h7,fun u hu=>(h8 u hu).trans ?_⟩;constructor
 ·rintro ⟨j,g1,g2,g3⟩;exact ⟨j,((hp u j).2 ⟨g1,g2⟩).1,g2,g3⟩
 rintro ⟨j,g1,g2,g3⟩;exact ⟨j,((hp u j).1 ⟨g1,g2⟩).1,g2,g3⟩
theorem Cov.put {P:Pg} {Pr Pr':Nat->Nat->Prop} {q:Ac->Prop} {l:List (Int×Int)} (h:Cov P Pr q l) {t i:Nat} (ht:t<3) (hq:q (acA P (t,i))) {c:Int} (hc:(acA P (t,i)).2.1=c) (c0:0<=c) (c2:c<=2)
  (hp : ∀ u j,Pr' u j↔Pr u j\/(u=t/\j=i)) : ∃ a:Nat,a<8/\(gI l c=none/\a=0\/gI l c=some (a:Int))/\Cov P Pr' q (pI l c ((a ||| 2 ^ t:Nat):Int)):=by
 have hor : ∀ {a u:Nat},(a ||| 2 ^ t).testBit u=true↔a.testBit u=true\/u=t:=fun {a u}=>by
  rw [Nat.testBit_or,Nat.testBit_two_pow,Bool.or_eq_true,decide_eq_true_eq];constructor
  ·rintro (h | h);exact .inl h;exact .inr h.symm
  rintro (h | h);exact .inl h;exact .inr h.symm
 have key : ∀ a:Nat,a<8->(∀ u,u<3->(a.testBit u=true ↔ ∃ j,Pr u j/\q (acA P (u,j))/\(acA P (u,j)).2.1=c))->Cov P Pr' q (pI l c ((a ||| 2 ^ t:Nat):Int)):=by
  intro a ha hb;refine ⟨?_,fun v hv u j hpr hqu => ?_,fun v m hm => ?_⟩
  ·rw [b6e];split
   ·exact h.nd
   rename_i hn;rw [List.nodup_append];exact ⟨h.nd,by simp,fun x hx y hy=>by simp at hy;subst hy;exact fun e=>hn (e▸hx)⟩
  ·rw [b7R] at hv;split at hv
   ·cases hv
   rename_i hne;rcases (hp u j).1 hpr with hpr | ⟨rfl,rfl⟩
   ·exact h.no v hv u j hpr hqu
   rw [hc];exact hne
  rw [b7R] at hm;split at hm
  ·rename_i hcv;subst hcv;cases hm;refine ⟨c0,c2,⟨t,i,(hp t i).2 (.inr ⟨rfl,rfl⟩),hq,hc⟩,_,rfl,or8 ⟨a,ha⟩ ⟨t,ht⟩,fun u hu => ?_⟩;rw [hor,hb u hu];constructor
   ·rintro (⟨j,g1,g2,g3⟩ | rfl)
    ·exact ⟨j,(hp u j).2 (.inl g1),g2,g3⟩
    exact ⟨i,(hp u i).2 (.inr ⟨rfl,rfl⟩),hq,hc⟩
   rintro ⟨j,g1,g2,g3⟩;rcases (hp u j).1 g1 with g1 | ⟨g1,_⟩
   ·exact .inl ⟨j,g1,g2,g3⟩
   exact .inr g1
  rename_i hne;obtain ⟨h1,h2,⟨t',i',h3,h4,h5⟩,b,h6,h7,h8⟩:=h.ye v m hm;refine ⟨h1,h2,⟨t',i',(hp t' i').2 (.inl h3),h4,h5⟩,b,h6,h7,fun u hu=>(h8 u hu).trans ?_⟩;constructor
  ·rintro ⟨j,g1,g2,g3⟩;exact ⟨j,(hp u j).2 (.inl g1),g2,g3⟩
  rintro ⟨j,g1,g2,g3⟩;rcases (hp u j).1 g1 with g1 | ⟨rfl,rfl⟩
  ·exact ⟨j,g1,g2,g3⟩
  exact absurd (hc.symm.trans g3) hne
 cases hg:gI l c with
 | none =>
   refine ⟨0,by omega,.inl ⟨rfl,rfl⟩,key 0 (by omega) fun u hu => ?_⟩;constructor
   ·intro h;simp at h
   rintro ⟨j,g1,g2,g3⟩;exact absurd g3 (h.no c hg u j g1 g2)
 | some m =>
   obtain ⟨_,_,_,a,rfl,h7,h8⟩:=h.ye c m hg;exact ⟨a,h7,.inr rfl,key a h7 h8⟩
def qW (a:Ac):Prop:=a.1≠3
def qS (a:Ac):Prop:=a.1=2
def a4C (t i:Nat):Nat->Nat->Prop:=fun u j=>u<t\/(u=t/\j<i)
theorem b2Q {t i u j:Nat}:a4C t (i+1) u j↔a4C t i u j\/(u=t/\j=i):=by unfold a4C;omega
theorem b4e {P:Pg} (hv:VP P) {t:Nat} (ht:t<P.length) {U S:List (Int×Int)} (hU:Cov P (fun u j=>inP P (u,j)/\a4C t 0 u j) qW U) (hS:Cov P (fun u j=>inP P (u,j)/\a4C t 0 u j) qS S) :
  ∃ U' S',Cov P (fun u j=>inP P (u,j)/\a4C (t+1) 0 u j) qW U'/\Cov P (fun u j=>inP P (u,j)/\a4C (t+1) 0 u j) qS S'/\iter (a7k Ar.std (t:Int) (eT (thr P t))) (0,eMp U,eMp S)=some (eMp U',eMp S'):=by
 have ht3:=lt3 hv ht;have hl7:=hv.l7 t;have key:=a1A (step:=a7k Ar.std (t:Int) (eT (thr P t))) (thr P t).length (fun (s:List (Int×Int)×List (Int×Int)) (i:Nat)=>((i:Int),eMp s.1,eMp s.2))
  (fun i s=>Cov P (fun u j=>inP P (u,j)/\a4C t i u j) qW s.1/\Cov P (fun u j=>inP P (u,j)/\a4C t i u j) qS s.2) (fun s=>(eMp s.1,eMp s.2))
  (fun i s hi hR=>by
   obtain ⟨U,S⟩:=s;obtain ⟨hU,hS⟩:=hR;simp only at hU hS;have hget:=a1B hi;have hact:=hv.act t i hi;have hin:inP P (t,i):=⟨ht,hi⟩;have ew:Ar.std.wrp .i64 (Ar.std.zadd (i:Int) 1)=((i+1:Nat):Int):=by simp only [a0n,a0q];exact a3j (n:=10) (by omega) (by omega)
   have hp : ∀ u j,(inP P (u,j)/\a4C t (i+1) u j)↔(inP P (u,j)/\a4C t i u j)\/(u=t/\j=i):=fun u j=>by
    rw [b2Q];constructor
    ·rintro ⟨h1,h2 | h2⟩
     ·exact .inl ⟨h1,h2⟩
     exact .inr h2
    rintro (⟨h1,h2⟩ | ⟨rfl,rfl⟩)
    ·exact ⟨h1,.inl h2⟩
    exact ⟨hin,.inr ⟨rfl,rfl⟩⟩
   have same : ∀ {q:Ac->Prop} {l:List (Int×Int)},Cov P (fun u j=>inP P (u,j)/\a4C t i u j) q l -> ¬ q (acA P (t,i))->Cov P (fun u j=>inP P (u,j)/\a4C t (i+1) u j) q l:=fun {q l} h hn =>
    h.same fun u j=>by
     rw [hp];constructor
     ·rintro ⟨h1 | ⟨rfl,rfl⟩,h2⟩
      ·exact ⟨h1,h2⟩
      exact absurd h2 hn
     rintro ⟨h1,h2⟩;exact ⟨.inl h1,h2⟩
   have hz:Ar.std.zlt (t:Int) 0=false:=by simp
   have ea:acA P (t,i)=aAt (thr P t) i:=rfl;have put : ∀ {q:Ac->Prop} {l:List (Int×Int)},Cov P (fun u j=>inP P (u,j)/\a4C t i u j) q l->q (acA P (t,i))->0<=(acA P (t,i)).2.1->(acA P (t,i)).2.1<=2 -> ∃ l',Cov P (fun u j=>inP P (u,j)/\a4C t (i+1) u j) q l' /\
     ((lk Ar.std (cI .u64) (eMp l) (.int .i64 (acA P (t,i)).2.1)).bind fun o170=>o170.elim (
       (nk (Ar.std.zlt (t:Int) 0)).bind fun _ =>
       some (Ar.std.mput (eMp l) (.int .i64 (acA P (t,i)).2.1) (.int .u64 (Ar.std.bits .or .u64 0 (Ar.std.shl .u64 1 (t:Int)))))) fun a167 =>
     (nk (Ar.std.zlt (t:Int) 0)).bind fun _ =>
     some (Ar.std.mput (eMp l) (.int .i64 (acA P (t,i)).2.1) (.int .u64 (Ar.std.bits .or .u64 a167 (Ar.std.shl .u64 1 (t:Int))))):Option (List (D×D)))=some (eMp l'):=by
    intro q l h hq h0 h2;obtain ⟨a,a1,a2,a3⟩:=h.put ht3 hq rfl h0 h2 hp;refine ⟨_,a3,bt (lkM l _) ?_⟩;rcases a2 with ⟨a2,rfl⟩ | a2
    ·rw [a2,Option.elim_none,hz];refine bnk rfl ?_;have:=orM (a:=0) (by omega) ht3;rw [show ((0:Nat):Int)=0 from rfl] at this;rw [this,b7Q]
    rw [a2,Option.elim_some,hz];refine bnk rfl ?_;rw [orM a1 ht3,b7Q]
   rcases a3K hact with ⟨h1,c0,c2,_⟩ | ⟨h1,c0,c2,_⟩ | hf
   ·
    obtain ⟨U',u1,u2⟩:=put hU (by rw [ea];unfold qW;omega) (by rw [ea];exact c0) (by rw [ea];exact c2);have k2 : ¬ (aAt (thr P t) i).1=2:=by omega
    rw [ea] at u2;refine ⟨(U',S),⟨u1,same hS (by rw [ea];unfold qS;omega)⟩,?_⟩;unfold a7k;refine cnT (by simp;omega) (bt (a0G hget) (bt (v:=(eMp U',eMp S)) (cnF (decide_eq_false k2) (bt (v:=eMp U') (cnT (decide_eq_true h1) (bt u2 rfl)) rfl)) ?_));dsimp only;rw [ew]
   ·
    obtain ⟨U',u1,u2⟩:=put hU (by rw [ea];unfold qW;omega) (by rw [ea];exact c0) (by rw [ea];exact c2);obtain ⟨S',s1,s2⟩:=put hS (by rw [ea];exact h1) (by rw [ea];exact c0) (by rw [ea];exact c2);rw [ea] at u2 s2;refine ⟨(U',S'),⟨u1,s1⟩,?_⟩;unfold a7k;refine cnT (by simp;omega) (bt (a0G hget) (bt (v:=(eMp U',eMp S')) (cnT (decide_eq_true h1) (bt s2 (bt u2 rfl))) ?_));dsimp only;rw [ew]
   
   have k1 : ¬ (aAt (thr P t) i).1=1:=by rw [hf];decide
   have k2 : ¬ (aAt (thr P t) i).1=2:=by rw [hf];decide
   refine ⟨(U,S),⟨same hU (by rw [ea,hf];unfold qW;simp),same hS (by rw [ea,hf];unfold qS;simp)⟩,?_⟩;unfold a7k;refine cnT (by simp;omega) (bt (a0G hget) (bt (v:=(eMp U,eMp S)) (cnF (decide_eq_false k2) (bt (v:=eMp U) (cnF (decide_eq_false k1) rfl) rfl)) ?_));dsimp only;rw [ew])
  (fun s _=>by
   unfold a7k;exact cnF (by simp) rfl) (U,S) ⟨hU,hS⟩
 obtain ⟨⟨U',S'⟩,⟨h1,h2⟩,h3⟩:=key;have hp : ∀ u j,(inP P (u,j)/\a4C (t+1) 0 u j)↔(inP P (u,j)/\a4C t (thr P t).length u j):=fun u j=>by
  constructor
  ·rintro ⟨g1,g2⟩;refine ⟨g1,?_⟩;unfold a4C at *;by_cases hu:u=t
   ·subst hu;exact .inr ⟨rfl,g1.2⟩
   omega
  rintro ⟨g1,g2⟩;refine ⟨g1,?_⟩;unfold a4C at *;omega
 exact ⟨U',S',h1.same fun u j=>by rw [hp],h2.same fun u j=>by rw [hp],h3⟩
theorem b7T {P:Pg} (hv:VP P) : ∃ b,M51 Ar.std (eP P)=some (b,0)/\(b=true ↔ ¬ a8m P):=by
 have e:=a5l (VP.short hv);rw [VP.to hv] at e;have hn3:=hv.n3;have key:=a1A (step:=a9X Ar.std (eP P)) P.length (fun (s:List (Int×Int)×List (Int×Int)) (t:Nat)=>((t:Int),eMp s.1,eMp s.2))
  (fun t s=>Cov P (fun u j=>inP P (u,j)/\a4C t 0 u j) qW s.1/\Cov P (fun u j=>inP P (u,j)/\a4C t 0 u j) qS s.2) (fun s=>(eMp s.1,eMp s.2))
  (fun t s ht hR=>by
   obtain ⟨U',S',h1,h2,h3⟩:=b4e hv ht hR.1 hR.2;refine ⟨(U',S'),⟨h1,h2⟩,?_⟩;unfold a9X;have ew:Ar.std.wrp .i64 (Ar.std.zadd (t:Int) 1)=((t+1:Nat):Int):=by simp only [a0n,a0q];exact a3j (n:=10) (by omega) (by omega)
   refine cnT (by simp;omega) (bt (a2b (a0F ht)) (bt h3 ?_));dsimp only;rw [ew])
  (fun s _=>by
   unfold a9X;exact cnF (by simp) rfl) ([],[]) ⟨Cov.nil P qW (fun t i h=>by unfold a4C at h;omega),Cov.nil P qS (fun t i h=>by unfold a4C at h;omega)⟩
 obtain ⟨⟨U,S⟩,⟨hU,hS⟩,h⟩:=key;have h':iter (a9X Ar.std (eP P)) (0,[],[])=some (eMp U,eMp S):=h;have hall : ∀ u j,(inP P (u,j)/\a4C P.length 0 u j)↔inP P (u,j):=fun u j=>⟨fun g=>g.1,fun g=>⟨g,by unfold a4C;exact .inl g.1⟩⟩;have hU:Cov P (fun u j=>inP P (u,j)) qW U:=hU.same fun u j=>by rw [hall]
 have hS:Cov P (fun u j=>inP P (u,j)) qS S:=hS.same fun u j=>by rw [hall]

 have hks:(eMp S).map (fun p=>a2e p.1)=S.map (·.1):=by unfold eMp;rw [List.map_map];rfl
 have hrange : ∀ v∈S.map (·.1),0<=v/\v<=2:=fun v hv'=>by
  obtain ⟨m,hm⟩:=b2P.1 hv';have:=hS.ye v m hm;exact ⟨this.1,this.2.1⟩
 have hlen:S.length<=3:=by
  have:=a4H (m:=[(0:Int),1,2]) hS.nd (fun v hv'=>by have:=hrange v hv';simp;omega);simpa using this
 have hkf:b2K (eMp S)=some (((S.map (·.1)).mergeSort fun x y=>decide (x<=y)).map (.int .i64)):=by
  unfold b2K;rw [hks,if_pos];refine ⟨by unfold eMp;simp;omega,?_,hS.nd⟩;rw [List.all_eq_true];intro p hp;obtain ⟨q,hq,rfl⟩:=List.mem_map.1 hp;have:=hrange q.1 (List.mem_map.2 ⟨q,hq,rfl⟩);unfold b2J;simp;omega
 have hperm:((S.map (·.1)).mergeSort fun x y=>decide (x<=y)).Perm (S.map (·.1)):=List.mergeSort_perm _ _;generalize ((S.map (·.1)).mergeSort fun x y=>decide (x<=y))=zs at hkf hperm;have hzl:zs.length<=3:=by rw [hperm.length_eq,List.length_map];exact hlen
 let p:Int->Bool:=fun v => !(decide (∀ t u:Fin 3,((gI U v).getD 0).toNat.testBit t.val=true->((gI U v).getD 0).toNat.testBit u.val=true->t=u));have hloop:iter (b0Q Ar.std (eMp U) (enc (cI .i64) zs)) 0=some (bif zs.any p then .inr () else .inl ()):=by
  refine a2l zs p (Sum.inr ()) (Sum.inl ()) (fun i v hg hi => ?_) ?_
  ·have ew:Ar.std.wrp .i64 (Ar.std.zadd (i:Int) 1)=((i+1:Nat):Int):=by simp only [a0n,a0q];exact a3j (n:=10) (by omega) (by omega)
   unfold b0Q;refine cnT (by simp;omega) (bt (a0G hg) (bt (v:=p v) (bt (lkM U v) ?_) ?_))
   ·cases hgu:gI U v with
    | none =>
      rw [Option.elim_none];refine bt (b4R (a:=0) (by omega)) ?_;show some _=some (!decide _);rw [hgu];rfl
    | some m =>
      obtain ⟨_,_,_,a,rfl,ha,_⟩:=hU.ye v m hgu;rw [Option.elim_some];refine bt (b4R ha) ?_;show some _=some (!decide _);rw [hgu];rfl
   rw [ew];cases p v <;> rfl
  unfold b0Q;exact cnF (by simp) rfl
 refine ⟨zs.any p,?_,?_⟩
 ·unfold M51;refine bt e (cnT rfl (bt h' ?_));dsimp only;refine bt (v:=()) rfl (bt (show M93 Ar.std (eMp U) (eMp S)=some (enc (cI .i64) zs) from hkf) (bt hloop ?_));cases zs.any p <;> rfl
 rw [List.any_eq_true];constructor
 ·rintro ⟨v,hvz,hp⟩ hn;obtain ⟨m,hm⟩:=b2P.1 (hperm.mem_iff.1 hvz);obtain ⟨_,_,⟨s,i,s1,s2,s3⟩,_⟩:=hS.ye v m hm;have hp : ¬ (∀ t u:Fin 3,((gI U v).getD 0).toNat.testBit t.val=true->((gI U v).getD 0).toNat.testBit u.val=true->t=u):=by
   have:(!(decide (∀ t u:Fin 3,((gI U v).getD 0).toNat.testBit t.val=true->((gI U v).getD 0).toNat.testBit u.val=true->t=u)))=true:=hp;simpa using this
  cases hgu:gI U v with
  | none=>exact hU.no v hgu s i s1 (by unfold qS at s2;unfold qW;omega) s3
  | some k =>
    obtain ⟨_,_,_,a,rfl,ha,hb⟩:=hU.ye v k hgu;apply hp;intro t u h1 h2;rw [hgu] at h1 h2;obtain ⟨j,j1,j2,j3⟩:=(hb t.val t.2).1 h1;obtain ⟨j',k1,k2,k3⟩:=(hb u.val u.2).1 h2;have no : ∀ (w:Nat) (x:Nat),inP P (w,x)->qW (acA P (w,x))->(acA P (w,x)).2.1=v->w=s:=fun w x g1 g2 g3=>by
     refine Classical.byContradiction fun hne => ?_;have hi:=hn (s,i) (w,x) s1 g1 (fun e=>hne e.symm);unfold qS at s2;unfold qW at g2;rcases hi with hi | hi | hi | hi
     ·omega
     ·exact g2 hi
     ·exact hi (s3.trans g3.symm)
     exact hi.1 s2
    have e1:=no t.val j j1 j2 j3;have e2:=no u.val j' k1 k2 k3;exact Fin.ext (e1.trans e2.symm)
 intro hn;have : ∃ x y,inP P x/\inP P y/\x.1≠y.1 /\ ¬ a4m (acA P x) (acA P y):=by
  refine Classical.byContradiction fun hno=>hn fun x y hx hy hxy=>Classical.byContradiction fun hi=>hno ⟨x,y,hx,hy,hxy,hi⟩
 obtain ⟨x,y,hx,hy,hxy,hi⟩:=this;obtain ⟨n1,n2,n3,n4⟩:=a8k hi;have two : ∀ x y:Pt,inP P x->inP P y->x.1≠y.1->(acA P x).1=2->(acA P y).1≠3->(acA P x).2.1=(acA P y).2.1 -> ∃ v∈zs,p v=true:=by
  intro x y hx hy hxy h1 h2 h3;refine ⟨(acA P x).2.1,?_,?_⟩
  ·refine hperm.mem_iff.2 (b2P.2 ?_);cases hg:gI S (acA P x).2.1 with
   | none=>exact absurd rfl (hS.no _ hg x.1 x.2 hx h1)
   | some m=>exact ⟨m,rfl⟩
  have : ¬ (∀ t u:Fin 3,((gI U (acA P x).2.1).getD 0).toNat.testBit t.val=true->((gI U (acA P x).2.1).getD 0).toNat.testBit u.val=true->t=u):=by
   intro hall';have hwx:qW (acA P x):=by unfold qW;omega
   cases hgu:gI U (acA P x).2.1 with
   | none=>exact hU.no _ hgu x.1 x.2 hx hwx rfl
   | some k =>
     obtain ⟨_,_,_,a,rfl,ha,hb⟩:=hU.ye _ k hgu;have b1:=(hb x.1 (lt3 hv hx.1)).2 ⟨x.2,hx,hwx,rfl⟩;have b2:=(hb y.1 (lt3 hv hy.1)).2 ⟨y.2,hy,h2,h3.symm⟩;rw [hgu] at hall';have:=hall' ⟨x.1,lt3 hv hx.1⟩ ⟨y.1,lt3 hv hy.1⟩ b1 b2;exact hxy (congrArg Fin.val this)
  show (!(decide _))=true;rw [decide_eq_false this];rfl
 rcases n4 with n4 | n4
 ·exact two x y hx hy hxy n4 n2 n3
 exact two y x hy hx (fun e=>hxy e.symm) n4 n1 n3.symm
theorem IsO.one {k:Nat} (hK:Kind k) {P:Pg} (hv:VP P) (hn:a8m P) {O:List (List Int)} (h:IsO k P O) {o:List Int} (ho:Can 3 P o):O=[o]:=by
 have up : ∀ o',Can k P o'->Can 3 P o':=fun o' h=>by
  rcases hK with rfl | rfl | rfl
  ·exact h.strict.loose
  ·exact h.loose
  exact h
 have hne:=h.ne hK hv
 match O,hne with
 | [x],_ =>
   have:=a6S hn (up x ((h.mem x).1 (by simp))) ho;rw [this]
 | x::y::r,_ =>
   exfalso;have h1:=a6S hn (up x ((h.mem x).1 (by simp))) ho;have h2:=a6S hn (up y ((h.mem y).1 (by simp))) ho;have:=List.nodup_cons.1 (SS.nodup h.ss);exact this.1 (by rw [h1,h2];simp)
def fnc:Ac:=(3,0,0)
theorem a4n (a:Ac) (l:List Ac) (f:Nat->Int):reads (a::l) f=(if a.1=1 then [f 0] else [])++reads l (fun i=>f (i+1)):=by
 unfold reads;rw [List.length_cons,List.range_succ_eq_map,List.filterMap_cons,List.filterMap_map];have e : ∀ i,aAt (a::l) (i+1)=aAt l i:=fun i=>rfl;have e0:aAt (a::l) 0=a:=rfl;have e2:((fun i=>if (aAt (a::l) i).1=1 then some (f i) else none)∘Nat.succ)=fun i=>if (aAt l i).1=1 then some (f (i+1)) else none:=by funext i;rfl
 rw [e2,e0];by_cases h:a.1=1 <;> simp [h]
theorem a5w : ∀ (l r:List Ac) (f:Nat->Int),reads (l++fnc::r) f=reads (l++r) (fun i=>f (if i<l.length then i else i+1))
 | [],r,f=>by
   rw [List.nil_append,List.nil_append,a4n]
   rfl
 | a::l,r,f=>by
   rw [List.cons_append,List.cons_append,a4n,a4n,a5w l r];congr 1;congr 1;funext i;by_cases h:i<l.length
   ·rw [if_pos h,if_pos (by simp;omega)]
   rw [if_neg h,if_neg (by simp;omega)]
structure More1 (P P':Pg) (t0 q:Nat):Prop where
 len:P'.length=P.length
 lt:t0<P.length
 oth : ∀ t,t≠t0->thr P' t=thr P t
 own : ∃ l r,l.length=q/\thr P t0=l++r/\thr P' t0=l++fnc::r
def shf (t0 q t i:Nat):Nat:=if t=t0/\q<=i then i+1 else i
theorem b2R {t0 q t i j:Nat} (h:shf t0 q t i=shf t0 q t j):i=j:=by unfold shf at h;split at h <;> split at h <;> omega
section
variable {P P':Pg} {t0 q:Nat} (hM:More1 P P' t0 q)
include hM
theorem More1.at (t i:Nat):aAt (thr P' t) (shf t0 q t i)=aAt (thr P t) i:=by
 by_cases ht:t=t0
 ·subst ht;obtain ⟨l,r,h1,h2,h3⟩:=hM.own;rw [h2,h3];unfold aAt shf;rw [List.getD_eq_getElem?_getD,List.getD_eq_getElem?_getD];by_cases hi:q<=i
  ·rw [if_pos ⟨rfl,hi⟩,zp8 (by omega),zp8 (by omega),show i+1-l.length=(i-l.length)+1 by omega,List.getElem?_cons_succ]
  rw [if_neg (by omega),zp7 (by omega),zp7 (by omega)]
 unfold shf;rw [if_neg (by omega),hM.oth t ht]
theorem More1.lent (t:Nat):(thr P' t).length=if t=t0 then (thr P t).length+1 else (thr P t).length:=by
 by_cases ht:t=t0
 ·subst ht;obtain ⟨l,r,h1,h2,h3⟩:=hM.own;rw [if_pos rfl,h2,h3];simp;omega
 rw [if_neg ht,hM.oth t ht]
end
structure RF (t0 q:Nat) (s' s:AS):Prop where
 dn : ∀ t i,s.dn t i=s'.dn t (shf t0 q t i)
 rd : ∀ t i,s.rd t i=s'.rd t (shf t0 q t i)
 bf:s.bf=s'.bf
 ce:s.ce=s'.ce
theorem RF.init (t0 q:Nat):RF t0 q AS.init AS.init:=⟨fun _ _=>rfl,fun _ _=>rfl,rfl,rfl⟩
section
variable {P P':Pg} {t0 q:Nat} (hM:More1 P P' t0 q) {s' s:AS} (hR:RF t0 q s' s)
include hM hR
theorem RF.out:b2X P' s'=b2X P s:=by
 unfold b2X;rw [hM.len,hR.ce];congr 1;refine a4v fun t _ => ?_;by_cases ht:t=t0
 ·subst ht;obtain ⟨l,r,h1,h2,h3⟩:=hM.own;rw [h2,h3,a5w];congr 1;funext i;rw [hR.rd];unfold shf;rw [h1];by_cases hi:i<q
  ·rw [if_pos hi,if_neg (by omega)]
  rw [if_neg hi,if_pos (by omega)]
 rw [hM.oth t ht];congr 1;funext i;rw [hR.rd];unfold shf;rw [if_neg (by omega)]
theorem RF.act (k:Nat) (t i:Nat):RF t0 q (doA k P' s' t (shf t0 q t i)) (doA k P s t i):=by
 have e:=hM.at t i;have hsn : ∀ c,sn s' t c=sn s t c:=fun c=>by unfold sn;rw [hR.bf,hR.ce]
 refine ⟨fun u j => ?_,fun u j => ?_,?_,?_⟩
 ·simp only [doA,fup];by_cases hu:u=t
  ·subst hu;by_cases hj:j=i
   ·subst hj;simp
   have:shf t0 q u j≠shf t0 q u i:=fun h=>hj (b2R h);simp [fup,hj,this,hR.dn]
  simp [fup,hu,hR.dn]
 ·simp only [doA,e,fup];by_cases h1:(aAt (thr P t) i).1=1
  ·rw [if_pos h1,if_pos h1];by_cases hu:u=t
   ·subst hu;by_cases hj:j=i
    ·subst hj;simp [hsn]
    have:shf t0 q u j≠shf t0 q u i:=fun h=>hj (b2R h);simp [fup,hj,this,hR.rd]
   simp [fup,hu,hR.rd]
  rw [if_neg h1,if_neg h1];exact hR.rd u j
 ·simp only [doA,e,hR.bf]
 simp only [doA,e,hR.ce]
theorem RF.outB (t:Nat):RF t0 q (outB s' t) (outB s t):=by
 unfold Go.Am.outB;rw [hR.bf];cases hb:s'.bf t with
 | nil=>exact hR
 | cons x r=>exact ⟨hR.dn,hR.rd,by simp only [hR.bf],by simp only [hR.ce]⟩
end
theorem a9b {α β:Type} {f g:α->Option β} : ∀ {l:List α},(∀ a∈l,f a=g a)->l.filterMap f=l.filterMap g
 | [],_=>rfl
 | a::l,h=>by
   rw [List.filterMap_cons,List.filterMap_cons,h a (List.mem_cons_self ..),a9b fun b hb=>h b (List.mem_cons_of_mem _ hb)]
theorem a2z {l:List Ac} {m:Nat} (hm:m<=l.length) (r:Nat->Int):reads (l.take m) r=(List.range m).filterMap fun i=>if (aAt l i).1=1 then some (r i) else none:=by
 unfold reads;rw [List.length_take,Nat.min_eq_left hm];refine a9b fun i hi => ?_;have hi:=List.mem_range.1 hi;have e:aAt (l.take m) i=aAt l i:=by
  unfold aAt;rw [List.getD_eq_getElem?_getD,List.getD_eq_getElem?_getD,List.getElem?_take_of_lt hi]
 rw [e]
theorem b0C {l:List Ac} {m:Nat} (hm:m<l.length) (r:Nat->Int):reads (l.take (m+1)) r=reads (l.take m) r++if (aAt l m).1=1 then [r m] else []:=by
 rw [a2z hm,a2z (Nat.le_of_lt hm),List.range_succ,List.filterMap_append];congr 1;by_cases h:(aAt l m).1=1 <;> simp [h]
theorem a6d {l:List Ac} {m:Nat} (hm:m<=l.length) {r r':Nat->Int} (h : ∀ i,i<m->r i=r' i):reads (l.take m) r=reads (l.take m) r':=by
 rw [a2z hm,a2z hm];refine a9b fun i hi => ?_;rw [h i (List.mem_range.1 hi)]
theorem b4f {l:List Ac} {m:Nat} (hm:m<=l.length) (r:Nat->Int):(reads (l.take m) r).length<=m:=by
 rw [a2z hm];have:=List.length_filterMap_le (fun i=>if (aAt l i).1=1 then some (r i) else none) (List.range m)
 rwa [List.length_range] at this
structure PR (P:Pg) (s:Sta) (n:Nat->Nat) (rd:Nat->List Int):Prop where
 sp:SP P s n
 rd : ∀ t,rd t=reads ((thr P t).take (n t)) ((vw P s).rd t)
theorem PR.init (P:Pg):PR P s0 (fun _=>0) (fun _=>[]):=⟨SP.init P,fun t=>by rw [List.take_zero];rfl⟩
def rd' (P:Pg) (s:Sta) (n:Nat->Nat) (rd:Nat->List Int) (t:Nat):Nat->List Int :=
 if (aAt (thr P t) (n t)).1=1 then fup rd t (rd t++[s (11+(aAt (thr P t) (n t)).2.1.toNat)]) else rd
section
variable {P:Pg} (hv:VP P) {s:Sta} {n:Nat->Nat} {rd:Nat->List Int} (h:PR P s n rd)
include hv h
theorem PR.nb : ∀ t,(vw P s).bf t=[]:=by
 intro t;show (if t<3 then a2W s t else [])=[]
 split
 ·rename_i ht;unfold a2W;rw [h.sp.k.nb (by decide) t ht];rfl
 rfl
theorem PR.len (t:Nat):(rd t).length<=7:=by
 rw [h.rd t];exact Nat.le_trans (b4f (h.sp.l t) _) (Nat.le_trans (h.sp.l t) (hv.l7 t))
theorem PR.step {t:Nat} (ht:t<P.length) (hi:n t<(thr P t).length):PR P (doS P s t (n t)) (fup n t (n t+1)) (rd' P s n rd t):=by
 have ht3:=lt3 hv ht;refine ⟨SP.step hv h.sp ht hi,fun u => ?_⟩;have hb:=PR.nb hv h;have e:vw P (doS P s t (n t))=doA 3 P (vw P s) t (n t):=by
  rw [b7o (k:=1) hv h.sp.k.wf ht hi (.inl (by decide)) (.inl (hb t)),b6b (by decide)]
 have hrd : ∀ u j,(vw P (doS P s t (n t))).rd u j=if (aAt (thr P t) (n t)).1=1/\(u,j)=(t,n t) then (vw P s).ce (aAt (thr P t) (n t)).2.1 else (vw P s).rd u j:=fun u j=>by
  rw [e];exact a8l hb (t,n t) (u,j)
 have old : ∀ u j,j<n u->(vw P (doS P s t (n t))).rd u j=(vw P s).rd u j:=fun u j hj=>by
  rw [hrd,if_neg];rintro ⟨_,hh⟩;rw [Prod.mk.injEq] at hh;obtain ⟨rfl,rfl⟩:=hh;omega
 have hl:=h.sp.l u;by_cases hut:u=t
 ·subst hut;rw [a0g,b0C hi,a6d hl (old u),<-h.rd u];unfold rd';by_cases h1:(aAt (thr P u) (n u)).1=1
  ·rw [if_pos h1,if_pos h1,a0g,hrd,if_pos ⟨h1,rfl⟩];obtain ⟨c0,c1,_⟩:=b0v hv h.sp.k.wf ht hi (.inl h1);congr 2;show _=(if 0<=(aAt (thr P u) (n u)).2.1/\(aAt (thr P u) (n u)).2.1<=2 then _ else _)
   rw [if_pos ⟨c0,c1⟩]
  rw [if_neg h1,if_neg h1,List.append_nil]
 rw [a0c _ _ _ hut,a6d hl (old u),<-h.rd u];unfold rd';split
 ·rw [a0c _ _ _ hut]
 rfl
end
def c3 (x y z c:Int):Int:=if c=0 then x else if c=1 then y else z
theorem s3 (s:Sta) {c:Int} (h0:0<=c) (h2:c<=2):c3 (s 11) (s 12) (s 13) c=s (11+c.toNat):=by
 rcases (show c=0\/c=1\/c=2 by omega) with rfl | rfl | rfl <;> rfl
section
variable {P:Pg} (hv:VP P) {s:Sta} {n:Nat->Nat} {rd:Nat->List Int} (h:PR P s n rd)
include hv h
end
theorem PR.out {P:Pg} (hv:VP P) {s:Sta} {n:Nat->Nat} {rd:Nat->List Int} (h:PR P s n rd) (ho:a3t P s=true):(List.range P.length).flatMap rd++[s 11,s 12,s 13]=a4l P s:=by
 rw [<-a6P];unfold b2X;have h1:=(SP.over hv h.sp).1 ho;congr 1;refine a4v fun t ht => ?_;have ht:=List.mem_range.1 ht;rw [h.rd t,h1 t ht,List.take_length]
theorem IsO.up {k k':Nat} {P:Pg} {O O':List (List Int)} (h:IsO k P O) (h':IsO k' P O') (hc : ∀ o,Can k P o->Can k' P o):b7G O' O=[]:=by
 unfold b7G;rw [List.filter_eq_nil_iff];intro x hx;have:=(h'.mem x).2 (hc x ((h.mem x).1 hx));simp [this]
theorem b7U (P:Pg) (i:Nat) (t:List Ac):(eP P).set i (.list 3 (eT t))=eP (P.set i t):=by
 unfold eP enc;rw [List.map_set,List.map_set];rfl
theorem wS {i:Nat} (h:i<=1000):Ar.std.wrp .i64 (Ar.std.zadd (i:Int) 1)=((i+1:Nat):Int):=by
 simp only [a0n,a0q];rw [a3w _ (by omega) (by omega)];rfl
theorem a9c {P:Pg} (h1:P.length<=100) (h2 : ∀ t∈P,t.length<=100):M41 Ar.std (eP P) (eP P)=some true:=by
 unfold M41;refine cnT (by simp) ?_;have key:=a2l (step:=b0P Ar.std (eP P) (eP P)) P (fun _=>false) (.inr ()) (.inl ()) (fun i t ht hi=>by
  have hl7:=h2 t (List.mem_of_getElem? ht);unfold b0P;refine cnT (by simp [hi]) (bt (a2b ht) (bt (a2b ht) (cnT (by simp) ?_)));have k2:=a2l (step:=b0O Ar.std (eT t) (eT t)) t (fun _=>false) (.inr ()) (.inl ()) (fun j x hx hj=>by
   unfold b0O;refine cnT (by simp [hj]) (bt (a0G hx) (bt (a0G hx) (cnT (by simp [Ar.std]) ?_)));rw [wS (by omega)];rfl) (by
   unfold b0O;exact cnF (by simp) rfl)
  refine bt k2 ?_;have:t.any (fun _=>false)=false:=by rw [List.any_eq_false];intro x _ h;cases h
  rw [this];simp only [cond_false,Sum.elim_inl];rw [wS (by omega)]) (by
  unfold b0P;exact cnF (by simp) rfl)
 refine bt key ?_;have:P.any (fun _=>false)=false:=by rw [List.any_eq_false];intro x _ h;cases h
 rw [this];rfl
def a9d (a b:Ac):Bool:=decide (a.1=2)&&(!decide (b.1=3)&&decide (a.2.1=b.2.1))
def a3P (P:Pg) (t u:Nat) (a:Ac):Bool:=(if t=u then [] else thr P u).any (a9d a)
theorem b4g {P:Pg} (hv:VP P) {t u i:Nat} (ht:t<P.length) (hu:u<P.length) {a:Ac} (ha:(thr P t)[i]?=some a) :
  iter (b0R Ar.std (eP P) (t:Int) (u:Int) (i:Int) (eT (thr P t))) 0=some (bif a3P P t u a then (.inr ():Unit⊕Unit) else .inl ()):=by
 have hl7:=hv.l7 u;refine a2l (if t=u then [] else thr P u) (a9d a) (Sum.inr ()) (Sum.inl ()) (fun k b hb hk => ?_) ?_
 ·by_cases htu:t=u
  ·rw [if_pos htu] at hb;simp at hb
  rw [if_neg htu] at hb hk;unfold b0R;refine bt (v:=true) (cnF (by simp;omega) (bt (a2b (a0F hu)) (by congr 1;simp;omega))) (cnT rfl ?_);refine bt (v:=a9d a b) (bt (a0G ha) ?_) ?_
  ·show (bif decide (a.1=2) then _ else _)=_
   unfold a9d;by_cases h2:a.1=2
   ·refine cnT (by simp [h2]) (bt (a2b (a0F hu)) (bt (a0G hb) ?_));show (bif decide (b.1=3) then _ else _)=_
    rw [h2];by_cases h3:b.1=3
    ·exact cnT (by simp [h3]) (by simp [h3])
    exact cnF (by simp [h3]) (by simp [h3,Ar.std])
   exact cnF (by simp [h2]) (by simp [h2])
  cases a9d a b with
  | true=>rfl
  | false=>exact cnF rfl (by rw [wS (by omega)];rfl)
 unfold b0R;by_cases htu:t=u
 ·subst htu;rw [if_pos rfl];exact bt (v:=false) (cnT (by simp) rfl) (cnF rfl rfl)
 rw [if_neg htu];exact bt (v:=false) (cnF (by simp;omega) (bt (a2b (a0F hu)) (by congr 1;simp))) (cnF rfl rfl)
theorem a8o {n i a:Nat} (h:(List.range n)[i]?=some a):a=i/\i<n:=by
 have hi:i<n:=by have:=(zp2.1 h).1;simpa using this
 rw [List.getElem?_range hi] at h;exact ⟨(Option.some.inj h).symm,hi⟩
theorem b4h {P:Pg} (hv:VP P) {t u:Nat} (ht:t<P.length) (hu:u<P.length):iter (b0S Ar.std (eP P) (t:Int) (u:Int)) 0=some (bif (thr P t).any (a3P P t u) then (.inr ():Unit⊕Unit) else .inl ()):=by
 have hl7:=hv.l7 t;refine a2l (thr P t) (a3P P t u) (Sum.inr ()) (Sum.inl ()) (fun i a ha hi => ?_) ?_
 ·unfold b0S;refine bt (a2b (a0F ht)) (cnT (by simp;omega) (bt (b4g hv ht hu ha) ?_));cases a3P P t u a with
  | true=>rfl
  | false=>simp only [cond_false,Sum.elim_inl];rw [wS (by omega)]
 unfold b0S;exact bt (a2b (a0F ht)) (cnF (by simp) rfl)
theorem b4i {P:Pg} (hv:VP P) {t:Nat} (ht:t<P.length):iter (b0T Ar.std (eP P) (t:Int)) 0=some (bif (List.range P.length).any (fun u=>(thr P t).any (a3P P t u)) then (.inr ():Unit⊕Unit) else .inl ()):=by
 have hn3:=hv.n3;refine a2l (List.range P.length) (fun u=>(thr P t).any (a3P P t u)) (Sum.inr ()) (Sum.inl ()) (fun i a ha hi => ?_) ?_
 ·obtain ⟨rfl,hu⟩:=a8o ha;unfold b0T;refine cnT (by simp;omega) (bt (b4h hv ht hu) ?_);cases (thr P t).any (a3P P t a) with
  | true=>rfl
  | false=>simp only [cond_false,Sum.elim_inl];rw [wS (by omega)]
 unfold b0T;exact cnF (by simp) rfl
theorem b7V {P:Pg} (hv:VP P) : ∃ b,M54 Ar.std (eP P)=some (b,0)/\(b=true ↔ ¬ a8m P):=by
 have hn3:=hv.n3;have e:=a9M (VP.short hv);rw [VP.to hv] at e;have key:iter (b0U Ar.std (eP P)) 0=some (bif (List.range P.length).any (fun t=>(List.range P.length).any (fun u=>(thr P t).any (a3P P t u))) then (.inr ():Unit⊕Unit) else .inl ()):=by
  refine a2l (List.range P.length) (fun t=>(List.range P.length).any (fun u=>(thr P t).any (a3P P t u))) (Sum.inr ()) (Sum.inl ()) (fun i a ha hi => ?_) ?_
  ·obtain ⟨rfl,hu⟩:=a8o ha;unfold b0U;refine cnT (by simp;omega) (bt (b4i hv hu) ?_);cases (List.range P.length).any (fun u=>(thr P a).any (a3P P a u)) with
   | true=>rfl
   | false=>simp only [cond_false,Sum.elim_inl];rw [wS (by omega)]
  unfold b0U;exact cnF (by simp) rfl
 refine ⟨(List.range P.length).any (fun t=>(List.range P.length).any (fun u=>(thr P t).any (a3P P t u))),?_,?_⟩
 ·unfold M54;refine bt e (cnT rfl (bt key ?_));cases (List.range P.length).any (fun t=>(List.range P.length).any (fun u=>(thr P t).any (a3P P t u))) <;> rfl
 ·constructor
  ·intro h hn;rw [List.any_eq_true] at h;obtain ⟨t,ht,h⟩:=h;rw [List.any_eq_true] at h;obtain ⟨u,hu,h⟩:=h;rw [List.any_eq_true] at h;obtain ⟨a,ha,h⟩:=h;unfold a3P at h;by_cases htu:t=u
   ·rw [if_pos htu] at h;cases h
   rw [if_neg htu,List.any_eq_true] at h;obtain ⟨b,hb,h⟩:=h;unfold a9d at h;simp only [zp4,decide_eq_true_eq,Bool.not_eq_true',decide_eq_false_iff_not] at h;obtain ⟨i,hi,rfl⟩:=List.mem_iff_getElem.1 ha;obtain ⟨j,hj,rfl⟩:=List.mem_iff_getElem.1 hb;have e1:(thr P t)[i]=aAt (thr P t) i:=by have:=a1B hi;rw [zp1 hi] at this;exact Option.some.inj this
   have e2:(thr P u)[j]=aAt (thr P u) j:=by have:=a1B hj;rw [zp1 hj] at this;exact Option.some.inj this
   rw [e1,e2] at h;have:=hn (t,i) (u,j) ⟨by simpa using ht,hi⟩ ⟨by simpa using hu,hj⟩ htu;unfold a4m acA at this;dsimp only at this;rcases this with g | g | g | g
   ·rw [h.1] at g;cases g
   ·exact h.2.1 g
   ·exact g h.2.2
   exact g.1 h.1
  ·intro hn;apply Classical.byContradiction;intro hb;apply hn

   have key : ∀ t i u j,t<P.length->u<P.length->i<(thr P t).length->j<(thr P u).length->t≠u->(aAt (thr P t) i).1=2->(aAt (thr P u) j).1≠3->(aAt (thr P t) i).2.1≠(aAt (thr P u) j).2.1:=by
    intro t i u j ht hu hi hj htu h2 h3 h4;apply hb;rw [List.any_eq_true];refine ⟨t,by simpa using ht,?_⟩;rw [List.any_eq_true];refine ⟨u,by simpa using hu,?_⟩;rw [List.any_eq_true];refine ⟨aAt (thr P t) i,List.mem_of_getElem? (a1B hi),?_⟩;unfold a3P;rw [if_neg htu,List.any_eq_true];refine ⟨aAt (thr P u) j,List.mem_of_getElem? (a1B hj),?_⟩;unfold a9d;simp [h2,h3,h4]
   rintro ⟨t,i⟩ ⟨u,j⟩ ⟨ht,hi⟩ ⟨hu,hj⟩ htu;unfold a4m acA;dsimp only at *;by_cases a3:(aAt (thr P t) i).1=3
   ·exact .inl a3
   by_cases b3:(aAt (thr P u) j).1=3
   ·exact .inr (.inl b3)
   by_cases hc:(aAt (thr P t) i).2.1=(aAt (thr P u) j).2.1
   ·refine .inr (.inr (.inr ⟨fun h=>key t i u j ht hu hi hj htu h b3 hc,fun h=>key u j t i hu ht hj hi (Ne.symm htu) h a3 hc.symm⟩))
   exact .inr (.inr (.inl hc))
theorem b7W {P:Pg} (hv:VP P):M88 Ar.std (eP P)=some (eP P):=by
 have hn3:=hv.n3;have key:=a1A (step:=a9Y Ar.std (eP P)) P.length (fun (_:Unit) (i:Nat)=>(eP (P.take i),(i:Int))) (fun _ _=>True) (fun _=>eP P)
  (fun i _ hi _=>by
   refine ⟨(),trivial,?_⟩;unfold a9Y;dsimp only;have hl7:=hv.l7 i;have e1:ap Ar.std [] (eT (thr P i))=some (eT (thr P i)):=a6E (by omega);have ea:ap Ar.std (eP (P.take i)) [D.list 3 (eT (thr P i))]=some (eP (P.take (i+1))):=by
    rw [a9x (by simp;omega),a0h (a0F hi)];unfold eP enc;rw [List.map_append,List.map_append];rfl
   refine cnT (by simp;omega) (bt (a2b (a0F hi)) (bt e1 (bt ea ?_)));rw [wS (by omega)])
  (fun _ _=>by
   unfold a9Y;dsimp only;refine cnF (by simp) ?_;rw [List.take_length]) () trivial
 obtain ⟨_,_,h⟩:=key;unfold M88;exact bt (show iter (a9Y Ar.std (eP P)) ([],0)=_ from h) rfl
theorem b4j {l:List Ac} (hl:l.length<=100) (a b:Int):iter (a5K Ar.std a b) (eT l,0)=some (eT (l.map (swA a b))):=by
 have key:=a1A (step:=a5K Ar.std a b) l.length (fun (_:Unit) (i:Nat)=>(eT ((l.map (swA a b)).take i++l.drop i),(i:Int))) (fun _ _=>True) (fun _=>eT (l.map (swA a b)))
  (fun i _ hi _=>by
   refine ⟨(),trivial,?_⟩;unfold a5K;dsimp only;have hx:=zp1 hi;generalize l[i]=x at hx;have hlen:((l.map (swA a b)).take i++l.drop i).length=l.length:=by simp;omega
   have hmx:((l.map (swA a b)).take i++l.drop i)[i]?=some x:=by
    rw [zp8 (by simp;omega),List.getElem?_drop];rw [show i+(i-((l.map (swA a b)).take i).length)=i by simp;omega];exact hx
   have hnext : ∀ y,y=swA a b x->((l.map (swA a b)).take i++l.drop i).set i y=(l.map (swA a b)).take (i+1)++l.drop (i+1):=by
    rintro y rfl;have hmg:(l.map (swA a b))[i]?=some (swA a b x):=by rw [List.getElem?_map,hx];rfl
    rw [a0h hmg];apply List.ext_getElem?;intro j;rcases Nat.lt_trichotomy j i with g | g | g
    ·rw [List.getElem?_set_ne (by omega),zp7 (by simp;omega),List.append_assoc,zp7 (by simp;omega)]
    ·subst g;rw [List.getElem?_set_self (by omega),List.append_assoc,zp8 (by simp;omega)];rw [show j-((l.map (swA a b)).take j).length=0 by simp;omega];rfl
    rw [List.getElem?_set_ne (by omega),zp8 (by simp;omega),zp8 (by simp;omega),List.getElem?_drop,List.getElem?_drop];congr 1;simp;omega
   have hsame:swA a b x=x->((l.map (swA a b)).take i++l.drop i)=(l.map (swA a b)).take (i+1)++l.drop (i+1):=fun hs=>by
    rw [<-hnext x hs.symm];apply List.ext_getElem?;intro j;by_cases g:j=i
    ·subst g;rw [List.getElem?_set_self (by omega),hmx]
    rw [List.getElem?_set_ne (by omega)]
   have hlz:Ar.std.len (eT ((l.map (swA a b)).take i++l.drop i))=(l.length:Int):=by rw [<-hlen];simp
   refine cnT (by rw [hlz];simp;omega) (bt (a0G hmx) (bt (v:=eT ((l.map (swA a b)).take (i+1)++l.drop (i+1))) ?_ (by rw [wS (by omega)])));show (bif decide (x.1=3) then _ else _)=_
   by_cases h3:x.1=3
   ·refine cnT (by simp [h3]) ?_;rw [hsame (by unfold swA;rw [if_pos h3])]
   refine cnF (by simp [h3]) ?_;show (bif decide (x.2.1=a) then _ else _)=_
   by_cases ha:x.2.1=a
   ·refine cnT (by simp [ha]) ?_;rw [<-hnext (x.1,b,x.2.2) (by unfold swA sg;rw [if_neg h3,if_pos ha])];exact congrArg some (b4d _ (by omega) (x.1,b,x.2.2) rfl)
   refine cnF (by simp [ha]) ?_;show (bif decide (x.2.1=b) then _ else _)=_
   by_cases hb:x.2.1=b
   ·refine cnT (by simp [hb]) ?_;rw [<-hnext (x.1,a,x.2.2) (by unfold swA sg;rw [if_neg h3,if_neg ha,if_pos hb])];exact congrArg some (b4d _ (by omega) (x.1,a,x.2.2) rfl)
   refine cnF (by simp [hb]) ?_;rw [hsame (by unfold swA sg;rw [if_neg h3,if_neg ha,if_neg hb])])
  (fun _ _=>by
   unfold a5K;dsimp only;refine cnF (by simp) ?_;rw [List.take_of_length_le (by simp),List.drop_eq_nil_of_le (Nat.le_refl _),List.append_nil]) () trivial
 obtain ⟨_,_,h⟩:=key;exact h
theorem b4k {P:Pg} (hv:VP P) (a b:Int):iter (a5L Ar.std a b) (eP P,0)=some (eP (swP a b P)):=by
 have hn3:=hv.n3;have e9 : ∀ Q:Pg,Ar.std.len (eP Q)=(Q.length:Int):=fun Q=>by simp
 have hsl:(swP a b P).length=P.length:=by unfold swP;simp
 have key:=a1A (step:=a5L Ar.std a b) P.length (fun (_:Unit) (i:Nat)=>(eP ((swP a b P).take i++P.drop i),(i:Int))) (fun _ _=>True) (fun _=>eP (swP a b P))
  (fun i _ hi _=>by
   refine ⟨(),trivial,?_⟩;unfold a5L;dsimp only;have hl7:=hv.l7 i;have hlen:((swP a b P).take i++P.drop i).length=P.length:=by simp [hsl];omega
   have hmx:((swP a b P).take i++P.drop i)[i]?=some (thr P i):=by
    rw [zp8 (by simp;omega),List.getElem?_drop];rw [show i+(i-((swP a b P).take i).length)=i by simp [hsl];omega];exact a0F hi
   have hmg:(swP a b P)[i]?=some ((thr P i).map (swA a b)):=by unfold swP;rw [List.getElem?_map,a0F hi];rfl
   refine cnT (by rw [e9,hlen];simp;omega) (bt (a2b hmx) (bt (b4j (by omega) a b) ?_));rw [wS (by omega)];have e2:Ar.std.lset (eP ((swP a b P).take i++P.drop i)) (Ar.std.nat (i:Int)) (.list 3 (eT ((thr P i).map (swA a b))))=eP ((swP a b P).take (i+1)++P.drop (i+1)):=by
    show (eP ((swP a b P).take i++P.drop i)).set i (.list 3 (eT ((thr P i).map (swA a b))))=_;rw [b7U];congr 1;rw [a0h hmg];apply List.ext_getElem?;intro j;rcases Nat.lt_trichotomy j i with g | g | g
    ·rw [List.getElem?_set_ne (by omega),zp7 (by simp [hsl];omega),List.append_assoc,zp7 (by simp [hsl];omega)]
    ·subst g;rw [List.getElem?_set_self (by omega),List.append_assoc,zp8 (by simp;omega)];rw [show j-((swP a b P).take j).length=0 by simp [hsl];omega];rfl
    rw [List.getElem?_set_ne (by omega),zp8 (by simp;omega),zp8 (by simp [hsl];omega),List.getElem?_drop,List.getElem?_drop];congr 1;simp [hsl];omega
   rw [e2])
  (fun _ _=>by
   unfold a5L;dsimp only;have e3:((swP a b P).take P.length++P.drop P.length)=swP a b P:=by
    rw [List.take_of_length_le (by omega),List.drop_eq_nil_of_le (Nat.le_refl _),List.append_nil]
   rw [e3];refine cnF (by rw [e9,hsl];simp) rfl) () trivial
 obtain ⟨_,_,h⟩:=key;simpa using h
theorem b7X {P:Pg} (hv:VP P) (a b:Int) : ∃ Q,Q.length<=100/\(∀ t∈Q,t.length<=100) /\ ∃ z,M40 Ar.std (eP P) a b=some (eP Q,z)/\M53 Ar.std (eP P) a b=some (eP Q,z):=by
 have hn3:=hv.n3;have e:=a5l (VP.short hv);have e2:=a9M (VP.short hv);rw [VP.to hv] at e e2;have bad:btw 0 a 2=false\/btw 0 b 2=false -> ∃ Q:Pg,Q.length<=100/\(∀ t∈Q,t.length<=100) /\ ∃ z,M40 Ar.std (eP P) a b=some (eP Q,z)/\M53 Ar.std (eP P) a b=some (eP Q,z):=by
  intro h;refine ⟨[],by simp,by simp,2,?_,?_⟩
  ·unfold M40;refine bt e (cnT rfl (bt (v:=true) (bt (a3n _ _ _) ?_) (cnT rfl rfl)));cases h1:btw 0 a 2 with
   | false=>exact cnF rfl rfl
   | true =>
     rcases h with h | h
     ·rw [h1] at h;cases h
     exact cnT rfl (bt (a3n _ _ _) (by rw [h];rfl))
  unfold M53;refine bt e2 (cnT rfl (bt (v:=true) (bt (a3M _ _ _) ?_) (cnT rfl rfl)));cases h1:btw 0 a 2 with
  | false=>exact cnF rfl rfl
  | true =>
    rcases h with h | h
    ·rw [h1] at h;cases h
    exact cnT rfl (bt (a3M _ _ _) (by rw [h];rfl))
 cases h1:btw 0 a 2 with
 | false=>exact bad (.inl h1)
 | true =>
   cases h2:btw 0 b 2 with
   | false=>exact bad (.inr h2)
   | true =>
     have ha:0<=a/\a<=2:=by unfold btw at h1;simpa using h1
     have hb:0<=b/\b<=2:=by unfold btw at h2;simpa using h2
     refine ⟨swP a b P,by unfold swP;simp;omega,fun t ht => ?_,0,b7P hv ha hb,?_⟩
     ·unfold swP at ht;obtain ⟨l,hl,rfl⟩:=List.mem_map.1 ht;have:=(VP.short hv).2 l hl;simp;omega
     unfold M53;refine bt e2 (cnT rfl (bt (v:=false) (bt (a3M _ _ _) ?_) (cnF rfl (bt (b7W hv) (bt (b4k hv a b) rfl)))));rw [h1];exact cnT rfl (bt (a3M _ _ _) (by rw [h2];rfl))
theorem b4S {l:List Int} (h:l.length<=1000) (x:Int):M82 Ar.std (a0z l) x=some (decide (x∈l)):=by
 have key:=a7U (step:=a7j Ar.std (a0z l) x) l (fun a=>decide (x=a)) (fun i=>(Sum.inr (i:Int):Unit⊕Int)) (Sum.inl ()) (fun i a ha hi=>by
   unfold a7j;refine cnT (by simp [hi]) (bt (a0G ha) ?_);show (bif decide (x=a) then _ else _)=_
   by_cases hx:x=a
   ·exact cnT (by simp [hx]) (by simp [hx])
   ·refine cnF (by simp [hx]) ?_;rw [wS (by omega)];simp [hx]) (by
   unfold a7j;exact cnF (by simp) rfl)
 unfold M82;by_cases hm:x∈l
 ·obtain ⟨i,hi⟩ : ∃ i,l.findIdx? (fun a=>decide (x=a))=some i:=by
   cases hf:l.findIdx? (fun a=>decide (x=a)) with
   | some i=>exact ⟨i,rfl⟩
   | none =>
     rw [List.findIdx?_eq_none_iff] at hf;have:=hf x hm;simp at this
  rw [hi] at key;refine bt (v:=(i:Int)) ?_ (by simp [hm]);unfold b6D;exact bt key rfl
 have hf:l.findIdx? (fun a=>decide (x=a))=none:=by
  rw [List.findIdx?_eq_none_iff];intro a ha;have:x≠a:=by rintro rfl;exact hm ha
  simp [this]
 rw [hf] at key;refine bt (v := -1) ?_ (by simp [hm]);unfold b6D;exact bt key rfl
def good (n:Nat) (ys:List Int):Prop:=(∀ x∈ys,0<=x/\x<(n:Int))/\ys.Nodup
theorem a3Q {n:Nat} {ys:List Int} {z:Int}:good n (ys++[z])↔good n ys/\(0<=z/\z<(n:Int))/\z∉ys:=by
 unfold good;rw [List.nodup_append];constructor
 ·rintro ⟨h1,h2,_,h3⟩;exact ⟨⟨fun x hx=>h1 x (by simp [hx]),h2⟩,h1 z (by simp),fun hz=>h3 z hz z (by simp) rfl⟩
 rintro ⟨⟨h1,h2⟩,h3,h4⟩;refine ⟨fun x hx => ?_,h2,by simp,fun a ha b hb => ?_⟩
 ·rcases List.mem_append.1 hx with hx | hx
  ·exact h1 x hx
  simp at hx;subst hx;exact h3
 simp at hb;subst hb;rintro rfl;exact h4 ha
theorem a8p {n:Nat} {ys:List Int} (h:good n ys) (i:Nat):good n (ys.take i) :=
 ⟨fun x hx=>h.1 x (List.mem_of_mem_take hx),h.2.sublist (List.take_sublist _ _)⟩
def asks (P:Pg) (ys:List Int):Pg:=ys.map fun x=>thr P x.toNat
theorem a8q (P:Pg) (ys:List Int) (z:Int):asks P (ys++[z])=asks P ys++[thr P z.toNat]:=by simp [asks]
theorem b2S (Q:Pg) (t:List Ac):eP (Q++[t])=eP Q++[D.list 3 (eT t)]:=by
 unfold eP enc;rw [List.map_append,List.map_append];rfl
theorem a6e {n:Nat} (hn:1<=n) (z:Int):btw 0 z ((n-1:Nat):Int)=decide (0<=z/\z<(n:Int)):=by
 unfold btw;by_cases h0:0<=z <;> by_cases h1:z<(n:Int)
 ·simp [h0,h1];omega
 ·simp [h0,h1];omega
 ·simp [h0,h1]
 simp [h0,h1]
theorem b0D {P:Pg} (h1:1<=P.length) (h2:P.length<=100):Ar.std.wrp .i64 (Ar.std.zsub (Ar.std.len (eP P)) 1)=((P.length-1:Nat):Int):=by
 have el:Ar.std.len (eP P)=(P.length:Int):=by simp
 simp only [el,a0n,a0Y];rw [a3w _ (by omega) (by omega)];omega
theorem b6f {P:Pg} (hv:VP P) {xs:List Int} (hx:xs.length<=100) :
  (good P.length xs/\xs.length=P.length/\M39 Ar.std (eP P) (a0z xs)=some (eP (asks P xs),0))\/(¬ (good P.length xs/\xs.length=P.length)/\M39 Ar.std (eP P) (a0z xs)=some ([],2)):=by
 have hn3:=hv.n3;have hn1:=hv.n1;have e:=a5l (VP.short hv);rw [VP.to hv] at e;have key:=a1L (step:=a8w Ar.std (eP P) (a0z xs)) xs.length (fun (l:List D) i=>(l,(i:Int))) (fun i l=>l=eP (asks P (xs.take i))/\good P.length (xs.take i)) (fun i x=>x = .inr () /\ ¬ good P.length xs) (fun l => .inl l)
  (fun i l hi hR=>by
   obtain ⟨rfl,hg⟩:=hR;have hz:=zp1 hi;generalize xs[i]=z at hz;unfold a8w;by_cases hr:0<=z/\z<(P.length:Int)
   ·by_cases hm:z∈xs.take i
    ·refine .inr ⟨.inr (),⟨rfl,fun h => ?_⟩,cnT (by simp [hi]) (bt (a0G hz) (bt (v:=true) ?_ rfl))⟩
     ·have:=a8p h (i+1);rw [a0h hz,a3Q] at this;exact this.2.2 hm
     rw [b0D hn1 (by omega)];refine bt (a3n _ _ _) ?_;rw [a6e hn1,decide_eq_true hr];refine cnT rfl (bt (a5k (by omega)) (bt (b4S (by simp;omega) z) ?_));rw [decide_eq_true hm]
    refine .inl ⟨eP (asks P (xs.take (i+1))),⟨rfl,by rw [a0h hz,a3Q];exact ⟨hg,hr,hm⟩⟩,cnT (by simp [hi]) (bt (a0G hz) (bt (v:=false) ?_ (cnF rfl ?_)))⟩
    ·rw [b0D hn1 (by omega)];refine bt (a3n _ _ _) ?_;rw [a6e hn1,decide_eq_true hr];refine cnT rfl (bt (a5k (by omega)) (bt (b4S (by simp;omega) z) ?_));rw [decide_eq_false hm]
    have hj:z.toNat<P.length:=by omega
    have hl7:=hv.l7 z.toNat;have ea:ap Ar.std (eP (asks P (xs.take i))) [D.list 3 (eT (thr P z.toNat))]=some (eP (asks P (xs.take (i+1)))):=by
     rw [a9x (by simp [asks];omega),a0h hz,a8q,b2S]
    refine bt (b4v hr.1 (a0F hj)) (bt (b4Q (by omega)) (bt ea ?_));rw [wS (by omega)]
   refine .inr ⟨.inr (),⟨rfl,fun h=>hr (h.1 z (List.mem_of_getElem? hz))⟩,cnT (by simp [hi]) (bt (a0G hz) (bt (v:=true) ?_ rfl))⟩;rw [b0D hn1 (by omega)];refine bt (a3n _ _ _) ?_;rw [a6e hn1,decide_eq_false hr];rfl)
  (fun l hl=>by
   unfold a8w;exact cnF (by simp) rfl) [] ⟨rfl,by simp [good]⟩
 rcases key with ⟨l,⟨rfl,hg⟩,h⟩ | ⟨i,x,_,⟨rfl,hg⟩,h⟩
 ·rw [List.take_length] at hg h;have h':iter (a8w Ar.std (eP P) (a0z xs)) ([],0)=some (.inl (eP (asks P xs))):=h;have hal:Ar.std.len (eP (asks P xs))=(xs.length:Int):=by simp [asks]
  have hpl:Ar.std.len (eP P)=(P.length:Int):=by simp
  by_cases hlen:xs.length=P.length
  ·refine .inl ⟨hg,hlen,?_⟩;unfold M39;refine bt e (cnT rfl (bt h' ?_));rw [Sum.elim_inl];exact cnT (by rw [hal,hpl];simp [Ar.std,hlen]) rfl
  refine .inr ⟨fun hh=>hlen hh.2,?_⟩;unfold M39;refine bt e (cnT rfl (bt h' ?_));rw [Sum.elim_inl];exact cnF (by rw [hal,hpl];simp [Ar.std];omega) rfl
 refine .inr ⟨fun hh=>hg hh.1,?_⟩;unfold M39;exact bt e (cnT rfl (bt (show iter (a8w Ar.std (eP P) (a0z xs)) ([],0)=_ from h) rfl))
def marks (n:Nat) (ys:List Int):List D:=enc cB ((List.range n).map fun (j:Nat)=>decide ((j:Int)∈ys))
theorem a8r {n:Nat} {ys:List Int} {z:Int} (h:0<=z/\z<(n:Int)):(marks n ys)[z.toNat]?=some (.bool (decide (z∈ys))):=by
 unfold marks enc;rw [List.getElem?_map,List.getElem?_map,List.getElem?_range (by omega)];simp only [Option.map_some];rw [show ((z.toNat:Nat):Int)=z by omega];rfl
theorem b2T {n:Nat} {ys:List Int} {z:Int} (h:0<=z/\z<(n:Int)):(marks n ys).set z.toNat (.bool true)=marks n (ys++[z]):=by
 unfold marks enc;apply List.ext_getElem?;intro j;by_cases hj:j=z.toNat
 ·subst hj;rw [List.getElem?_set_self (by simp;omega),List.getElem?_map,List.getElem?_map,List.getElem?_range (by omega)];simp only [Option.map_some];rw [show ((z.toNat:Nat):Int)=z by omega];simp [cB]
 rw [List.getElem?_set_ne (Ne.symm hj),List.getElem?_map,List.getElem?_map,List.getElem?_map,List.getElem?_map];by_cases hjn:j<n
 ·rw [List.getElem?_range hjn];simp only [Option.map_some];have:(decide ((j:Int)∈ys))=decide ((j:Int)∈ys++[z]):=by
   have:(j:Int)≠z:=by omega
   simp [this]
  rw [this]
 rw [List.getElem?_eq_none (by simp;omega)];rfl
theorem b6g {P:Pg} (hv:VP P) {xs:List Int} (hx:xs.length<=100) :
  (good P.length xs/\xs.length=P.length->M52 Ar.std (eP P) (a0z xs)=some (eP (asks P xs),0))/\(¬ (good P.length xs/\xs.length=P.length)->M52 Ar.std (eP P) (a0z xs)=some ([],2)):=by
 have hn3:=hv.n3;have hn1:=hv.n1;have e:=a9M (VP.short hv);rw [VP.to hv] at e;have hxl:Ar.std.len (a0z xs)=(xs.length:Int):=by simp
 have hpl:Ar.std.len (eP P)=(P.length:Int):=by simp
 by_cases hlen:xs.length=P.length
 ·have key:=a1L (step:=a7l Ar.std (eP P) (a0z xs)) xs.length (fun (s:List D×List D) i=>(s.1,(i:Int),s.2)) (fun i s=>s=(eP (asks P (xs.take i)),marks P.length (xs.take i))/\good P.length (xs.take i)) (fun i x=>(∃ m,x = .inr m) /\ ¬ good P.length xs) (fun s => .inl s)
   (fun i s hi hR=>by
    obtain ⟨rfl,hg⟩:=hR;have hz:=zp1 hi;generalize xs[i]=z at hz;unfold a7l;dsimp only;by_cases hr:0<=z/\z<(P.length:Int)
    ·have hgc:gc Ar.std cB (marks P.length (xs.take i)) (Ar.std.nat (Ar.std.zadd 0 z))=some (decide (z∈xs.take i)):=by
      unfold gc;have:Ar.std.lget (marks P.length (xs.take i)) (Ar.std.nat (Ar.std.zadd 0 z))=some (.bool (decide (z∈xs.take i))):=by
       show (marks P.length (xs.take i))[(0+z).toNat]?=_;rw [Int.zero_add];exact a8r hr
      rw [this];rfl
     have hlg:Ar.std.lget (marks P.length (xs.take i)) (Ar.std.nat (Ar.std.zadd 0 z))=some (.bool (decide (z∈xs.take i))):=by
      show (marks P.length (xs.take i))[(0+z).toNat]?=_;rw [Int.zero_add];exact a8r hr
     by_cases hm:z∈xs.take i
     ·refine .inr ⟨.inr _,⟨⟨_,rfl⟩,fun h => ?_⟩,cnT (by simp [hi]) (bt (v:=true) (bt (a0G hz) ?_) rfl)⟩
      ·have:=a8p h (i+1);rw [a0h hz,a3Q] at this;exact this.2.2 hm
      rw [b0D hn1 (by omega)];refine bt (a3M _ _ _) ?_;rw [a6e hn1,decide_eq_true hr];refine cnT rfl (bck (by simp;omega) (bck (by rw [hpl];simp;omega) (bt hgc ?_)));rw [decide_eq_true hm]
     refine .inl ⟨(eP (asks P (xs.take (i+1))),marks P.length (xs.take (i+1))),⟨rfl,by rw [a0h hz,a3Q];exact ⟨hg,hr,hm⟩⟩,cnT (by simp [hi]) (bt (v:=false) (bt (a0G hz) ?_) (cnF rfl (bt (a0G hz) ?_)))⟩
     ·rw [b0D hn1 (by omega)];refine bt (a3M _ _ _) ?_;rw [a6e hn1,decide_eq_true hr];refine cnT rfl (bck (by simp;omega) (bck (by rw [hpl];simp;omega) (bt hgc ?_)));rw [decide_eq_false hm]
     have hj:z.toNat<P.length:=by omega
     have hl7:=hv.l7 z.toNat;have ea:ap Ar.std (eP (asks P (xs.take i))) [D.list 3 (eT (thr P z.toNat))]=some (eP (asks P (xs.take (i+1)))):=by
      rw [a9x (by simp [asks];omega),a0h hz,a8q,b2S]
     have e1:ap Ar.std [] (eT (thr P z.toNat))=some (eT (thr P z.toNat)):=a6E (by omega);have es:Ar.std.lset (marks P.length (xs.take i)) (Ar.std.nat (Ar.std.zadd 0 z)) (.bool true)=marks P.length (xs.take (i+1)):=by
      show (marks P.length (xs.take i)).set (0+z).toNat (.bool true)=_;rw [Int.zero_add,b2T hr,a0h hz]
     refine bck (by simp;omega) (bck (by rw [hpl];simp;omega) (bt hlg (bt (b4v hr.1 (a0F hj)) (bt e1 (bt ea ?_)))));rw [wS (by omega),es]
    refine .inr ⟨.inr _,⟨⟨_,rfl⟩,fun h=>hr (h.1 z (List.mem_of_getElem? hz))⟩,cnT (by simp [hi]) (bt (v:=true) (bt (a0G hz) ?_) rfl)⟩;rw [b0D hn1 (by omega)];refine bt (a3M _ _ _) ?_;rw [a6e hn1,decide_eq_false hr];rfl)
   (fun s hs=>by
    unfold a7l;dsimp only;exact cnF (by simp) rfl) ([],marks P.length []) ⟨rfl,by simp [good]⟩
  have e0:Ar.std.rep (Ar.std.len (eP P)) (.bool false)=marks P.length []:=by
   rw [hpl];show List.replicate P.length (D.bool false)=_;unfold marks enc;rw [List.map_map];apply List.ext_getElem?;intro j;rw [List.getElem?_replicate,List.getElem?_map];by_cases hj:j<P.length
   ·rw [if_pos hj,List.getElem?_range hj];simp [cB]
   rw [if_neg hj,List.getElem?_eq_none (by simp;omega)];rfl
  have pre : ∀ {r:Option (List D×Int)},((iter (a7l Ar.std (eP P) (a0z xs)) ([],0,marks P.length [])).bind (Sum.elim (fun (v96,v97)=>some (v96,(0:Int))) (fun v98=>some ([],(2:Int)))))=r->M52 Ar.std (eP P) (a0z xs)=r:=by
   intro r hr;unfold M52;refine bt e (cnT rfl (cnT (by rw [hxl,hpl];simp [Ar.std,hlen]) (bck (by simp) (bck (by rw [hpl];simp) (bck (by rw [hpl,a9w,decide_eq_true_eq];omega) ?_)))));rw [e0];exact hr
  rcases key with ⟨s,⟨rfl,hg⟩,h⟩ | ⟨i,x,_,⟨⟨m,rfl⟩,hg⟩,h⟩
  ·rw [List.take_length] at hg h;refine ⟨fun _=>pre (bt (show iter (a7l Ar.std (eP P) (a0z xs)) ([],0,marks P.length [])=_ from h) rfl),fun hh=>absurd ⟨hg,hlen⟩ hh⟩
  refine ⟨fun hh=>absurd hh.1 hg,fun _=>pre (bt (show iter (a7l Ar.std (eP P) (a0z xs)) ([],0,marks P.length [])=_ from h) rfl)⟩
 refine ⟨fun hh=>absurd hh.2 hlen,fun _ => ?_⟩;unfold M52;exact bt e (cnT rfl (cnF (by rw [hxl,hpl];simp [Ar.std];omega) rfl))
theorem b7Y (P:Pg) (hP:P.length<9223372036854775808) (hl : ∀ t∈P,t.length<9223372036854775808) (xs:List Int) (hx:xs.length<9223372036854775808) (a b:Int):M15 Ar.std (eP P) (a0z xs) a b=some true:=by
 obtain ⟨q,e,hq⟩:=b7h P hP hl;have hxl:Ar.std.len (a0z xs)=(xs.length:Int):=by simp
 unfold M15;cases q with
 | true=>exact bt (v:=true) (bt e rfl) (cnT rfl (bt a9L rfl))
 | false =>
   have hS:=hq rfl;by_cases h60:60<xs.length
   ·exact bt (v:=true) (bt e (cnF rfl (by rw [hxl];simp;omega))) (cnT rfl (bt a9L rfl))
   have e1:((M17 Ar.std (eP P)).bind fun r6=>bif r6 then some true else some (Ar.std.zlt 60 (Ar.std.len (a0z xs))))=some false:=bt e (cnF rfl (by rw [hxl];simp;omega))
   refine bt e1 (cnF rfl ?_);have nilOk:M41 Ar.std [] []=some true:=a9c (P:=[]) (by simp) (by simp);cases hp:a5E P with
   | false =>
     have e2:=a9M hS;have e3:=a5l hS;rw [hp] at e2 e3;have f39:M39 Ar.std (eP P) (a0z xs)=some ([],40):=by unfold M39;exact bt e3 (cnF rfl rfl)
     have f52:M52 Ar.std (eP P) (a0z xs)=some ([],40):=by unfold M52;exact bt e2 (cnF rfl rfl)
     have f40:M40 Ar.std (eP P) a b=some ([],40):=by unfold M40;exact bt e3 (cnF rfl rfl)
     have f53:M53 Ar.std (eP P) a b=some ([],40):=by unfold M53;exact bt e2 (cnF rfl rfl)
     have f51:M51 Ar.std (eP P)=some (false,40):=by unfold M51;exact bt e3 (cnF rfl rfl)
     have f54:M54 Ar.std (eP P)=some (false,40):=by unfold M54;exact bt e2 (cnF rfl rfl)
     exact bt f39 (bt f52 (bt (v:=false) (bt nilOk rfl) (cnF rfl (bt f40 (bt f53 (bt f51 (bt f54 (bt (v:=true) (bt nilOk (cnT rfl (cnT rfl (cnT rfl (bt a9L rfl))))) rfl))))))))
   | true =>
     have hv:=VP.of hp;have hn3:=hv.n3;obtain ⟨Q,hQ1,hQ2,z,f40,f53⟩:=b7X hv a b;obtain ⟨b1,f51,g51⟩:=b7T hv;obtain ⟨b2,f54,g54⟩:=b7V hv;have hbb:b1=b2:=by
      cases b1 <;> cases b2 <;> simp_all
     subst hbb;obtain ⟨R,hR1,hR2,y,f39,f52⟩ : ∃ R:Pg,R.length<=100/\(∀ t∈R,t.length<=100) /\ ∃ y,M39 Ar.std (eP P) (a0z xs)=some (eP R,y)/\M52 Ar.std (eP P) (a0z xs)=some (eP R,y):=by
      have h52:=b6g hv (xs:=xs) (by omega);rcases b6f hv (xs:=xs) (by omega) with ⟨hg,hlen,h⟩ | ⟨hn,h⟩
      ·refine ⟨asks P xs,by simp [asks];omega,fun t ht => ?_,0,h,h52.1 ⟨hg,hlen⟩⟩;obtain ⟨x,_,rfl⟩:=List.mem_map.1 ht;have:=hv.l7 x.toNat;omega
      exact ⟨[],by simp,by simp,2,h,h52.2 hn⟩
     have m1:=a9c hR1 hR2;have m2:=a9c hQ1 hQ2;refine bt f39 (bt f52 (bt (v:=false) (bt m1 (cnT rfl (by simp [Ar.std]))) (cnF rfl (bt f40 (bt f53 (bt f51 (bt f54 (bt (v:=true) (bt m2 (cnT rfl (cnT (by simp [Ar.std]) (cnT (by cases b1 <;> rfl) (cnT rfl (bt a9L rfl)))))) rfl))))))))
end Go.Am
