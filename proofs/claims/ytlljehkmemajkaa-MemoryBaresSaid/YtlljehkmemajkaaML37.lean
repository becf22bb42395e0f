import Derived.Test.YtlljehkmemajkaaML13
import Derived.Test.YtlljehkmemajkaaML15
import Derived.Test.YtlljehkmemajkaaGenp0
set_option maxRecDepth 100000
set_option maxHeartbeats 2000000
set_option linter.unusedVariables false
set_option linter.unusedSimpArgs false
set_option linter.unusedSectionVars false
namespace Go.Am
open Go
abbrev Pt:=Nat×Nat
def acA (P:Pg) (x:Pt):Ac:=aAt (thr P x.1) x.2
def a5P (a b:Ac):Prop:=a.1=3\/b.1=3\/a.2.1≠b.2.1\/(a.1≠2/\b.1≠2)
theorem a5P.symm {a b:Ac} (h:a5P a b):a5P b a:=by
 rcases h with h | h | h | h
 ·exact .inr (.inl h)
 ·exact .inl h
 ·exact .inr (.inr (.inl fun e=>h e.symm))
 exact .inr (.inr (.inr ⟨h.2,h.1⟩))
theorem b2V {a b:Ac} (h : ¬ a5P a b):a.1≠3/\b.1≠3/\a.2.1=b.2.1/\(a.1=2\/b.1=2):=by
 unfold a5P at h;refine ⟨fun e=>h (.inl e),fun e=>h (.inr (.inl e)),?_,?_⟩
 ·exact Classical.byContradiction fun e=>h (.inr (.inr (.inl e)))
 exact Classical.byContradiction fun e=>h (.inr (.inr (.inr ⟨fun g=>e (.inl g),fun g=>e (.inr g)⟩)))
def ex (P:Pg) (s:AS) (L:List Pt):AS:=L.foldl (fun s x=>doA 3 P s x.1 x.2) s
theorem b9P {s u:AS} (h1:s.dn=u.dn) (h2:s.rd=u.rd) (h3:s.bf=u.bf) (h4:s.ce=u.ce):s=u:=by
 cases s;cases u;simp only at h1 h2 h3 h4;subst h1 h2 h3 h4
 rfl
section
variable {P:Pg} {s:AS}
theorem b6o {k:Nat} (hk:k≠2) (t i:Nat):doA k P s t i=doA 3 P s t i:=by simp [doA,hk]
theorem b5c (x:Pt) (y:Pt):(doA 3 P s x.1 x.2).dn y.1 y.2=if y=x then true else s.dn y.1 y.2:=by
 obtain ⟨t,i⟩:=x;obtain ⟨u,j⟩:=y;simp only [doA,fup,Prod.mk.injEq];by_cases h1:u=t
 ·subst h1;by_cases h2:j=i <;> simp [fup,h2]
 simp [fup,h1]
theorem a3P (x:Pt):(doA 3 P s x.1 x.2).bf=s.bf:=by simp [doA]
theorem a6m (x:Pt) (c:Int):(doA 3 P s x.1 x.2).ce c=if (acA P x).1=2/\c=(acA P x).2.1 then (acA P x).2.2 else s.ce c:=by
 simp only [doA,acA,fup];by_cases h:(aAt (thr P x.1) x.2).1=2
 ·simp [h,fup]
 simp [h]
theorem a8x (hb : ∀ t,s.bf t=[]) (x y:Pt):(doA 3 P s x.1 x.2).rd y.1 y.2=if (acA P x).1=1/\y=x then s.ce (acA P x).2.1 else s.rd y.1 y.2:=by
 obtain ⟨t,i⟩:=x;obtain ⟨u,j⟩:=y;simp only [doA,acA,fup,Prod.mk.injEq];by_cases h:(aAt (thr P t) i).1=1
 ·by_cases h1:u=t
  ·subst h1;by_cases h2:j=i <;> simp [fup,h,sn,hb,h2]
  simp [fup,h,h1]
 simp [h]
theorem b4o (hb : ∀ t,s.bf t=[]) {x y:Pt} (hxy:x≠y) (hi:a5P (acA P x) (acA P y)):doA 3 P (doA 3 P s x.1 x.2) y.1 y.2=doA 3 P (doA 3 P s y.1 y.2) x.1 x.2:=by
 have hbx : ∀ t,(doA 3 P s x.1 x.2).bf t=[]:=fun t=>by rw [a3P];exact hb t
 have hby : ∀ t,(doA 3 P s y.1 y.2).bf t=[]:=fun t=>by rw [a3P];exact hb t
 have ne1 : ¬ ((acA P y).1=1/\(acA P x).1=2/\(acA P y).2.1=(acA P x).2.1):=by
  rintro ⟨h1,h2,h3⟩;rcases hi with h | h | h | h
  ·omega
  ·omega
  ·exact h h3.symm
  exact h.1 h2
 have ne2 : ¬ ((acA P x).1=1/\(acA P y).1=2/\(acA P x).2.1=(acA P y).2.1):=by
  rintro ⟨h1,h2,h3⟩;rcases hi with h | h | h | h
  ·omega
  ·omega
  ·exact h h3
  exact h.2 h2
 have ne3 : ¬ ((acA P x).1=2/\(acA P y).1=2/\(acA P x).2.1=(acA P y).2.1):=by
  rintro ⟨h1,h2,h3⟩;rcases hi with h | h | h | h
  ·omega
  ·omega
  ·exact h h3
  exact h.2 h2
 refine b9P ?_ ?_ ?_ ?_
 ·funext t i;have:=fun (s:AS) (x:Pt)=>b5c (P:=P) (s:=s) x (t,i);simp only at this;rw [this,this,this,this];by_cases h1:(t,i)=x <;> by_cases h2:(t,i)=y <;> simp [h1,h2]
 ·funext t i;have e1:=a8x (P:=P) hbx y (t,i);have e2:=a8x (P:=P) hby x (t,i);have e3:=a8x (P:=P) hb x (t,i);have e4:=a8x (P:=P) hb y (t,i);simp only at e1 e2 e3 e4;rw [e1,e2,e3,e4,a6m,a6m];by_cases h1:(acA P y).1=1/\(t,i)=y
  ·have h2 : ¬ ((acA P x).1=1/\(t,i)=x):=fun h=>hxy (h.2.symm.trans h1.2);have h3 : ¬ ((acA P x).1=2/\(acA P y).2.1=(acA P x).2.1):=fun h=>ne1 ⟨h1.1,h⟩;rw [if_pos h1,if_neg h2,if_neg h3,if_pos h1]
  rw [if_neg h1,if_neg h1];by_cases h2:(acA P x).1=1/\(t,i)=x
  ·have h3 : ¬ ((acA P y).1=2/\(acA P x).2.1=(acA P y).2.1):=fun h=>ne2 ⟨h2.1,h⟩;rw [if_pos h2,if_pos h2,if_neg h3]
  rw [if_neg h2,if_neg h2]
 ·rw [a3P,a3P,a3P,a3P]
 funext c;rw [a6m,a6m,a6m,a6m];by_cases h1:(acA P y).1=2/\c=(acA P y).2.1
 ·have h2 : ¬ ((acA P x).1=2/\c=(acA P x).2.1):=fun h=>ne3 ⟨h.1,h1.1,h.2.symm.trans h1.2⟩;rw [if_pos h1,if_neg h2,if_pos h1]
 rw [if_neg h1,if_neg h1]
end
theorem b8e {P:Pg} : ∀ (L:List Pt) (s:AS),(ex P s L).bf=s.bf
 | [],_=>rfl
 | x::L,s=>(b8e L (doA 3 P s x.1 x.2)).trans (a3P x)
theorem b5d {P:Pg} (s:AS) (L M:List Pt):ex P s (L++M)=ex P (ex P s L) M:=by unfold ex;rw [List.foldl_append]
theorem b2W {P:Pg} {f:Pt} {l2:List Pt} : ∀ (l1:List Pt) (s:AS),(∀ t,s.bf t=[])->(∀ y∈l1,y≠f/\a5P (acA P y) (acA P f))->ex P s (l1++f::l2)=ex P s (f::(l1++l2))
 | [],_,_,_=>rfl
 | y::l1,s,hb,h=>by
   have hb' : ∀ t,(doA 3 P s y.1 y.2).bf t=[]:=fun t=>by rw [a3P];exact hb t
   have ih:=b2W (f:=f) (l2:=l2) l1 (doA 3 P s y.1 y.2) hb' fun z hz=>h z (List.mem_cons_of_mem _ hz);obtain ⟨h1,h2⟩:=h y (List.mem_cons_self ..);show ex P (doA 3 P s y.1 y.2) (l1++f::l2)=_;rw [ih];show ex P (doA 3 P (doA 3 P s y.1 y.2) f.1 f.2) (l1++l2)=ex P (doA 3 P (doA 3 P s f.1 f.2) y.1 y.2) (l1++l2);rw [b4o hb h1 h2]
theorem b6p {P:Pg} (pos:Pt->Nat) (before:Pt->Pt->Prop) (A:Pt->Prop)
  (H : ∀ L:List Pt,L≠[]->L.Pairwise (fun x y=>pos x<pos y)->(∀ y∈L,A y) -> ∃ f∈L,(∀ y∈L,y≠f->before f y) /\ ∀ y∈L,pos y<pos f->a5P (acA P y) (acA P f)) :
  ∀ (n:Nat) (L:List Pt),L.length=n->L.Pairwise (fun x y=>pos x<pos y)->(∀ y∈L,A y) -> ∀ s:AS,(∀ t,s.bf t=[]) -> ∃ L',L'.Perm L/\L'.Pairwise before/\ex P s L'=ex P s L:=by
 intro n
 induction n with
 | zero =>
   intro L hL _ _ s _;obtain rfl:=List.length_eq_zero_iff.1 hL;exact ⟨[],.refl _,.nil,rfl⟩
 | succ n ih =>
   intro L hL hs hA s hb;obtain ⟨f,hf,h1,h2⟩:=H L (by intro e;rw [e] at hL;cases hL) hs hA;obtain ⟨l1,l2,rfl⟩:=List.append_of_mem hf;have hs':=hs;rw [List.pairwise_append] at hs;obtain ⟨p1,p2,p3⟩:=hs;rw [List.pairwise_cons] at p2;have hlt : ∀ y∈l1,pos y<pos f:=fun y hy=>p3 y hy f (by simp);have hsub:(l1++l2).Sublist (l1++f::l2):=List.Sublist.append (List.Sublist.refl _) (List.sublist_cons_self ..);have hbf : ∀ t,(doA 3 P s f.1 f.2).bf t=[]:=fun t=>by rw [a3P];exact hb t
   obtain ⟨M,m1,m2,m3⟩:=ih (l1++l2) (by simp at hL ⊢;omega) (hs'.sublist hsub) (fun y hy=>hA y (hsub.subset hy)) _ hbf;refine ⟨f::M,(List.Perm.cons f m1).trans List.perm_middle.symm,List.pairwise_cons.2 ⟨fun y hy => ?_,m2⟩,?_⟩
   ·have hy:=m1.subset hy;refine h1 y (hsub.subset hy) fun e => ?_;subst e;rcases List.mem_append.1 hy with hy | hy
    ·exact Nat.lt_irrefl _ (hlt y hy)
    exact Nat.lt_irrefl _ (p2.1 y hy)
   rw [b2W l1 s hb fun y hy=>⟨fun e=>by subst e;exact Nat.lt_irrefl _ (hlt y hy),h2 y (List.mem_append_left _ hy) (hlt y hy)⟩];exact m3
inductive Trc (k:Nat) (P:Pg):List Pt->Prop
 | nil:Trc k P []
 | snoc {L:List Pt} {x:Pt} (h:Trc k P L) (h1:x.1<P.length) (h2:x.2<(thr P x.1).length) (h3:x∉L) (h4 : ∀ j,j<x.2->must k (acA P x) (acA P (x.1,j))->(x.1,j)∈L):Trc k P (L++[x])
theorem b8f {P:Pg} (y:Pt) : ∀ (L:List Pt) (s:AS),(ex P s L).dn y.1 y.2=true↔y∈L\/s.dn y.1 y.2=true
 | [],s=>by simp [ex]
 | x::L,s=>by
   have e:ex P s (x::L)=ex P (doA 3 P s x.1 x.2) L:=rfl;rw [e,b8f y L,b5c];by_cases h:y=x <;> simp [h]
theorem a6n {P:Pg} (y:Pt) (L:List Pt):(ex P AS.init L).dn y.1 y.2=true↔y∈L:=by
 rw [b8f];simp [AS.init]
theorem a9W {k:Nat} (hk:k≠2) {P:Pg} {u:AS}:Stps k P AS.init u ↔ ∃ L,Trc k P L/\u=ex P AS.init L:=by
 constructor
 ·intro h
  induction h with
  | refl=>exact ⟨[],.nil,rfl⟩
  | tail h h' ih =>
    obtain ⟨L,hL,rfl⟩:=ih;cases h' with
    | out t ht hk2=>exact absurd hk2 hk
    | act t i ht hi hm =>
      refine ⟨L++[(t,i)],.snoc hL ht hi ?_ fun j hj hmu => ?_,?_⟩
      ·intro hx;have:=(a6n (P:=P) (t,i) L).2 hx;have h1:(ex P AS.init L).dn t i=false:=hm.1;simp only at this;rw [h1] at this;cases this
      ·exact (a6n (P:=P) (t,j) L).1 (hm.2.1 j hj hmu)
      rw [b5d,b6o hk];rfl
 rintro ⟨L,hL,rfl⟩
 induction hL with
 | nil=>exact .refl _
 | @snoc L x hL h1 h2 h3 h4 ih =>
   refine .tail ih ?_;rw [b5d];have:ex P (ex P AS.init L) [x]=doA k P (ex P AS.init L) x.1 x.2:=by rw [b6o hk];rfl
   rw [this];refine .act _ _ h1 h2 ⟨?_,fun j hj hmu => ?_,fun hk2=>absurd hk2 hk⟩
   ·show (ex P AS.init L).dn x.1 x.2=false;rw [Bool.eq_false_iff];exact fun h=>h3 ((a6n x L).1 h)
   exact (a6n (P:=P) (x.1,j) L).2 (h4 j hj hmu)
theorem Trc.pos {k:Nat} {P:Pg} {L:List Pt} (h:Trc k P L) : ∃ pos:Pt->Nat,L.Pairwise (fun x y=>pos x<pos y)/\(∀ y∈L,pos y<L.length) /\
  ∀ x∈L,∀ j,j<x.2->must k (acA P x) (acA P (x.1,j))->(x.1,j)∈L/\pos (x.1,j)<pos x:=by
 induction h with
 | nil=>exact ⟨fun _=>0,.nil,fun y hy=>(by cases hy),fun y hy=>(by cases hy)⟩
 | @snoc L x hL h1 h2 h3 h4 ih =>
   obtain ⟨pos,p1,p2,p3⟩:=ih;have hne : ∀ y∈L,y≠x:=fun y hy e=>h3 (e▸hy);have e : ∀ y∈L,(if y=x then L.length else pos y)=pos y:=fun y hy=>if_neg (hne y hy)
   refine ⟨fun y=>if y=x then L.length else pos y,?_,?_,?_⟩
   ·rw [List.pairwise_append];refine ⟨?_,by simp,fun y hy z hz => ?_⟩
    ·refine (List.Pairwise.imp_of_mem ?_ p1);intro a b ha hb hab;show (if a=x then L.length else pos a)<(if b=x then L.length else pos b)
     rw [e a ha,e b hb];exact hab
    rw [List.mem_singleton] at hz;subst hz;show (if y=z then L.length else pos y)<(if z=z then L.length else pos z)
    rw [e y hy,if_pos rfl];exact p2 y hy
   ·intro y hy;rw [List.length_append,List.length_singleton];rcases List.mem_append.1 hy with hy | hy
    ·simp only [e y hy];have:=p2 y hy;omega
    rw [List.mem_singleton] at hy;subst hy;simp
   intro y hy j hj hmu;rcases List.mem_append.1 hy with hy | hy
   ·obtain ⟨q1,q2⟩:=p3 y hy j hj hmu;simp only [e y hy,e _ q1];exact ⟨List.mem_append_left _ q1,q2⟩
   rw [List.mem_singleton] at hy;subst hy;have q1:=h4 j hj hmu;simp only [e _ q1,if_true];exact ⟨List.mem_append_left _ q1,p2 _ q1⟩
theorem Trc.dom {k:Nat} {P:Pg} {L:List Pt} (h:Trc k P L) : ∀ x∈L,x.1<P.length/\x.2<(thr P x.1).length:=by
 induction h with
 | nil=>exact fun y hy=>(by cases hy)
 | snoc hL h1 h2 h3 h4 ih =>
   intro y hy;rcases List.mem_append.1 hy with hy | hy
   ·exact ih y hy
   rw [List.mem_singleton] at hy;subst hy;exact ⟨h1,h2⟩
def Whole (P:Pg) (L:List Pt):Prop := ∀ t i,t<P.length->i<(thr P t).length->(t,i)∈L
theorem a6o {P:Pg} {L:List Pt}:b5P P (ex P AS.init L)↔Whole P L:=by
 constructor
 ·intro h t i ht hi;exact (a6n (P:=P) (t,i) L).1 ((h t ht).1 i hi)
 intro h t ht;exact ⟨fun i hi=>(a6n (P:=P) (t,i) L).2 (h t i ht hi),by rw [b8e];rfl⟩
theorem a7j {k:Nat} (hk:k≠2) {P:Pg} {o:List Int}:Can k P o ↔ ∃ L,Trc k P L/\Whole P L/\b3l P (ex P AS.init L)=o:=by
 constructor
 ·rintro ⟨s,h1,h2,h3⟩;obtain ⟨L,hL,rfl⟩:=(a9W hk).1 h1;exact ⟨L,hL,a6o.1 h2,h3⟩
 rintro ⟨L,h1,h2,h3⟩;exact ⟨_,(a9W hk).2 ⟨L,h1,rfl⟩,a6o.2 h2,h3⟩
theorem least {α:Type} (f:α->Nat) (p:α->Prop) (h : ∃ a,p a) : ∃ a,p a /\ ∀ b,p b->f a<=f b:=by
 have key : ∀ (n:Nat) (a:α),f a<n->p a -> ∃ a,p a /\ ∀ b,p b->f a<=f b:=by
  intro n
  induction n with
  | zero=>intro a h;omega
  | succ n ih =>
    intro a ha hp;by_cases hb : ∃ b,p b/\f b<f a
    ·obtain ⟨b,h1,h2⟩:=hb;exact ih b (by omega) h1
    exact ⟨a,hp,fun b hb'=>Nat.le_of_not_lt fun hlt=>hb ⟨b,hb',hlt⟩⟩
 obtain ⟨a,ha⟩:=h;exact key _ a (Nat.lt_succ_self _) ha
def cfl (P:Pg) (x y:Pt):Prop:=x.1≠y.1 /\ ¬ a5P (acA P x) (acA P y)
def inP (P:Pg) (x:Pt):Prop:=x.1<P.length/\x.2<(thr P x.1).length
def stn (P:Pg) (t a b:Nat):Prop:=inP P (t,a)/\inP P (t,b)/\(acA P (t,a)).1≠3/\(acA P (t,b)).1≠3/\(a=b\/(a<b/\(acA P (t,a)).2.1≠(acA P (t,b)).2.1))
def b2X (P:Pg) (t a b:Nat):Prop := ∃ c,a<c/\c<b/\(acA P (t,c)).1=3
structure NC (P:Pg):Prop where
 n2 : ∀ t a b u c d,stn P t a b->stn P u c d->cfl P (t,b) (u,c)->cfl P (u,d) (t,a)->(a<b->b2X P t a b)/\(c<d->b2X P u c d)
 n3 : ∀ t a b u c d v e f,t≠v->stn P t a b->stn P u c d->stn P v e f->cfl P (t,b) (u,c)->cfl P (u,d) (v,e)->cfl P (v,f) (t,a)->(a<b->b2X P t a b)/\(c<d->b2X P u c d)/\(e<f->b2X P v e f)
def b2Y (P:Pg):Prop := ∀ x y,inP P x->inP P y->x.1≠y.1->a5P (acA P x) (acA P y)
def lexB (x y:Pt):Prop:=x.1<y.1\/(x.1=y.1/\x.2<y.2)
theorem b2Z {L:List Pt} (h:L≠[]) : ∃ f∈L,∀ y∈L,y≠f->lexB f y:=by
 obtain ⟨x,hx⟩:=List.exists_mem_of_ne_nil L h;obtain ⟨t,⟨i,hi⟩,h2⟩:=least (fun t=>t) (fun t => ∃ i,(t,i)∈L) ⟨x.1,x.2,hx⟩;obtain ⟨f,hf,h4⟩:=least (fun i=>i) (fun i=>(t,i)∈L) ⟨i,hi⟩;refine ⟨(t,f),hf,fun y hy hne => ?_⟩;obtain ⟨u,j⟩:=y;have h5:t<=u:=h2 u ⟨j,hy⟩;unfold lexB;simp only;rcases Nat.lt_or_eq_of_le h5 with g | g
 ·exact .inl g
 subst g;have h6:f<=j:=h4 j hy;rcases Nat.lt_or_eq_of_le h6 with g | g
 ·exact .inr ⟨rfl,g⟩
 subst g;exact absurd rfl hne
theorem a8y {P:Pg} (hn:b2Y P) {L:List Pt} (hL:Trc 3 P L) : ∃ L',L'.Perm L/\L'.Pairwise lexB/\ex P AS.init L'=ex P AS.init L:=by
 obtain ⟨pos,p1,_,p3⟩:=hL.pos;have hdom:=hL.dom;refine b6p (P:=P) pos lexB (fun x=>x∈L) ?_ L.length L rfl p1 (fun y hy=>hy) AS.init (fun _=>rfl);intro M hne hs hsub;obtain ⟨f,hf,h1⟩:=b2Z hne;refine ⟨f,hf,h1,fun y hy hlt => ?_⟩;by_cases ht:y.1=f.1
 ·obtain ⟨u,j⟩:=y;obtain ⟨t,i⟩:=f;simp only at ht;subst ht;refine Classical.byContradiction fun hi => ?_;obtain ⟨n1,n2,n3,_⟩:=b2V hi;have hne2:(u,j)≠(u,i):=fun e=>by rw [e] at hlt;omega
  have hj:i<j:=by
   rcases h1 _ hy hne2 with g | ⟨_,g⟩
   ·simp at g
   exact g
  have:pos (u,i)<pos (u,j):=(p3 (u,j) (hsub _ hy) i hj (.inr (.inr (.inr n3)))).2;omega
 exact hn y f (hdom _ (hsub _ hy)) (hdom _ (hsub _ hf)) ht
theorem b4p : ∀ {L M:List Pt},L.Perm M->L.Pairwise lexB->M.Pairwise lexB->L=M:=by
 intro L M hp h1 h2;refine hp.eq_of_pairwise (fun a b _ _ hab hba => ?_) h1 h2;unfold lexB at hab hba;omega
theorem a7k {P:Pg} (hn:b2Y P) {o o':List Int} (h:Can 3 P o) (h':Can 3 P o'):o=o':=by
 obtain ⟨L,hL,hw,ho⟩:=(a7j (by decide)).1 h;obtain ⟨M,hM,hw',ho'⟩:=(a7j (by decide)).1 h';obtain ⟨L1,a1,a2,a3⟩:=a8y hn hL;obtain ⟨M1,b1,b2,b3⟩:=a8y hn hM;have hnd : ∀ {K:List Pt},K.Pairwise lexB->K.Nodup:=fun hk=>hk.imp fun hab e=>by
  subst e;unfold lexB at hab;omega
 have hp:L1.Perm M1:=by
  refine (List.perm_ext_iff_of_nodup (hnd a2) (hnd b2)).2 fun x => ?_;constructor
  ·intro hx;have:=hL.dom x (a1.mem_iff.1 hx);exact b1.mem_iff.2 (hw' x.1 x.2 this.1 this.2)
  intro hx;have:=hM.dom x (b1.mem_iff.1 hx);exact a1.mem_iff.2 (hw x.1 x.2 this.1 this.2)
 have:=b4p hp a2 b2;subst this;rw [<-ho,<-ho',<-a3,b3]
def fenced (P:Pg):Prop := ∀ t i,i+1<(thr P t).length->(acA P (t,i)).1=3\/(acA P (t,i+1)).1=3
theorem a6p {P:Pg} (hf:fenced P) {o:List Int} (h:Can 3 P o):Can 1 P o:=by
 obtain ⟨L,hL,hw,ho⟩:=(a7j (by decide)).1 h;refine (a7j (by decide)).2 ⟨L,?_,hw,ho⟩;clear hw ho h;have key:Trc 1 P L /\ ∀ t c,(t,c)∈L->(acA P (t,c)).1=3 -> ∀ j,j<c->(t,j)∈L:=by
  induction hL with
  | nil=>exact ⟨.nil,fun t c hc=>by cases hc⟩
  | @snoc L x hL h1 h2 h3 h4 ih =>
    obtain ⟨ih1,ih2⟩:=ih;have hall : ∀ j,j<x.2->(x.1,j)∈L:=by
     intro j hj;obtain ⟨t,i⟩:=x;simp only at h1 h2 h4 hj ⊢;by_cases hxf:(acA P (t,i)).1=3
     ·exact h4 j hj (.inr (.inl hxf))
     obtain ⟨m,rfl⟩ : ∃ m,i=m+1:=⟨i-1,by omega⟩;have hm:(acA P (t,m)).1=3:=(hf t m h2).resolve_right hxf;have hin:=h4 m (by omega) (.inr (.inr (.inl hm)));rcases Nat.lt_or_eq_of_le (Nat.le_of_lt_succ hj) with g | g
     ·exact ih2 t m hin hm j g
     subst g;exact hin
    refine ⟨.snoc ih1 h1 h2 h3 fun j hj _=>hall j hj,fun t c hc hcf j hj => ?_⟩;rcases List.mem_append.1 hc with hc | hc
    ·exact List.mem_append_left _ (ih2 t c hc hcf j hj)
    rw [List.mem_singleton] at hc;subst hc;exact List.mem_append_left _ (hall j hj)
 exact key.1
structure SP (P:Pg) (s:Sta) (n:Nat->Nat):Prop where
 k:WfK 1 P s
 b : ∀ t,t<3 -> ∀ j,btI (s t) j=decide (j<n t)
 l : ∀ t,n t<=(thr P t).length
theorem SP.init (P:Pg):SP P s0 (fun _=>0):=⟨WfK.init 1 P,fun t ht j=>by unfold btI s0;simp,fun t=>Nat.zero_le _⟩
theorem b6q (P:Pg) (s:Sta) (t i:Nat) {u:Nat} (hu:u<3):doS P s t i u=dS s t i u:=by
 unfold doS;split
 ·rw [a0c _ _ _ (by omega)]
 split
 ·rw [a0c _ _ _ (by omega)]
 rfl
section
variable {P:Pg} (hv:VP P) {s:Sta} {n:Nat->Nat} (h:SP P s n)
include hv h
theorem SP.step {t:Nat} (ht:t<P.length) (hi:n t<(thr P t).length):SP P (doS P s t (n t)) (fup n t (n t+1)):=by
 have ht3:=lt3 hv ht;have hb:btI (s t) (n t)=false:=by rw [h.b t ht3];simp
 have hw:=b4Q hv h.k ht hi hb;have e:a4h 1 P s t (n t)=doS P s t (n t):=by unfold a4h;simp
 rw [e] at hw;refine ⟨hw,fun u hu j => ?_,fun u => ?_⟩
 ·rw [b6q P s t _ hu];unfold dS;by_cases hut:u=t
  ·subst hut;rw [a0g,a0g,a5m,h.b u hu];rw [Bool.eq_iff_iff];simp;omega
  rw [a0c _ _ _ hut,a0c _ _ _ hut];exact h.b u hu j
 by_cases hut:u=t
 ·subst hut;rw [a0g];omega
 rw [a0c _ _ _ hut];exact h.l u
theorem SP.over:a3x P s=true ↔ ∀ t,t<P.length->n t=(thr P t).length:=by
 unfold a3x;rw [List.all_eq_true];constructor
 ·intro hh t ht;have:=hh t (List.mem_range.2 ht);rw [zp4,decide_eq_true_eq] at this;obtain ⟨d0,d1⟩:=h.k.wf.d t (lt3 hv ht);have hl:=h.l t;rcases Nat.lt_or_eq_of_le hl with g | g
  ·have:=(a6W d0 d1).1 this.1 _ g;rw [h.b t (lt3 hv ht)] at this;simp at this
  exact g
 intro hh t ht;have ht:=List.mem_range.1 ht;obtain ⟨d0,d1⟩:=h.k.wf.d t (lt3 hv ht);rw [zp4,decide_eq_true_eq];refine ⟨(a6W d0 d1).2 fun i hi => ?_,?_⟩
 ·rw [h.b t (lt3 hv ht),hh t ht];simpa using hi
 rw [h.k.nb (by decide) t (lt3 hv ht)];rfl
end
def run (P:Pg):Sta->List Nat->Option Sta
 | s,[]=>some s
 | s,t::w=>if t<P.length/\nx s t<(thr P t).length then run P (doS P s t (nx s t)) w else none
def ren (m t:Nat):Nat:=if t<m then m-1-t else t
section
variable (a b:Int)
end
theorem b5e {l:List Ac} (h:l.length<=1000000):M83 Ar.std (eT l)=some (eT l):=by
 have e:ap Ar.std [] (eT l)=some (eT l):=b2h (by omega);unfold M83;by_cases h0:0<l.length
 ·exact cnT (by simp;omega) (bt e rfl)
 obtain rfl:l=[]:=List.length_eq_zero_iff.1 (by omega);refine cnF (by simp) ?_;rw [show ap Ar.std [] (eT [])=some [] from e];simp [both]
theorem b9Q (l:List Ac) {i:Nat} (h:i<l.length) (x:Ac) {z:Nat} (hz:z=i):Ar.std.lset (eT l) z (.agg [.int .i64 x.1,.int .i64 x.2.1,.int .i64 x.2.2])=eT (l.set i x):=by
 subst hz;show (eT l).set z _=_;unfold eT enc;rw [List.map_set];rfl
theorem gcT {l:List Ac} {i:Nat} {x:Ac} (h:l[i]?=some x) {z:Nat} (hz:z=i):gc Ar.std cA3 (eT l) z=some x:=by
 subst hz;have h2:(eT l)[z]?=some (cA3.en x):=by
  unfold eT enc;rw [List.getElem?_map,h];rfl
 unfold gc;have:Ar.std.lget (eT l) z=some (cA3.en x):=h2;rw [this];rfl
theorem b8g (l:List Ac):scalars (eT l)=true:=by
 unfold scalars eT enc;rw [List.all_eq_true];intro x hx;obtain ⟨y,_,rfl⟩:=List.mem_map.1 hx
 rfl
theorem b3a {P:Pg} (hv:VP P) {z:Int} (hk:a1H z=true) : ∃ O,IsO z.toNat P O/\M19 Ar.std (eP P) z=some (a1c O,0):=by
 rcases b4X (VP.short hv) z with ⟨h1,_⟩ | ⟨_,h1,_⟩ | ⟨_,_,h⟩
 ·rw [VP.to hv] at h1;cases h1
 ·rw [hk] at h1;cases h1
 exact h
def gI:List (Int×Int)->Int->Option Int
 | [],_=>none
 | p::l,k=>if p.1=k then some p.2 else gI l k
def pI:List (Int×Int)->Int->Int->List (Int×Int)
 | [],k,m=>[(k,m)]
 | p::l,k,m=>if p.1=k then (k,m)::l else p::pI l k m
theorem b8h (l:List (Int×Int)) (k m v:Int):gI (pI l k m) v=if k=v then some m else gI l v:=by
 induction l with
 | nil=>rfl
 | cons p l ih =>
   simp only [pI];by_cases h:p.1=k
   ·rw [if_pos h];simp only [gI];by_cases hv:k=v
    ·rw [if_pos hv,if_pos hv]
    rw [if_neg hv,if_neg hv,if_neg (by rw [h];exact hv)]
   rw [if_neg h];simp only [gI,ih];by_cases hv:p.1=v
   ·rw [if_pos hv,if_neg (fun e=>h (hv.trans e.symm)),if_pos hv]
   rw [if_neg hv,if_neg hv]
theorem b6r (l:List (Int×Int)) (k m:Int):(pI l k m).map (·.1)=if k∈l.map (·.1) then l.map (·.1) else l.map (·.1)++[k]:=by
 induction l with
 | nil=>rfl
 | cons p l ih =>
   simp only [pI];by_cases h:p.1=k
   ·rw [if_pos h];simp [h]
   rw [if_neg h];simp only [List.map_cons,ih];by_cases hk:k∈l.map (·.1)
   ·rw [if_pos hk,if_pos (List.mem_cons_of_mem _ hk)]
   rw [if_neg hk,if_neg (by rw [List.mem_cons];rintro (e | e);exact h e.symm;exact hk e)];rfl
theorem or8 : ∀ (a:Fin 8) (t:Fin 3),(a.val ||| 2 ^ t.val)<8:=by decide +kernel
structure Cov (P:Pg) (Pr:Nat->Nat->Prop) (q:Ac->Prop) (l:List (Int×Int)):Prop where
 nd:(l.map (·.1)).Nodup
 no : ∀ v,gI l v=none -> ∀ t i,Pr t i->q (acA P (t,i))->(acA P (t,i)).2.1≠v
 ye : ∀ v m,gI l v=some m->0<=v/\v<=2/\(∃ t i,Pr t i/\q (acA P (t,i))/\(acA P (t,i)).2.1=v) /\ ∃ a:Nat,m=a/\a<8 /\ ∀ t,t<3->(a.testBit t=true ↔ ∃ i,Pr t i/\q (acA P (t,i))/\(acA P (t,i)).2.1=v)
theorem Cov.nil (P:Pg) (q:Ac->Prop) {Pr:Nat->Nat->Prop} (h : ∀ t i,¬ Pr t i):Cov P Pr q [] :=
 ⟨.nil,fun v _ t i hp=>absurd hp (h t i),fun v m h=>by cases h⟩
theorem Cov.put {P:Pg} {Pr Pr':Nat->Nat->Prop} {q:Ac->Prop} {l:List (Int×Int)} (h:Cov P Pr q l) {t i:Nat} (ht:t<3) (hq:q (acA P (t,i))) {c:Int} (hc:(acA P (t,i)).2.1=c) (c0:0<=c) (c2:c<=2)
  (hp : ∀ u j,Pr' u j↔Pr u j\/(u=t/\j=i)) : ∃ a:Nat,a<8/\(gI l c=none/\a=0\/gI l c=some (a:Int))/\Cov P Pr' q (pI l c ((a ||| 2 ^ t:Nat):Int)):=by
 have hor : ∀ {a u:Nat},(a ||| 2 ^ t).testBit u=true↔a.testBit u=true\/u=t:=fun {a u}=>by
  rw [Nat.testBit_or,Nat.testBit_two_pow,Bool.or_eq_true,decide_eq_true_eq];constructor
  ·rintro (h | h);exact .inl h;exact .inr h.symm
  rintro (h | h);exact .inl h;exact .inr h.symm
 have key : ∀ a:Nat,a<8->(∀ u,u<3->(a.testBit u=true ↔ ∃ j,Pr u j/\q (acA P (u,j))/\(acA P (u,j)).2.1=c))->Cov P Pr' q (pI l c ((a ||| 2 ^ t:Nat):Int)):=by
  intro a ha hb;refine ⟨?_,fun v hv u j hpr hqu => ?_,fun v m hm => ?_⟩
  ·rw [b6r];split
   ·exact h.nd
   rename_i hn;rw [List.nodup_append];exact ⟨h.nd,by simp,fun x hx y hy=>by simp at hy;subst hy;exact fun e=>hn (e▸hx)⟩
  ·rw [b8h] at hv;split at hv
   ·cases hv
   rename_i hne;rcases (hp u j).1 hpr with hpr | ⟨rfl,rfl⟩
   ·exact h.no v hv u j hpr hqu
   rw [hc];exact hne
  rw [b8h] at hm;split at hm
  ·rename_i hcv;subst hcv;cases hm;refine ⟨c0,c2,⟨t,i,(hp t i).2 (.inr ⟨rfl,rfl⟩),hq,hc⟩,_,rfl,or8 ⟨a,ha⟩ ⟨t,ht⟩,fun u hu => ?_⟩;rw [hor,hb u hu];constructor
   ·rintro (⟨j,g1,g2,g3⟩ | rfl)
    ·exact ⟨j,(hp u j).2 (.inl g1),g2,g3⟩
    exact ⟨i,(hp u i).2 (.inr ⟨rfl,rfl⟩),hq,hc⟩
   rintro ⟨j,g1,g2,g3⟩;rcases (hp u j).1 g1 with g1 | ⟨g1,_⟩
   ·exact .inl ⟨j,g1,g2,g3⟩
   exact .inr g1
  rename_i hne;obtain ⟨h1,h2,⟨t',i',h3,h4,h5⟩,b,h6,h7,h8⟩:=h.ye v m hm;refine ⟨h1,h2,⟨t',i',(hp t' i').2 (.inl h3),h4,h5⟩,b,h6,h7,fun u hu=>(h8 u hu).trans ?_⟩;constructor
  ·rintro ⟨j,g1,g2,g3⟩;exact ⟨j,(hp u j).2 (.inl g1),g2,g3⟩
  rintro ⟨j,g1,g2,g3⟩;rcases (hp u j).1 g1 with g1 | ⟨rfl,rfl⟩
  ·exact ⟨j,g1,g2,g3⟩
  exact absurd (hc.symm.trans g3) hne
 cases hg:gI l c with
 | none =>
   refine ⟨0,by omega,.inl ⟨rfl,rfl⟩,key 0 (by omega) fun u hu => ?_⟩;constructor
   ·intro h;simp at h
   rintro ⟨j,g1,g2,g3⟩;exact absurd g3 (h.no c hg u j g1 g2)
 | some m =>
   obtain ⟨_,_,_,a,rfl,h7,h8⟩:=h.ye c m hg;exact ⟨a,h7,.inr rfl,key a h7 h8⟩
theorem IsO.one {k:Nat} (hK:Kind k) {P:Pg} (hv:VP P) (hn:b2Y P) {O:List (List Int)} (h:IsO k P O) {o:List Int} (ho:Can 3 P o):O=[o]:=by
 have up : ∀ o',Can k P o'->Can 3 P o':=fun o' h=>by
  rcases hK with rfl | rfl | rfl
  ·exact h.strict.loose
  ·exact h.loose
  exact h
 have hne:=h.ne hK hv
 match O,hne with
 | [x],_ =>
   have:=a7k hn (up x ((h.mem x).1 (by simp))) ho;rw [this]
 | x::y::r,_ =>
   exfalso;have h1:=a7k hn (up x ((h.mem x).1 (by simp))) ho;have h2:=a7k hn (up y ((h.mem y).1 (by simp))) ho;have:=List.nodup_cons.1 (SS.nodup h.ss);exact this.1 (by rw [h1,h2];simp)
theorem b4q {O:List (List Int)} (hO : ∀ x∈O,SmL x) (hl:O.length<4294967296):M25 Ar.std (a1c O) (a1c O)=some true:=by
 unfold M25;refine cnT (by simp) (bt (v := .inl ()) ?_ rfl);have:=a9I (step:=b1a Ar.std (a1c O) (a1c O)) O (fun _=>false) (.inr ()) (.inl ()) (fun i x hx hi=>by
  have sm:=hO x (List.mem_of_getElem? hx);have ew:Ar.std.wrp .i64 (Ar.std.zadd (i:Int) 1)=((i+1:Nat):Int):=by simp only [a0m,a0n];exact a2x (n:=4294967296) (by omega) (by omega)
  unfold b1a;refine cnT (by simp [hi]) (bt (a6U hx) (bt (a6U hx) (bt (b7Z sm.1 sm.1 sm.2 sm.2) ?_)));rw [b2K.2.2 rfl];refine cnT (by simp) ?_;rw [ew];rfl) (by
  unfold b1a;exact cnF (by simp) rfl)
 rw [this];have:(O.any fun _=>false)=false:=by simp
 rw [this];rfl
def fnc:Ac:=(3,0,0)
theorem a4k (a:Ac) (l:List Ac) (f:Nat->Int):reads (a::l) f=(if a.1=1 then [f 0] else [])++reads l (fun i=>f (i+1)):=by
 unfold reads;rw [List.length_cons,List.range_succ_eq_map,List.filterMap_cons,List.filterMap_map];have e : ∀ i,aAt (a::l) (i+1)=aAt l i:=fun i=>rfl;have e0:aAt (a::l) 0=a:=rfl;have e2:((fun i=>if (aAt (a::l) i).1=1 then some (f i) else none)∘Nat.succ)=fun i=>if (aAt l i).1=1 then some (f (i+1)) else none:=by funext i;rfl
 rw [e2,e0];by_cases h:a.1=1 <;> simp [h]
theorem a5A : ∀ (l r:List Ac) (f:Nat->Int),reads (l++fnc::r) f=reads (l++r) (fun i=>f (if i<l.length then i else i+1))
 | [],r,f=>by
   rw [List.nil_append,List.nil_append,a4k]
   rfl
 | a::l,r,f=>by
   rw [List.cons_append,List.cons_append,a4k,a4k,a5A l r];congr 1;congr 1;funext i;by_cases h:i<l.length
   ·rw [if_pos h,if_pos (by simp;omega)]
   rw [if_neg h,if_neg (by simp;omega)]
structure More1 (P P':Pg) (t0 q:Nat):Prop where
 len:P'.length=P.length
 lt:t0<P.length
 oth : ∀ t,t≠t0->thr P' t=thr P t
 own : ∃ l r,l.length=q/\thr P t0=l++r/\thr P' t0=l++fnc::r
def shf (t0 q t i:Nat):Nat:=if t=t0/\q<=i then i+1 else i
theorem b5f {t0 q t i j:Nat} (h:j<i):shf t0 q t j<shf t0 q t i:=by unfold shf;split <;> split <;> omega
theorem b3b {t0 q t i j:Nat} (h:shf t0 q t i=shf t0 q t j):i=j:=by unfold shf at h;split at h <;> split at h <;> omega
theorem b9R {t0 q i:Nat}:shf t0 q t0 i≠q:=by unfold shf;split <;> omega
theorem b3c {t0 q t i:Nat} (h : ¬ (t=t0/\i=q)) : ∃ j,i=shf t0 q t j:=by
 by_cases ht:t=t0/\q<i
 ·exact ⟨i-1,by unfold shf;rw [if_pos (by omega)];omega⟩
 exact ⟨i,by unfold shf;rw [if_neg (by omega)]⟩
section
variable {P P':Pg} {t0 q:Nat} (hM:More1 P P' t0 q)
include hM
theorem More1.at (t i:Nat):aAt (thr P' t) (shf t0 q t i)=aAt (thr P t) i:=by
 by_cases ht:t=t0
 ·subst ht;obtain ⟨l,r,h1,h2,h3⟩:=hM.own;rw [h2,h3];unfold aAt shf;rw [List.getD_eq_getElem?_getD,List.getD_eq_getElem?_getD];by_cases hi:q<=i
  ·rw [if_pos ⟨rfl,hi⟩,zp8 (by omega),zp8 (by omega),show i+1-l.length=(i-l.length)+1 by omega,List.getElem?_cons_succ]
  rw [if_neg (by omega),zp7 (by omega),zp7 (by omega)]
 unfold shf;rw [if_neg (by omega),hM.oth t ht]
theorem More1.atq:aAt (thr P' t0) q=fnc:=by
 obtain ⟨l,r,h1,h2,h3⟩:=hM.own;rw [h3];unfold aAt;rw [List.getD_eq_getElem?_getD,zp8 (by omega),h1,Nat.sub_self];rfl
theorem More1.lent (t:Nat):(thr P' t).length=if t=t0 then (thr P t).length+1 else (thr P t).length:=by
 by_cases ht:t=t0
 ·subst ht;obtain ⟨l,r,h1,h2,h3⟩:=hM.own;rw [if_pos rfl,h2,h3];simp;omega
 rw [if_neg ht,hM.oth t ht]
theorem More1.qle:q<=(thr P t0).length:=by
 obtain ⟨l,r,h1,h2,h3⟩:=hM.own;rw [h2];simp;omega
theorem More1.shf_len {t i:Nat}:shf t0 q t i<(thr P' t).length↔i<(thr P t).length:=by
 rw [hM.lent];have:=hM.qle;by_cases ht:t=t0
 ·subst ht;rw [if_pos rfl];unfold shf;split <;> omega
 rw [if_neg ht];unfold shf;rw [if_neg (by omega)]
end
structure RF (t0 q:Nat) (s' s:AS):Prop where
 dn : ∀ t i,s.dn t i=s'.dn t (shf t0 q t i)
 rd : ∀ t i,s.rd t i=s'.rd t (shf t0 q t i)
 bf:s.bf=s'.bf
 ce:s.ce=s'.ce
theorem RF.init (t0 q:Nat):RF t0 q AS.init AS.init:=⟨fun _ _=>rfl,fun _ _=>rfl,rfl,rfl⟩
section
variable {P P':Pg} {t0 q:Nat} (hM:More1 P P' t0 q) {s' s:AS} (hR:RF t0 q s' s)
include hM hR
theorem RF.out:b3l P' s'=b3l P s:=by
 unfold b3l;rw [hM.len,hR.ce];congr 1;refine a4t fun t _ => ?_;by_cases ht:t=t0
 ·subst ht;obtain ⟨l,r,h1,h2,h3⟩:=hM.own;rw [h2,h3,a5A];congr 1;funext i;rw [hR.rd];unfold shf;rw [h1];by_cases hi:i<q
  ·rw [if_pos hi,if_neg (by omega)]
  rw [if_neg hi,if_pos (by omega)]
 rw [hM.oth t ht];congr 1;funext i;rw [hR.rd];unfold shf;rw [if_neg (by omega)]
theorem RF.fence (k:Nat):RF t0 q (doA k P' s' t0 q) s:=by
 have e:=hM.atq;refine ⟨fun t i => ?_,fun t i => ?_,?_,?_⟩
 ·rw [hR.dn];simp only [doA,fup];by_cases ht:t=t0
  ·subst ht;have:shf t q t i≠q:=b9R;simp [fup,this]
  simp [fup,ht]
 ·rw [hR.rd];simp only [doA,e,fnc]
  rfl
 ·rw [hR.bf];simp only [doA,e,fnc];rfl
 rw [hR.ce];simp only [doA,e,fnc];rfl
theorem RF.act (k:Nat) (t i:Nat):RF t0 q (doA k P' s' t (shf t0 q t i)) (doA k P s t i):=by
 have e:=hM.at t i;have hsn : ∀ c,sn s' t c=sn s t c:=fun c=>by unfold sn;rw [hR.bf,hR.ce]
 refine ⟨fun u j => ?_,fun u j => ?_,?_,?_⟩
 ·simp only [doA,fup];by_cases hu:u=t
  ·subst hu;by_cases hj:j=i
   ·subst hj;simp
   have:shf t0 q u j≠shf t0 q u i:=fun h=>hj (b3b h);simp [fup,hj,this,hR.dn]
  simp [fup,hu,hR.dn]
 ·simp only [doA,e,fup];by_cases h1:(aAt (thr P t) i).1=1
  ·rw [if_pos h1,if_pos h1];by_cases hu:u=t
   ·subst hu;by_cases hj:j=i
    ·subst hj;simp [hsn]
    have:shf t0 q u j≠shf t0 q u i:=fun h=>hj (b3b h);simp [fup,hj,this,hR.rd]
   simp [fup,hu,hR.rd]
  rw [if_neg h1,if_neg h1];exact hR.rd u j
 ·simp only [doA,e,hR.bf]
 simp only [doA,e,hR.ce]
theorem RF.outB (t:Nat):RF t0 q (outB s' t) (outB s t):=by
 unfold Go.Am.outB;rw [hR.bf];cases hb:s'.bf t with
 | nil=>exact hR
 | cons x r=>exact ⟨hR.dn,hR.rd,by simp only [hR.bf],by simp only [hR.ce]⟩
theorem RF.may {k t i:Nat} (h:a8h k (thr P' t) (s'.t t) (shf t0 q t i)):a8h k (thr P t) (s.t t) i:=by
 obtain ⟨h1,h2,h3⟩:=h;refine ⟨(hR.dn t i).trans h1,fun j hj hm=>(hR.dn t j).trans (h2 _ (b5f hj) ?_),fun hk hf => ?_⟩
 ·rw [hM.at,hM.at];exact hm
 have:=h3 hk (by rw [hM.at];exact hf);show s.bf t=[];rw [hR.bf];exact this
end
theorem b4r {P P':Pg} {t0 q:Nat} (hM:More1 P P' t0 q) {k:Nat} {o:List Int} (h:Can k P' o):Can k P o:=by
 obtain ⟨s',h1,h2,h3⟩:=h;have key : ∃ s,Stps k P AS.init s/\RF t0 q s' s:=by
  clear h2 h3
  induction h1 with
  | refl=>exact ⟨_,.refl _,RF.init t0 q⟩
  | tail _ h ih =>
    obtain ⟨s,i1,i2⟩:=ih;cases h with
    | act t i ht hi hm =>
      by_cases hq:t=t0/\i=q
      ·obtain ⟨rfl,rfl⟩:=hq;exact ⟨s,i1,i2.fence hM k⟩
      obtain ⟨j,rfl⟩:=b3c hq;exact ⟨_,.tail i1 (.act t j (hM.len▸ht) (hM.shf_len.1 hi) (i2.may hM hm)),i2.act hM k t j⟩
    | out t ht hk hb=>exact ⟨_,.tail i1 (.out t (hM.len▸ht) hk (by rw [i2.bf];exact hb)),i2.outB hM t⟩
 obtain ⟨s,i1,i2⟩:=key;refine ⟨s,i1,fun t ht=>⟨fun i hi => ?_,?_⟩,by rw [<-h3];exact (i2.out hM).symm⟩
 ·rw [i2.dn];exact (h2 t (hM.len▸ht)).1 _ (hM.shf_len.2 hi)
 rw [i2.bf];exact (h2 t (hM.len▸ht)).2
theorem a9l {P P':Pg} {t0 q:Nat} (hM:More1 P P' t0 q) {o:List Int} (h:Can 1 P o):Can 1 P' o:=by
 obtain ⟨s,h1,h2,h3⟩:=h;have hqlen:q<(thr P' t0).length:=by have:=hM.qle;rw [hM.lent,if_pos rfl];omega

 have fence : ∀ {s':AS},Stps 1 P' AS.init s'->RF t0 q s' s->True:=fun _ _=>trivial;have doF : ∀ {s' s:AS},Stps 1 P' AS.init s'->RF t0 q s' s->(∀ j,j<q->s.dn t0 j=true) -> ∃ s'',Stps 1 P' AS.init s''/\RF t0 q s'' s/\s''.dn t0 q=true:=by
  intro s' s g1 g2 g3;cases hd:s'.dn t0 q with
  | true=>exact ⟨s',g1,g2,hd⟩
  | false =>
    refine ⟨_,.tail g1 (.act t0 q (hM.len▸hM.lt) hqlen ⟨hd,fun j hj _ => ?_,fun hk=>by cases hk⟩),g2.fence hM 1,by simp [doA]⟩;have:=g2.dn t0 j;unfold shf at this;rw [if_neg (by omega),g3 j hj] at this;exact this.symm
 have key : ∃ s',Stps 1 P' AS.init s'/\RF t0 q s' s:=by
  clear h2 h3 fence
  induction h1 with
  | refl=>exact ⟨_,.refl _,RF.init t0 q⟩
  | @tail u v _ h ih =>
    obtain ⟨s',i1,i2⟩:=ih;cases h with
    | out t ht hk hb=>cases hk
    | act t i ht hi hm =>
      have hall : ∀ j,j<i->u.dn t j=true:=fun j hj=>hm.2.1 j hj (.inl (by decide));by_cases hq:t=t0/\q<=i
      ·obtain ⟨rfl,hqi⟩:=hq;obtain ⟨s'',j1,j2,j3⟩:=doF i1 i2 (fun j hj=>hall j (by omega));refine ⟨_,.tail j1 (.act t (shf t q t i) (hM.len▸ht) (hM.shf_len.2 hi) ⟨(j2.dn t i).symm.trans hm.1,fun j hj _ => ?_,fun hk=>by cases hk⟩),j2.act hM 1 t i⟩;by_cases hjq:j=q
       ·subst hjq;exact j3
       obtain ⟨j',rfl⟩:=b3c (t0:=t) (q:=q) (t:=t) (i:=j) (by omega);have hlt:j'<i:=by
        refine Classical.byContradiction fun hn => ?_;rcases Nat.lt_or_eq_of_le (Nat.le_of_not_lt hn) with g | g
        ·have:=b5f (t0:=t) (q:=q) (t:=t) g;omega
        subst g;omega
       exact (j2.dn t j').symm.trans (hall j' hlt)
      refine ⟨_,.tail i1 (.act t (shf t0 q t i) (hM.len▸ht) (hM.shf_len.2 hi) ⟨(i2.dn t i).symm.trans hm.1,fun j hj _ => ?_,fun hk=>by cases hk⟩),i2.act hM 1 t i⟩;have e:shf t0 q t i=i:=by unfold shf;rw [if_neg hq]
      rw [e] at hj;have e2:shf t0 q t j=j:=by unfold shf;rw [if_neg (by omega)]
      have:=i2.dn t j;rw [e2] at this;exact this.symm.trans (hall j hj)
 obtain ⟨s',i1,i2⟩:=key;obtain ⟨s'',j1,j2,j3⟩:=doF i1 i2 (fun j hj=>(h2 t0 hM.lt).1 j (by have:=hM.qle;omega));refine ⟨s'',j1,fun t ht=>⟨fun i hi => ?_,?_⟩,by rw [<-h3];exact j2.out hM⟩
 ·by_cases hq:t=t0/\i=q
  ·rw [hq.1,hq.2];exact j3
  obtain ⟨j,rfl⟩:=b3c hq;rw [<-j2.dn];exact (h2 t (hM.len▸ht)).1 j (hM.shf_len.1 hi)
 rw [<-j2.bf];exact (h2 t (hM.len▸ht)).2
theorem a9X {P P':Pg} {t0 q:Nat} (hM:More1 P P' t0 q) {o:List Int}:Can 1 P' o↔Can 1 P o:=⟨b4r hM,a9l hM⟩
theorem a5B {P:Pg} {t0:Nat} (h:t0<P.length) (l:List Ac) (t:Nat):thr (P.set t0 l) t=if t=t0 then l else thr P t:=by
 unfold thr;rw [List.getD_eq_getElem?_getD,List.getD_eq_getElem?_getD,List.getElem?_set];by_cases ht:t0=t
 ·subst ht;simp [h]
 rw [if_neg ht,if_neg (fun e=>ht e.symm)]
theorem b4s {P:Pg} {t0:Nat} (h:t0<P.length) {l r:List Ac} (e:thr P t0=l++r):More1 P (P.set t0 (l++fnc::r)) t0 l.length where
 len:=by simp
 lt:=h
 oth t ht:=by rw [a5B h,if_neg ht]
 own:=⟨l,r,rfl,e,by rw [a5B h,if_pos rfl]⟩
theorem b4t {P:Pg} {t0:Nat} (l m:List Ac):(P.set t0 l).set t0 m=P.set t0 m:=List.set_set ..
theorem a2K {P:Pg} {t0:Nat} (h:t0<P.length) {o:List Int} : ∀ (r l:List Ac),(∀ a∈r,a4A a=true)->(Can 1 (P.set t0 (l++r)) o↔Can 1 (P.set t0 (l++r.filter wk)) o)
 | [],l,_=>Iff.rfl
 | a::r,l,hv=>by
   have ha:=hv a (List.mem_cons_self ..);have hr:=fun b hb=>hv b (List.mem_cons_of_mem a hb);by_cases hw:wk a=true
   ·rw [List.filter_cons_of_pos hw];have ih:=a2K h (o:=o) r (l++[a]) hr;rw [List.append_assoc,List.append_assoc] at ih;exact ih
   rw [List.filter_cons_of_neg hw];have hf:a=fnc:=by
    rcases a3M ha with h1 | h1 | h1
    ·exact absurd (by unfold wk;simp;omega) hw
    ·exact absurd (by unfold wk;simp;omega) hw
    exact h1
   subst hf;have ih:=a2K h (o:=o) r l hr;rw [<-ih];have hm:=b4s (P:=P.set t0 (l++r)) (t0:=t0) (by simpa using h) (l:=l) (r:=r) (by rw [a5B h,if_pos rfl]);rw [b4t] at hm;exact a9X hm
theorem set_mid {α:Type} : ∀ (A:List α) (x y:α) (B:List α),(A++x::B).set A.length y=A++y::B
 | [],_,_,_=>rfl
 | a::A,x,y,B=>congrArg (a :: ·) (set_mid A x y B)
def nfP (P:Pg):Pg:=P.map fun l=>l.filter wk
theorem b6s {P:Pg} (f:List Ac->List Ac) (h0:f []=[]) (t:Nat):thr (P.map f) t=f (thr P t):=by
 unfold thr;rw [List.getD_eq_getElem?_getD,List.getD_eq_getElem?_getD,List.getElem?_map];cases P[t]? with
 | none=>exact h0.symm
 | some l=>rfl
theorem b3d {P:Pg} (hv : ∀ l∈P,∀ a∈l,a4A a=true) {o:List Int}:Can 1 P o↔Can 1 (nfP P) o:=by
 have key : ∀ n,n<=P.length->(Can 1 P o↔Can 1 ((P.take n).map (fun l=>l.filter wk)++P.drop n) o):=by
  intro n
  induction n with
  | zero=>intro _;simp
  | succ n ih =>
    intro hn;rw [ih (by omega)];have hlt:n<((P.take n).map (fun l=>l.filter wk)++P.drop n).length:=by simp;omega
    have hg:=zp1 (l:=P) (i:=n) (by omega);have hd:P.drop n=P[n]::P.drop (n+1):=List.drop_eq_getElem_cons (by omega);have hl:((P.take n).map (fun l=>l.filter wk)).length=n:=by simp;omega
    have e1:((P.take n).map (fun l=>l.filter wk)++P.drop n)=((P.take n).map (fun l=>l.filter wk)++P.drop n).set n ([]++P[n]):=by
     rw [hd];have:=set_mid ((P.take n).map (fun l=>l.filter wk)) P[n] ([]++P[n]) (P.drop (n+1));rw [hl] at this;rw [this];rfl
    have e2:((P.take (n+1)).map (fun l=>l.filter wk)++P.drop (n+1))=((P.take n).map (fun l=>l.filter wk)++P.drop n).set n ([]++P[n].filter wk):=by
     rw [hd];have:=set_mid ((P.take n).map (fun l=>l.filter wk)) P[n] ([]++P[n].filter wk) (P.drop (n+1));rw [hl] at this;rw [this,List.take_succ_eq_append_getElem (by omega),List.map_append];simp
    rw [e2]
    conv=>lhs;rw [e1]
    exact a2K hlt P[n] [] (hv _ (zp6 _))
 have:=key P.length (Nat.le_refl _);rw [List.take_length,List.drop_length,List.append_nil] at this;exact this
def sep:List Ac->List Ac
 | []=>[]
 | [a]=>[a]
 | a::b::l=>a::fnc::sep (b::l)
def allF (P:Pg):Pg:=P.map fun l=>sep (l.filter wk)
theorem a4l : ∀ {l:List Ac},(∀ a∈l,wk a=true)->(sep l).filter wk=l
 | [],_=>rfl
 | [a],h=>by rw [sep,List.filter_cons_of_pos (h a (by simp))];rfl
 | a::b::l,h=>by
   rw [sep,List.filter_cons_of_pos (h a (by simp)),List.filter_cons_of_neg (by simp [wk,fnc]),a4l fun c hc=>h c (by simp at hc ⊢;right;exact hc)]
theorem b3e : ∀ {l:List Ac} {a:Ac},a∈sep l->a∈l\/a=fnc
 | [],_,h=>by cases h
 | [b],_,h => .inl h
 | b::c::l,a,h=>by
   rw [sep] at h;rcases List.mem_cons.1 h with h | h
   ·exact .inl (by rw [h];simp)
   rcases List.mem_cons.1 h with h | h
   ·exact .inr h
   rcases b3e h with h | h
   ·exact .inl (List.mem_cons_of_mem _ h)
   exact .inr h
theorem a9m : ∀ l:List Ac,(sep l).length=2*l.length-1
 | []=>rfl
 | [a]=>rfl
 | a::b::l=>by
   rw [sep];have:=a9m (b::l);simp only [List.length_cons] at this ⊢;omega
theorem b3f : ∀ (l:List Ac) (i:Nat),i+1<(sep l).length->(aAt (sep l) i).1=3\/(aAt (sep l) (i+1)).1=3
 | [],i,h=>by simp [sep] at h
 | [a],i,h=>by simp [sep] at h
 | a::b::l,0,h => .inr rfl
 | a::b::l,1,h => .inl rfl
 | a::b::l,i+2,h=>by
   have:=b3f (b::l) i (by rw [sep] at h;simp only [List.length_cons] at h;omega);rw [sep];exact this
theorem a5C (P:Pg):fenced (allF P):=by
 intro t i hi;unfold acA allF at *;rw [b6s _ rfl] at *;exact b3f _ i hi
theorem b6t (P:Pg):nfP (allF P)=nfP P:=by
 unfold nfP allF;rw [List.map_map];refine List.map_congr_left fun l _ => ?_;exact a4l fun a ha=>(List.mem_filter.1 ha).2
theorem b3g (l:List Ac):nWk (sep (l.filter wk))=nWk l:=by
 unfold nWk;rw [List.countP_eq_length_filter,List.countP_eq_length_filter,a4l fun a ha=>(List.mem_filter.1 ha).2]
theorem VP.allF {P:Pg} (hv:a2n P=true):a2n (allF P)=true:=by
 unfold a2n allW Go.Am.allF at *;rw [zp4,zp4] at *;obtain ⟨⟨h1,h2⟩,h3⟩:=hv;have e:(P.map fun l=>sep (l.filter wk)).map nWk=P.map nWk:=by
  rw [List.map_map];exact List.map_congr_left fun l _=>b3g l
 rw [e,List.length_map];refine ⟨⟨?_,h2⟩,h3⟩;rw [List.all_eq_true] at *;intro l hl;obtain ⟨m,hm,rfl⟩:=List.mem_map.1 hl;have h4:=h1 m hm;unfold a6V at *;rw [zp4,zp4,decide_eq_true_eq,decide_eq_true_eq] at *;rw [b3g];refine ⟨⟨?_,?_⟩,h4.2⟩
 ·rw [a9m];have:(m.filter wk).length<=4:=by rw [<-List.countP_eq_length_filter];exact h4.2
  omega
 rw [List.all_eq_true] at *;intro a ha;rcases b3e ha with h | h
 ·exact h4.1.2 a (List.mem_filter.1 h).1
 rw [h];rfl
theorem a7l {P:Pg} (hv:a2n P=true) : ∀ l∈P,∀ a∈l,a4A a=true:=by
 unfold a2n at hv;rw [zp4,zp4] at hv;have h1:=hv.1.1;rw [List.all_eq_true] at h1;intro l hl a ha;have h:=h1 l hl;unfold a6V at h;rw [zp4,zp4] at h;have h2:=h.1.2;rw [List.all_eq_true] at h2;exact h2 a ha
theorem a7m {P:Pg} (hv:a2n P=true) {k:Nat} (hK:Kind k) {o:List Int}:Can k (allF P) o↔Can 1 P o:=by
 have e:Can 1 (allF P) o↔Can 1 P o:=by
  rw [b3d (a7l (VP.allF hv)),b6t,<-b3d (a7l hv)]
 rw [<-e];rcases hK with rfl | rfl | rfl
 ·exact Iff.rfl
 ·exact ⟨fun h=>a6p (a5C P) h.loose,fun h=>h.strict⟩
 exact ⟨fun h=>a6p (a5C P) h,fun h=>h.strict.loose⟩
theorem a9n {α β:Type} {f g:α->Option β} : ∀ {l:List α},(∀ a∈l,f a=g a)->l.filterMap f=l.filterMap g
 | [],_=>rfl
 | a::l,h=>by
   rw [List.filterMap_cons,List.filterMap_cons,h a (List.mem_cons_self ..),a9n fun b hb=>h b (List.mem_cons_of_mem _ hb)]
theorem a2y {l:List Ac} {m:Nat} (hm:m<=l.length) (r:Nat->Int):reads (l.take m) r=(List.range m).filterMap fun i=>if (aAt l i).1=1 then some (r i) else none:=by
 unfold reads;rw [List.length_take,Nat.min_eq_left hm];refine a9n fun i hi => ?_;have hi:=List.mem_range.1 hi;have e:aAt (l.take m) i=aAt l i:=by
  unfold aAt;rw [List.getD_eq_getElem?_getD,List.getD_eq_getElem?_getD,List.getElem?_take_of_lt hi]
 rw [e]
theorem b0O {l:List Ac} {m:Nat} (hm:m<l.length) (r:Nat->Int):reads (l.take (m+1)) r=reads (l.take m) r++if (aAt l m).1=1 then [r m] else []:=by
 rw [a2y hm,a2y (Nat.le_of_lt hm),List.range_succ,List.filterMap_append];congr 1;by_cases h:(aAt l m).1=1 <;> simp [h]
theorem a6q {l:List Ac} {m:Nat} (hm:m<=l.length) {r r':Nat->Int} (h : ∀ i,i<m->r i=r' i):reads (l.take m) r=reads (l.take m) r':=by
 rw [a2y hm,a2y hm];refine a9n fun i hi => ?_;rw [h i (List.mem_range.1 hi)]
theorem b4u {l:List Ac} {m:Nat} (hm:m<=l.length) (r:Nat->Int):(reads (l.take m) r).length<=m:=by
 rw [a2y hm];have:=List.length_filterMap_le (fun i=>if (aAt l i).1=1 then some (r i) else none) (List.range m)
 rwa [List.length_range] at this
structure PR (P:Pg) (s:Sta) (n:Nat->Nat) (rd:Nat->List Int):Prop where
 sp:SP P s n
 rd : ∀ t,rd t=reads ((thr P t).take (n t)) ((vw P s).rd t)
theorem PR.init (P:Pg):PR P s0 (fun _=>0) (fun _=>[]):=⟨SP.init P,fun t=>by rw [List.take_zero];rfl⟩
def rd' (P:Pg) (s:Sta) (n:Nat->Nat) (rd:Nat->List Int) (t:Nat):Nat->List Int :=
 if (aAt (thr P t) (n t)).1=1 then fup rd t (rd t++[s (11+(aAt (thr P t) (n t)).2.1.toNat)]) else rd
section
variable {P:Pg} (hv:VP P) {s:Sta} {n:Nat->Nat} {rd:Nat->List Int} (h:PR P s n rd)
include hv h
theorem PR.nb : ∀ t,(vw P s).bf t=[]:=by
 intro t;show (if t<3 then a3a s t else [])=[]
 split
 ·rename_i ht;unfold a3a;rw [h.sp.k.nb (by decide) t ht];rfl
 rfl
theorem PR.len (t:Nat):(rd t).length<=7:=by
 rw [h.rd t];exact Nat.le_trans (b4u (h.sp.l t) _) (Nat.le_trans (h.sp.l t) (hv.l7 t))
theorem PR.step {t:Nat} (ht:t<P.length) (hi:n t<(thr P t).length):PR P (doS P s t (n t)) (fup n t (n t+1)) (rd' P s n rd t):=by
 have ht3:=lt3 hv ht;refine ⟨SP.step hv h.sp ht hi,fun u => ?_⟩;have hb:=PR.nb hv h;have e:vw P (doS P s t (n t))=doA 3 P (vw P s) t (n t):=by
  rw [b7J (k:=1) hv h.sp.k.wf ht hi (.inl (by decide)) (.inl (hb t)),b6o (by decide)]
 have hrd : ∀ u j,(vw P (doS P s t (n t))).rd u j=if (aAt (thr P t) (n t)).1=1/\(u,j)=(t,n t) then (vw P s).ce (aAt (thr P t) (n t)).2.1 else (vw P s).rd u j:=fun u j=>by
  rw [e];exact a8x hb (t,n t) (u,j)
 have old : ∀ u j,j<n u->(vw P (doS P s t (n t))).rd u j=(vw P s).rd u j:=fun u j hj=>by
  rw [hrd,if_neg];rintro ⟨_,hh⟩;rw [Prod.mk.injEq] at hh;obtain ⟨rfl,rfl⟩:=hh;omega
 have hl:=h.sp.l u;by_cases hut:u=t
 ·subst hut;rw [a0g,b0O hi,a6q hl (old u),<-h.rd u];unfold rd';by_cases h1:(aAt (thr P u) (n u)).1=1
  ·rw [if_pos h1,if_pos h1,a0g,hrd,if_pos ⟨h1,rfl⟩];obtain ⟨c0,c1,_⟩:=b0G hv h.sp.k.wf ht hi (.inl h1);congr 2;show _=(if 0<=(aAt (thr P u) (n u)).2.1/\(aAt (thr P u) (n u)).2.1<=2 then _ else _)
   rw [if_pos ⟨c0,c1⟩]
  rw [if_neg h1,if_neg h1,List.append_nil]
 rw [a0c _ _ _ hut,a6q hl (old u),<-h.rd u];unfold rd';split
 ·rw [a0c _ _ _ hut]
 rfl
end
def c3 (x y z c:Int):Int:=if c=0 then x else if c=1 then y else z
theorem s3 (s:Sta) {c:Int} (h0:0<=c) (h2:c<=2):c3 (s 11) (s 12) (s 13) c=s (11+c.toNat):=by
 rcases (show c=0\/c=1\/c=2 by omega) with rfl | rfl | rfl <;> rfl
section
variable {P:Pg} (hv:VP P) {s:Sta} {n:Nat->Nat} {rd:Nat->List Int} (h:PR P s n rd)
include hv h
end
theorem PR.out {P:Pg} (hv:VP P) {s:Sta} {n:Nat->Nat} {rd:Nat->List Int} (h:PR P s n rd) (ho:a3x P s=true):(List.range P.length).flatMap rd++[s 11,s 12,s 13]=a4i P s:=by
 rw [<-a7f];unfold b3l;have h1:=(SP.over hv h.sp).1 ho;congr 1;refine a4t fun t ht => ?_;have ht:=List.mem_range.1 ht;rw [h.rd t,h1 t ht,List.take_length]
theorem a9o (a:Ac):b5m Ar.std a.1 a.2.1 a.2.2=some (!wk a):=rfl
def kw (l:List Ac):List Ac:=l.filter wk
theorem a9p {l:List Ac} {i:Nat} {x:Ac} (h:l[i]?=some x):kw (l.take (i+1))=bif wk x then kw (l.take i)++[x] else kw (l.take i):=by
 unfold kw;rw [a0h h,List.filter_append];cases hd:wk x <;> simp [hd]
theorem b8i (l:List Ac) (i:Nat):(kw (l.take i)).length<=i:=by
 unfold kw;have:=List.length_filter_le wk (l.take i);have h2:(l.take i).length<=i:=by simp;omega
 omega
theorem b8j (l:List Ac) {n:Nat} (h:n<=l.length):fz Ar.std (eT l) 0 (n:Int)=some (eT (l.take n)):=by
 unfold fz;have hz:Ar.std.zle (Ar.std.zadd 0 (n:Int)) (Ar.std.len (eT l))=true:=by simp;omega
 rw [hz,cond_true];simp only [a0n,a6R,Int.zero_add,Int.toNat_zero,List.drop_zero,Nat.sub_zero,Int.toNat_natCast];unfold eT enc;rw [<-List.map_take]
theorem b6u {l:List Ac} (hl:l.length<=1000000) :
  ∃ l':List Ac,b6T Ar.std 0 (l.length:Int) (eT l)=some (0,((kw l).length:Int),eT l')/\l'.take (kw l).length=kw l/\(kw l).length<=l'.length:=by
 have ew : ∀ i:Nat,i<=1000000->Ar.std.wrp .i64 (Ar.std.zadd (i:Int) 1)=((i+1:Nat):Int):=fun i hi=>by
  simp only [a0m,a0n];exact a2x (n:=5000001) (by omega) (by omega)
 have ez : ∀ i:Nat,Ar.std.nat (Ar.std.zadd 0 (i:Int))=i:=fun i=>by simp
 have e0:b1b Ar.std 0 (l.length:Int) (eT l)=some ((l.findIdx? fun x => !wk x).elim (-1) (fun i=>(i:Int))):=by
  have key:=a5k (step:=a4L Ar.std 0 (l.length:Int) (eT l)) l (fun x => !wk x) (fun i=>Sum.inr (i:Int)) (Sum.inl ()) (fun i a ha hi=>by
   unfold a4L;refine cnT (by simp [hi]) (bc (bck (by simp [hi]) ?_));rw [ez];refine bt (gcT ha rfl) (bt (a9o a) ?_);rw [ew i (by omega)];cases wk a <;> rfl) (by
   unfold a4L;exact cnF (by simp) rfl)
  unfold b1b;refine bt key ?_;exact a5l _ _
 unfold b6T;have hself:kw (l.take l.length)=kw l:=by rw [List.take_length]
 cases hf:l.findIdx? fun x => !wk x with
 | none =>
   rw [hf] at e0;rw [List.findIdx?_eq_none_iff] at hf;have e:kw l=l:=by
    unfold kw;rw [List.filter_eq_self];intro x hx;have:=hf x hx;simpa using this
   rw [e];exact ⟨l,bt e0 (cnT (by simp) rfl),by rw [List.take_length],Nat.le_refl _⟩
 | some q =>
   rw [hf] at e0;obtain ⟨hq,hq1,hq2⟩:=List.findIdx?_eq_some_iff_getElem.1 hf;simp only [Option.elim_some] at e0;have hkq : ∀ i,i<=q->kw (l.take i)=l.take i:=by
    intro i
    induction i with
    | zero=>intro _;rfl
    | succ i ih =>
      intro hi;have hx:l[i]?=some l[i]:=zp1 (by omega);have h2:=hq2 i (by omega);have h3:wk l[i]=true:=by simpa using h2
      rw [a9p hx,ih (by omega),h3,cond_true,a0h hx]
   have hxq:l[q]?=some l[q]:=zp1 hq;have hkq1:kw (l.take (q+1))=l.take q:=by
    have h3:wk l[q]=false:=by simpa using hq1
    rw [a9p hxq,h3,cond_false,hkq q (Nat.le_refl _)]
   obtain ⟨⟨w,m⟩,⟨h1,h2,h3,h4,h5⟩,e⟩:=a1o (step:=a5U Ar.std 0 (l.length:Int)) (l.length-q-1) (fun (s:Nat×List Ac) (i:Nat)=>((s.1:Int),((q+1+i:Nat):Int),eT s.2))
    (fun i s=>s.1=(kw (l.take (q+1+i))).length/\s.2.take s.1=kw (l.take (q+1+i))/\s.2.length=l.length/\(∀ j,q+1+i<=j->s.2[j]?=l[j]?)/\s.1<=q+i) (fun s=>((s.1:Int),eT s.2))
    (fun i s hi hR=>by
     obtain ⟨w,m⟩:=s;obtain ⟨g1,g2,g3,g4,g5⟩:=hR;simp only at g1 g2 g3 g4 g5;have hx:l[q+1+i]?=some l[q+1+i]:=zp1 (by omega);have mx:m[q+1+i]?=some l[q+1+i]:=by rw [g4 _ (Nat.le_refl _),hx]
     have hsucc:=a9p hx;rw [show q+1+i+1=q+1+(i+1) by omega] at hsucc;cases hd:wk l[q+1+i] with
     | false =>
       rw [hd,cond_false] at hsucc;refine ⟨(w,m),⟨by rw [hsucc];exact g1,by rw [hsucc];exact g2,g3,fun j hj=>g4 j (by omega),by simp only;omega⟩,?_⟩;unfold a5U;dsimp only;rw [ez];refine cnT (by simp;omega) (bc (bck (by simp;omega) (bt (gcT mx rfl) (bt (a9o _) ?_))));rw [hd,ew (q+1+i) (by omega)];rfl
     | true =>
       rw [hd,cond_true] at hsucc;have htk:(m.set w l[q+1+i]).take (w+1)=kw (l.take (q+1+i))++[l[q+1+i]]:=by
        have:(m.set w l[q+1+i])[w]?=some l[q+1+i]:=List.getElem?_set_self (by omega);rw [a0h this,List.take_set_of_le (Nat.le_refl _),g2]
       refine ⟨(w+1,m.set w l[q+1+i]),⟨by rw [hsucc,List.length_append,<-g1];rfl,by rw [hsucc];exact htk,by simp only [List.length_set];exact g3,fun j hj => ?_,by simp only;omega⟩,?_⟩
       ·simp only;rw [List.getElem?_set_ne (by omega)];exact g4 j (by omega)
       unfold a5U;dsimp only;rw [ez,ez];refine cnT (by simp;omega) (bc (bck (by simp;omega) (bt (gcT mx rfl) (bt (a9o _) ?_))));rw [hd,ew (q+1+i) (by omega)];refine bt (v:=(((w+1:Nat):Int),eT (m.set w l[q+1+i]))) ?_ rfl;have hmw:m[w]?=some m[w]:=zp1 (by omega);refine cnF rfl (bc (bck (by simp;omega) (bt (gcT hmw rfl) ?_)));rw [b9Q m (i:=w) (by omega) _ rfl,ew w (by omega)])
    (fun s _=>by
     unfold a5U;exact cnF (by simp;omega) rfl) (q,l) ⟨by rw [Nat.add_zero,hkq1,List.length_take];omega,by rw [Nat.add_zero,hkq1],rfl,fun _ _=>rfl,by simp⟩
   have hqn2:q+1+(l.length-q-1)=l.length:=by omega
   rw [hqn2,hself] at h1 h2;simp only at h1 h2 h3 h5 e;rw [<-h1];have hwn:w<=l.length:=by rw [h1,<-hself];exact b8i l l.length
   refine ⟨m.take w++List.replicate (l.length-w) (0,0,0)++m.drop l.length,?_,?_,?_⟩
   ·refine bt e0 (cnF (by simp) ?_);rw [ew q (by omega)];rw [Nat.add_zero] at e;refine bt e ?_;dsimp only;refine bc (bck (by simp;omega) (bc (bck (by simp;omega) (bc (bc (bck (by simp;omega) ?_))))));have hfl:Ar.std.fill (eT m) (Ar.std.zadd 0 (w:Int)) (Ar.std.zsub (l.length:Int) (w:Int)) (.agg [.int .i64 0,.int .i64 0,.int .i64 0])=eT (m.take w++List.replicate (l.length-w) (0,0,0)++m.drop l.length):=by
     have a1:Ar.std.zadd 0 (w:Int)=(w:Int):=by simp
     have a2:Ar.std.zsub (l.length:Int) (w:Int)=((l.length-w:Nat):Int):=by simp;omega
     rw [a1,a2,a4G];unfold a0T eT enc;rw [Int.toNat_natCast,Int.toNat_natCast,List.map_append,List.map_append,List.map_take,List.map_drop,List.map_replicate,show w+(l.length-w)=l.length by omega];rfl
    rw [hfl];simp
   ·have hml:w<=m.length:=by omega
    rw [List.append_assoc,List.take_append_of_le_length (by simp;omega),List.take_take,Nat.min_self];exact h2
   simp;omega
theorem b5g {l:List Ac} (hl:l.length<=1000000):M90 Ar.std (eT l)=some (eT (kw l)):=by
 unfold M90;refine bt (b5e hl) ?_;by_cases h0:0<l.length
 ·obtain ⟨l',h1,h2,h3⟩:=b6u hl;have el:Ar.std.len (eT l)=(l.length:Int):=by simp
  refine cnT (by simp;omega) (bck (b8g l) ?_);rw [el];refine bt h1 (bt (b8j l' h3) ?_);rw [h2]
 obtain rfl:l=[]:=List.length_eq_zero_iff.1 (by omega);refine cnF (by simp) (bt (v:=[]) ?_ rfl);unfold b3q;refine bt (v := -1) ?_ (cnT rfl rfl);unfold b3p;refine bt (v := .inl ()) (a0P ?_) rfl;unfold a8F;exact cnF (by simp) rfl
theorem a9Y : ∀ (l:List Ac) (a:Ac),sep (l++[a])=if l=[] then [a] else sep l++[fnc,a]
 | [],a=>rfl
 | [b],a=>rfl
 | b::c::l,a=>by
   have:=a9Y (c::l) a;rw [if_neg (by simp)] at this;rw [if_neg (by simp),List.cons_append,List.cons_append,sep,<-List.cons_append,this,sep];rfl
theorem b8k {l:List Ac} (hl:l.length<=1000000):M89 Ar.std (eT l)=some (eT (sep (l.filter wk))):=by
 unfold M89;refine bt (b5g hl) ?_;have hk:(kw l).length<=1000000:=Nat.le_trans (List.length_filter_le ..) hl;change (iter (a8G Ar.std (eT (kw l))) ([],0)).bind _=some (eT (sep (kw l)));generalize kw l=r at hk;have key:=a1o (step:=a8G Ar.std (eT r)) r.length (fun (_:Unit) (i:Nat)=>(eT (sep (r.take i)),(i:Int))) (fun _ _=>True) (fun _=>eT (sep r))
  (fun i _ hi _=>by
   refine ⟨(),trivial,?_⟩;unfold a8G;dsimp only;have hx:=zp1 hi;have ew:Ar.std.wrp .i64 (Ar.std.zadd (i:Int) 1)=((i+1:Nat):Int):=by simp only [a0m,a0n];exact a2x (n:=5000001) (by omega) (by omega)
   have hl1:=a9m (r.take i);rw [List.length_take,Nat.min_eq_left (Nat.le_of_lt hi)] at hl1;have hs:=a9Y (r.take i) r[i];rw [<-a0h hx] at hs;have ap1 : ∀ (m:List Ac) (x:Ac),m.length<=4000000->ap Ar.std (eT m) [D.agg [.int .i64 x.1,.int .i64 x.2.1,.int .i64 x.2.2]]=some (eT (m++[x])):=fun m x hm=>by
    rw [b2f (by rw [b0E];simp;omega)];unfold eT enc;rw [List.map_append];rfl
   refine cnT (by simp;omega) (bt (a1h hx) (bt (v:=eT (if i=0 then sep (r.take i) else sep (r.take i)++[fnc])) ?_ ?_))
   ·by_cases h0:i=0
    ·subst h0;rw [if_pos rfl];exact cnF (by simp) rfl
    rw [if_neg h0];exact cnT (by simp;omega) (bt (ap1 _ fnc (by omega)) rfl)
   have hle:(if i=0 then sep (r.take i) else sep (r.take i)++[fnc]).length<=4000000:=by
    split
    ·omega
    rw [List.length_append,hl1];simp;omega
   refine bt (ap1 _ r[i] hle) ?_;rw [ew,hs];by_cases h0:i=0
   ·subst h0;rw [if_pos rfl,if_pos (by simp)]
    rfl
   have hne : ¬ r.take i=[]:=fun e=>by
    have:=congrArg List.length e;rw [List.length_take,Nat.min_eq_left (Nat.le_of_lt hi)] at this;exact h0 this
   rw [if_neg h0,if_neg hne];simp)
  (fun _ _=>by
   unfold a8G;refine cnF (by simp) ?_;rw [List.take_length]) () trivial
 obtain ⟨_,_,h⟩:=key;exact bt (show iter (a8G Ar.std (eT r)) ([],0)=_ from h) rfl
theorem b8l {P:Pg} (hv:VP P):M45 Ar.std (eP P)=some (eP (allF P),0):=by
 have hn3:=hv.n3;have e:=b2l (VP.short hv);rw [VP.to hv] at e;have el:Ar.std.len (eP P)=(P.length:Int):=by simp
 have key:=a1o (step:=a5V Ar.std (eP P)) P.length (fun (_:Unit) (i:Nat)=>((i:Int),eP ((allF P).take i))) (fun _ _=>True) (fun _=>eP (allF P))
  (fun i _ hi _=>by
   refine ⟨(),trivial,?_⟩;unfold a5V;dsimp only;have hr:(allF P)[i]?=some (sep ((thr P i).filter wk)):=by unfold allF;rw [List.getElem?_map,a0N hi];rfl
   have hl7:=hv.l7 i;have ea:ap Ar.std (eP ((allF P).take i)) [D.list 3 (eT (sep ((thr P i).filter wk)))]=some (eP ((allF P).take (i+1))):=by
    rw [b2f (by simp;omega),a0h hr];unfold eP enc;rw [List.map_append,List.map_append];rfl
   refine cnT (by simp;omega) (bt (a2X (a0N hi)) (bt (b8k (by omega)) (bt ea ?_)));simp only [a0m,a0n];rw [a3t _ (by omega) (by omega)];rfl)
  (fun _ _=>by
   unfold a5V;dsimp only;refine cnF (by simp) ?_;rw [List.take_of_length_le (by unfold allF;simp)]) () trivial
 obtain ⟨_,_,h⟩:=key;have ezle:Ar.std.zle 0 (Ar.std.len (eP P))=true:=by rw [el,a4e,decide_eq_true_eq];omega
 have efit:Ar.std.fits (Ar.std.len (eP P))=true:=by rw [el,a6Q,decide_eq_true_eq];omega
 unfold M45 b8v;exact bt (bt e (cnT rfl (bck ezle (bck rfl (bck efit (bt (show iter (a5V Ar.std (eP P)) (0,Ar.std.rep 0 (.list 3 []))=_ from h) rfl)))))) rfl
theorem IsO.up {k k':Nat} {P:Pg} {O O':List (List Int)} (h:IsO k P O) (h':IsO k' P O') (hc : ∀ o,Can k P o->Can k' P o):a2c O' O=[]:=by
 unfold a2c;rw [List.filter_eq_nil_iff];intro x hx;have:=(h'.mem x).2 (hc x ((h.mem x).1 hx));simp [this]
theorem b5h (P:Pg) (i:Nat) (t:List Ac):(eP P).set i (.list 3 (eT t))=eP (P.set i t):=by
 unfold eP enc;rw [List.map_set,List.map_set];rfl
theorem b6v {P:Pg} (hv:VP P):b6U Ar.std (eP P)=some (eP P):=by
 have hn3:=hv.n3;have el:Ar.std.len (eP P)=(P.length:Int):=by simp
 have e9 : ∀ Q:Pg,Ar.std.len (eP Q)=(Q.length:Int):=fun Q=>by simp
 have key:=a1o (step:=a5X Ar.std (eP P)) P.length (fun (_:Unit) (i:Nat)=>((i:Int),eP (P.take i++List.replicate (P.length-i) []))) (fun _ _=>True) (fun _=>eP P)
  (fun i _ hi _=>by
   refine ⟨(),trivial,?_⟩;unfold a5X;dsimp only;have hl7:=hv.l7 i;have hlen:(P.take i++List.replicate (P.length-i) ([]:List Ac)).length=P.length:=by simp;omega
   refine cnT (by simp;omega) (bt (a2X (a0N hi)) (bt (b5e (by omega)) (bck (b8g _) (bck (by simp) (bck (by
    rw [e9,hlen];simp;omega) ?_)))))
   have ew:Ar.std.wrp .i64 (Ar.std.zadd (i:Int) 1)=((i+1:Nat):Int):=by simp only [a0m,a0n];exact a2x (n:=100) (by omega) (by omega)
   rw [ew];have e2:Ar.std.lset (eP (P.take i++List.replicate (P.length-i) [])) (Ar.std.nat (i:Int)) (.list 3 (eT (thr P i)))=eP (P.take (i+1)++List.replicate (P.length-(i+1)) []):=by
    show (eP (P.take i++List.replicate (P.length-i) [])).set i (.list 3 (eT (thr P i)))=_;rw [b5h];congr 1;apply List.ext_getElem?;intro j;rw [a0h (a0N hi)];rcases Nat.lt_trichotomy j i with g | g | g
    ·rw [List.getElem?_set_ne (by omega),zp7 (by simp;omega),List.append_assoc,zp7 (by simp;omega)]
    ·subst g;rw [List.getElem?_set_self (by omega),List.append_assoc,zp8 (by simp;omega)];rw [show j-(P.take j).length=0 by simp;omega];rfl
    rw [List.getElem?_set_ne (by omega),zp8 (by simp;omega),zp8 (by simp;omega),List.getElem?_replicate,List.getElem?_replicate];simp only [List.length_take,List.length_append,List.length_singleton];by_cases h:j<P.length
    ·rw [if_pos (by omega),if_pos (by omega)]
    rw [if_neg (by omega),if_neg (by omega)]
   rw [e2])
  (fun _ _=>by
   unfold a5X;dsimp only;refine cnF (by simp) ?_;simp) () trivial
 obtain ⟨_,_,h⟩:=key;have e0:Ar.std.rep (Ar.std.len (eP P)) (.list 3 [])=eP (P.take 0++List.replicate (P.length-0) []):=by
  rw [el];show List.replicate P.length (D.list 3 [])=_;simp [eP,enc];exact .inr rfl
 unfold b6U;refine bck (by simp) (bck (by simp) (bck (by rw [el,a6Q,decide_eq_true_eq];omega) ?_));rw [e0];exact bt (show iter (a5X Ar.std (eP P)) (0,eP (P.take 0++List.replicate (P.length-0) []))=_ from h) rfl
theorem b6w {l:List Ac} {i:Nat} (hi:i<l.length) (hl:l.length<=1000) :
  ∃ r,M87 Ar.std 0 (Ar.std.len (eT l)) (i:Int) ((i+1:Nat):Int) (eT l)=some (0,((l.length-1:Nat):Int),r)/\fz Ar.std r 0 ((l.length-1:Nat):Int)=some (eT (l.eraseIdx i)):=by
 have el:Ar.std.len (eT l)=(l.length:Int):=by simp
 have hX:(eT l).length=l.length:=by simp [enc]
 rw [el];have hsub:Ar.std.sub (eT l) (Ar.std.zadd 0 ((i+1:Nat):Int)) (Ar.std.zadd (Ar.std.zadd 0 ((i+1:Nat):Int)) (Ar.std.zsub (l.length:Int) ((i+1:Nat):Int)))=(eT l).drop (i+1):=by
  simp only [a6R,a0n,a0L];rw [show ((0:Int)+((i+1:Nat):Int)).toNat=i+1 by omega];apply List.take_of_length_le;rw [List.length_drop,hX];omega
 have hspl:Ar.std.spl (eT l) (Ar.std.zadd 0 (i:Int)) (Ar.std.sub (eT l) (Ar.std.zadd 0 ((i+1:Nat):Int)) (Ar.std.zadd (Ar.std.zadd 0 ((i+1:Nat):Int)) (Ar.std.zsub (l.length:Int) ((i+1:Nat):Int))))=(eT l).take i++(eT l).drop (i+1)++(eT l).drop (l.length-1):=by
  rw [hsub];show (eT l).take (Int.toNat (0+(i:Int)))++_++(eT l).drop ((0+(i:Int)).toNat+((eT l).drop (i+1)).length)=_;rw [show ((0:Int)+(i:Int)).toNat=i by omega,List.length_drop,hX,show i+(l.length-(i+1))=l.length-1 by omega]
 have hlen:((eT l).take i++(eT l).drop (i+1)++(eT l).drop (l.length-1)).length=l.length:=by
  simp only [List.length_append,List.length_take,List.length_drop,hX];omega
 have en:Ar.std.zadd (i:Int) (Ar.std.zsub (l.length:Int) ((i+1:Nat):Int))=((l.length-1:Nat):Int):=by simp only [a0n,a0L];omega
 have hlen':Ar.std.len ((eT l).take i++(eT l).drop (i+1)++(eT l).drop (l.length-1))=(l.length:Int):=congrArg (fun n:Nat=>(n:Int)) hlen;refine ⟨Ar.std.fill ((eT l).take i++(eT l).drop (i+1)++(eT l).drop (l.length-1)) (Ar.std.zadd 0 ((l.length-1:Nat):Int)) (Ar.std.zsub (l.length:Int) ((l.length-1:Nat):Int)) (.agg [(.int .i64 0),(.int .i64 0),(.int .i64 0)]),?_,?_⟩
 ·unfold M87;refine bck (by simp) (bck (by simp;omega) (bck (by simp;omega) (bck (by simp) (cnF (by simp;omega) (bck (by simp) (bck (by simp;omega) (bck (by simp;omega) (bck (by simp;omega) (bck (by simp;omega) (bck (by simp) ?_))))))))));rw [hspl,en,hlen',el];exact bck (by simp) (bck (by first | (simp;done) | (simp;omega)) (bck (by first | (simp;done) | (simp;omega)) (bck (by simp) (bck (by simp) (bck (by simp) (bck (by simp;omega) rfl))))))
 have htk:((eT l).take i++(eT l).drop (i+1)++(eT l).drop (l.length-1)).take (l.length-1)=eT (l.eraseIdx i):=by
  rw [List.take_append_of_le_length (by simp only [List.length_append,List.length_take,List.length_drop,hX];omega),List.take_of_length_le (by simp only [List.length_append,List.length_take,List.length_drop,hX];omega),List.eraseIdx_eq_take_drop_succ];unfold eT enc;rw [List.map_append,List.map_take,List.map_drop]
 have ef:Ar.std.fill ((eT l).take i++(eT l).drop (i+1)++(eT l).drop (l.length-1)) (Ar.std.zadd 0 ((l.length-1:Nat):Int)) (Ar.std.zsub (l.length:Int) ((l.length-1:Nat):Int)) (.agg [(.int .i64 0),(.int .i64 0),(.int .i64 0)]) =
   eT (l.eraseIdx i)++(List.replicate 1 (.agg [(.int .i64 0),(.int .i64 0),(.int .i64 0)])++((eT l).take i++(eT l).drop (i+1)++(eT l).drop (l.length-1)).drop l.length):=by
  rw [a4G];unfold a0T;rw [show (Ar.std.zadd 0 ((l.length-1:Nat):Int)).toNat=l.length-1 by simp only [a0n];omega,show (Ar.std.zsub (l.length:Int) ((l.length-1:Nat):Int)).toNat=1 by simp only [a0L];omega,htk,show l.length-1+1=l.length by omega,List.append_assoc]
 have hel:(eT (l.eraseIdx i)).length=l.length-1:=by simp [enc,List.length_eraseIdx,hi]
 rw [ef];generalize hR:(List.replicate 1 (D.agg [(.int .i64 0),(.int .i64 0),(.int .i64 0)])++((eT l).take i++(eT l).drop (i+1)++(eT l).drop (l.length-1)).drop l.length)=R;unfold fz;refine cnT ?_ ?_
 ·have:Ar.std.len (eT (l.eraseIdx i)++R)=((l.length-1+R.length:Nat):Int):=by
   show ((eT (l.eraseIdx i)++R).length:Int)=_;rw [List.length_append,hel]
  rw [this];simp;omega
 simp only [a6R,a0n,Int.toNat_zero,List.drop_zero,Nat.sub_zero,Int.zero_add,Int.toNat_natCast];rw [List.take_append_of_le_length (by omega),List.take_of_length_le (by omega)]
theorem b8m {P:Pg} (hv:a2n P=true) {t0:Nat} (h:t0<P.length) {l:List Ac} (h7:l.length<=7) (ha : ∀ a∈l,a4A a=true) (hw:nWk l=nWk (thr P t0)):a2n (P.set t0 l)=true:=by
 have hv':=hv;unfold a2n at hv ⊢;simp only [zp4,decide_eq_true_eq,List.all_eq_true] at hv ⊢;obtain ⟨⟨h1,h2⟩,h4⟩:=hv;have hm:(P.set t0 l).map nWk=P.map nWk:=by
  rw [List.map_set];apply List.ext_getElem?;intro j;by_cases hj:t0=j
  ·subst hj;rw [List.getElem?_set_self (by simpa using h),List.getElem?_map,a0N h,hw];rfl
  rw [List.getElem?_set_ne hj]
 refine ⟨⟨fun t ht => ?_,by simpa using h2⟩,by unfold allW at h4 ⊢;rw [hm];exact h4⟩;rcases List.mem_or_eq_of_mem_set ht with ht | rfl
 ·exact h1 t ht
 have:=h1 _ (List.mem_of_getElem? (a0N h));unfold a6V at this ⊢;simp only [zp4,decide_eq_true_eq,List.all_eq_true] at this ⊢;exact ⟨⟨h7,ha⟩,by rw [hw];exact this.2⟩
theorem b6x {P:Pg} (hv:VP P) {t i:Nat} (ht:t<P.length) (hi:i<(thr P t).length):b8U Ar.std (eP P) (t:Int) (i:Int)=some (eP (P.set t ((thr P t).eraseIdx i))):=by
 have hl7:=hv.l7 t;obtain ⟨r,e1,e2⟩:=b6w hi (by omega);have ew:Ar.std.wrp .i64 (Ar.std.zadd (i:Int) 1)=((i+1:Nat):Int):=by simp only [a0m,a0n];exact a2x (n:=100) (by omega) (by omega)
 unfold b8U;refine bt (b6v hv) (bt (a2X (a0N ht)) (bck (by simp;omega) ?_));rw [ew];refine bt e1 (bt e2 ?_);exact congrArg some (b5h P t _)
theorem b6y {P:Pg} (hv:a2n P=true) {t i:Nat} (ht:t<P.length) (hi:i<(thr P t).length) (hf:wk (aAt (thr P t) i)=false):a2n (P.set t ((thr P t).eraseIdx i))=true:=by
 have hV:=VP.of hv;have hl7:=hV.l7 t;have hmem : ∀ a∈(thr P t).eraseIdx i,a∈thr P t:=fun a ha=>List.mem_of_mem_eraseIdx ha;refine b8m hv ht (by rw [List.length_eraseIdx];split <;> omega) (fun a ha=>a7l hv _ (List.mem_of_getElem? (a0N ht)) a (hmem a ha)) ?_;have hs:thr P t=(thr P t).take i++aAt (thr P t) i::(thr P t).drop (i+1):=by
  have:=a1J hi
  conv=>lhs;rw [<-List.take_append_drop i (thr P t)]
  rw [List.drop_eq_getElem_cons hi];rw [zp1 hi] at this;rw [Option.some.inj this]
 rw [List.eraseIdx_eq_take_drop_succ];unfold nWk
 conv=>rhs;rw [hs]
 rw [List.countP_append,List.countP_append,List.countP_cons_of_neg (by rw [hf];simp)]
theorem b4v {P:Pg} (hv:a2n P=true) {t i:Nat} (ht:t<P.length) (hi:i<(thr P t).length) (hf:wk (aAt (thr P t) i)=false):aAt (thr P t) i=fnc:=by
 have:=(VP.of hv).act t i hi;generalize aAt (thr P t) i=a at this hf;unfold wk at hf;simp at hf;unfold a4A at this;rw [hf] at this;show a=(3,0,0);simpa [hf] using this
theorem b3h {P:Pg} (hv:a2n P=true) {t i:Nat} (ht:t<P.length) (hi:i<(thr P t).length) (hf:wk (aAt (thr P t) i)=false):More1 (P.set t ((thr P t).eraseIdx i)) P t i where
 len:=by simp
 lt:=by simpa using ht
 oth u hu:=by rw [a5B ht,if_neg hu]
 own:=⟨(thr P t).take i,(thr P t).drop (i+1),by simp;omega,by rw [a5B ht,if_pos rfl,List.eraseIdx_eq_take_drop_succ],by
  have:=a1J hi
  conv=>lhs;rw [<-List.take_append_drop i (thr P t)]
  rw [List.drop_eq_getElem_cons hi];rw [zp1 hi,b4v hv ht hi hf] at this;rw [Option.some.inj this]⟩
theorem b0P {P:Pg} (hv:VP P):M43 Ar.std (eP P) 1=some ([],0):=by
 have hn3:=hv.n3;have hp:=VP.to hv;have e:=b2H (VP.short hv) [1] (by simp);rw [hp] at e;have hall:[(1:Int)].all a1H=true:=by decide
 rw [hall] at e;obtain ⟨O,h1,h2,h3,l',e1,e2,e3,e4⟩:=a8p (k:=1) (.inl rfl) hv;have hO:IsO 1 P O:=⟨h1,h2,h3⟩;have ec:gc Ar.std cIf (ifs [1]) 0=some (Int.ofNat (142+1)):=rfl;have inner : ∀ t,t<P.length->iter (b0g Ar.std (eP P) (ifs [1]) (O.length:Int) (t:Int) (eT (thr P t))) ([],0)=some []:=by
  intro t ht;have hl7:=hv.l7 t;have key:=a1o (step:=b0g Ar.std (eP P) (ifs [1]) (O.length:Int) (t:Int) (eT (thr P t))) (thr P t).length (fun (_:Unit) (i:Nat)=>(([]:List D),(i:Int))) (fun _ _=>True) (fun _=>([]:List D))
   (fun i _ hi _=>by
    refine ⟨(),trivial,?_⟩;have ew:Ar.std.wrp .i64 (Ar.std.zadd (i:Int) 1)=((i+1:Nat):Int):=by simp only [a0m,a0n];exact a2x (n:=100) (by omega) (by omega)
    unfold b0g;dsimp only;refine cnT (by simp;omega) (bt (v:=([]:List D)) (bt (a1h (a1J hi)) (bt (v:=wk (aAt (thr P t) i)) rfl ?_)) (by rw [ew]));cases hw:wk (aAt (thr P t) i) with
    | true=>rfl
    | false =>
      have hq:=b6y hp ht hi hw;obtain ⟨O',q1,q2,q3,l2,f1,f2,f3,f4⟩:=a8p (k:=1) (.inl rfl) (VP.of hq);have hO':IsO 1 (P.set t ((thr P t).eraseIdx i)) O':=⟨q1,q2,q3⟩;have heq:O'=O:=a5r q1 h1 (fun x=>(q2 x).trans ((a9X (b3h hp ht hi hw)).symm.trans (h2 x).symm));subst heq;refine cnF rfl (bt (b6x hv ht hi) (bt ec (bt f1 (bt (v:=([]:List D)) (cnF (by simp) rfl) rfl)))))
   (fun _ _=>by
    unfold b0g;dsimp only;exact cnF (by simp) rfl) () trivial
  obtain ⟨_,_,h⟩:=key;exact h
 have key:=a1o (step:=b0h Ar.std (eP P) (ifs [1]) (O.length:Int)) P.length (fun (_:Unit) (i:Nat)=>(([]:List D),(i:Int))) (fun _ _=>True) (fun _=>([]:List D))
  (fun i _ hi _=>by
   refine ⟨(),trivial,?_⟩;have ew:Ar.std.wrp .i64 (Ar.std.zadd (i:Int) 1)=((i+1:Nat):Int):=by simp only [a0m,a0n];exact a2x (n:=100) (by omega) (by omega)
   unfold b0h;dsimp only;refine cnT (by simp;omega) (bt (a2X (a0N hi)) (bt (inner i hi) (by rw [ew])))
   )
  (fun _ _=>by
   unfold b0h;dsimp only;exact cnF (by simp) rfl) () trivial
 obtain ⟨_,_,h⟩:=key;unfold M43;exact bt e (cnT rfl (bt ec (bt e1 (bt (show iter (b0h Ar.std (eP P) (ifs [1]) (O.length:Int)) ([],0)=_ from h) rfl))))
theorem b8n {P:Pg} (hv:VP P):M46 Ar.std (eP P)=some (eP (nfP P),0):=by
 have hn3:=hv.n3;have e:=b2l (VP.short hv);rw [VP.to hv] at e;have el:Ar.std.len (eP P)=(P.length:Int):=by simp
 have key:=a1o (step:=a5W Ar.std (eP P)) P.length (fun (_:Unit) (i:Nat)=>((i:Int),eP ((nfP P).take i))) (fun _ _=>True) (fun _=>eP (nfP P))
  (fun i _ hi _=>by
   refine ⟨(),trivial,?_⟩;unfold a5W;dsimp only;have hr:(nfP P)[i]?=some ((thr P i).filter wk):=by unfold nfP;rw [List.getElem?_map,a0N hi];rfl
   have hl7:=hv.l7 i;have ea:ap Ar.std (eP ((nfP P).take i)) [D.list 3 (eT ((thr P i).filter wk))]=some (eP ((nfP P).take (i+1))):=by
    rw [b2f (by simp;omega),a0h hr];unfold eP enc;rw [List.map_append,List.map_append];rfl
   refine cnT (by simp;omega) (bt (a2X (a0N hi)) (bt (b5g (by omega)) (bt ea ?_)));simp only [a0m,a0n];rw [a3t _ (by omega) (by omega)];rfl)
  (fun _ _=>by
   unfold a5W;dsimp only;refine cnF (by simp) ?_;rw [List.take_of_length_le (by unfold nfP;simp)]) () trivial
 obtain ⟨_,_,h⟩:=key;have ezle:Ar.std.zle 0 (Ar.std.len (eP P))=true:=by rw [el,a4e,decide_eq_true_eq];omega
 have efit:Ar.std.fits (Ar.std.len (eP P))=true:=by rw [el,a6Q,decide_eq_true_eq];omega
 unfold M46 b8w;exact bt (bt e (cnT rfl (bck ezle (bck rfl (bck efit (bt (show iter (a5W Ar.std (eP P)) (0,Ar.std.rep 0 (.list 3 []))=_ from h) rfl)))))) rfl
theorem b9S {P:Pg} (hv:a2n P=true):a2n (nfP P)=true:=by
 unfold a2n at hv ⊢;simp only [zp4,decide_eq_true_eq,List.all_eq_true] at hv ⊢;obtain ⟨⟨h1,h2⟩,h4⟩:=hv;have hn : ∀ l:List Ac,nWk (l.filter wk)=nWk l:=fun l=>by unfold nWk;rw [List.countP_filter];congr 1;funext a;simp
 refine ⟨⟨fun t ht => ?_,by simpa [nfP] using h2⟩,?_⟩
 ·obtain ⟨l,hl,rfl⟩:=List.mem_map.1 ht;have:=h1 l hl;unfold a6V at this ⊢;simp only [zp4,decide_eq_true_eq,List.all_eq_true] at this ⊢;exact ⟨⟨Nat.le_trans (List.length_filter_le _ _) this.1.1,fun a ha=>this.1.2 a (List.mem_filter.1 ha).1⟩,by rw [hn];exact this.2⟩
 unfold allW nfP at *;rw [List.map_map];have:(nWk∘fun l=>List.filter wk l)=nWk:=by funext l;exact hn l
 rw [this];exact h4
theorem b8o (P:Pg) (hP:P.length<9223372036854775808) (hl : ∀ t∈P,t.length<9223372036854775808):M11 Ar.std (eP P)=some true:=by
 obtain ⟨q,e,hq⟩:=b7B P hP hl;unfold M11;cases q with
 | true=>exact bt (v:=true) (bt e rfl) (cnT rfl (bt b2O rfl))
 | false =>
   have hS:=hq rfl;have e2:=b8b hS;cases hp:a2n P with
   | false =>
     rw [hp] at e2;exact bt (v:=true) (bt e (cnF rfl (bt e2 rfl))) (cnT rfl (bt b2O rfl))
   | true =>
     rw [hp] at e2;have hv:=VP.of hp;have va:=VP.allF hp;have vn:=b9S hp;obtain ⟨A,B,hA,hB,e3⟩:=b7Y (VP.short (VP.of va)) va;obtain ⟨Oa,ha,e4⟩:=b3a (VP.of va) (z:=3) rfl;obtain ⟨On,hn,e5⟩:=b3a (VP.of vn) (z:=1) rfl;obtain ⟨O,hO,e6⟩:=b3a hv (z:=1) rfl;have hAB:a2c B A=[]:=hA.up hB (fun o ho=>(a7m hp (.inl rfl)).2 ((a7m hp (.inr (.inr rfl))).1 ho));have eA:Oa=O:=a5r ha.ss hO.ss (fun x=>(ha.mem x).trans ((a7m hp (.inr (.inr rfl))).trans (hO.mem x).symm));have eN:On=O:=a5r hn.ss hO.ss (fun x=>(hn.mem x).trans ((b3d (a7l hp)).symm.trans (hO.mem x).symm));subst eA eN;rw [hAB] at e3;have sO:=hO.sm (.inl rfl) hv;have hlen:=hO.len;have es:=b4q sO (by omega);refine bt (v:=false) (bt e (cnF rfl (bt e2 rfl))) (cnF rfl (bt (b8l hv) (bt (b8n hv) (bt (v:=false) (cnT rfl rfl) (cnF rfl (bt e3 (bt e4 (bt e5 (bt e6 (bt (b0P hv) (bt (v:=true) ?_ rfl))))))))))) ;exact cnT rfl (cnT rfl (cnT rfl (cnT rfl (cnT rfl (cnT rfl (bt es (cnT rfl (bt es (cnT rfl (cnT rfl (bt b2O rfl)))))))))))
end Go.Am
