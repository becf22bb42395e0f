import Derived.Test.YtlljehkmemajkaaML13
import Derived.Test.YtlljehkmemajkaaML15
import Derived.Test.YtlljehkmemajkaaGenp1
set_option maxRecDepth 100000
set_option maxHeartbeats 2000000
set_option linter.unusedVariables false
set_option linter.unusedSimpArgs false
set_option linter.unusedSectionVars false
namespace Go.Am
open Go
abbrev Pt:=Nat×Nat
def acA (P:Pg) (x:Pt):Ac:=aAt (thr P x.1) x.2
def a6q (a b:Ac):Prop:=a.1=3\/b.1=3\/a.2.1≠b.2.1\/(a.1≠2/\b.1≠2)
theorem a6q.symm {a b:Ac} (h:a6q a b):a6q b a:=by
 rcases h with h | h | h | h
 ·exact .inr (.inl h)
 ·exact .inl h
 ·exact .inr (.inr (.inl fun e=>h e.symm))
 exact .inr (.inr (.inr ⟨h.2,h.1⟩))
theorem b4i {a b:Ac} (h : ¬ a6q a b):a.1≠3/\b.1≠3/\a.2.1=b.2.1/\(a.1=2\/b.1=2):=by
 unfold a6q at h;refine ⟨fun e=>h (.inl e),fun e=>h (.inr (.inl e)),?_,?_⟩
 ·exact Classical.byContradiction fun e=>h (.inr (.inr (.inl e)))
 exact Classical.byContradiction fun e=>h (.inr (.inr (.inr ⟨fun g=>e (.inl g),fun g=>e (.inr g)⟩)))
def ex (P:Pg) (s:AS) (L:List Pt):AS:=L.foldl (fun s x=>doA 3 P s x.1 x.2) s
theorem c2i {s u:AS} (h1:s.dn=u.dn) (h2:s.rd=u.rd) (h3:s.bf=u.bf) (h4:s.ce=u.ce):s=u:=by
 cases s;cases u;simp only at h1 h2 h3 h4;subst h1 h2 h3 h4
 rfl
section
variable {P:Pg} {s:AS}
theorem b8a {k:Nat} (hk:k≠2) (t i:Nat):doA k P s t i=doA 3 P s t i:=by simp [doA,hk]
theorem b6I (x:Pt) (y:Pt):(doA 3 P s x.1 x.2).dn y.1 y.2=if y=x then true else s.dn y.1 y.2:=by
 obtain ⟨t,i⟩:=x;obtain ⟨u,j⟩:=y;simp only [doA,fup,Prod.mk.injEq];by_cases h1:u=t
 ·subst h1;by_cases h2:j=i <;> simp [fup,h2]
 simp [fup,h1]
theorem a4d (x:Pt):(doA 3 P s x.1 x.2).bf=s.bf:=by simp [doA]
theorem a6V (x:Pt) (c:Int):(doA 3 P s x.1 x.2).ce c=if (acA P x).1=2/\c=(acA P x).2.1 then (acA P x).2.2 else s.ce c:=by
 simp only [doA,acA,fup];by_cases h:(aAt (thr P x.1) x.2).1=2
 ·simp [h,fup]
 simp [h]
theorem a9o (hb : ∀ t,s.bf t=[]) (x y:Pt):(doA 3 P s x.1 x.2).rd y.1 y.2=if (acA P x).1=1/\y=x then s.ce (acA P x).2.1 else s.rd y.1 y.2:=by
 obtain ⟨t,i⟩:=x;obtain ⟨u,j⟩:=y;simp only [doA,acA,fup,Prod.mk.injEq];by_cases h:(aAt (thr P t) i).1=1
 ·by_cases h1:u=t
  ·subst h1;by_cases h2:j=i <;> simp [fup,h,sn,hb,h2]
  simp [fup,h,h1]
 simp [h]
theorem b5I (hb : ∀ t,s.bf t=[]) {x y:Pt} (hxy:x≠y) (hi:a6q (acA P x) (acA P y)):doA 3 P (doA 3 P s x.1 x.2) y.1 y.2=doA 3 P (doA 3 P s y.1 y.2) x.1 x.2:=by
 have hbx : ∀ t,(doA 3 P s x.1 x.2).bf t=[]:=fun t=>by rw [a4d];exact hb t
 have hby : ∀ t,(doA 3 P s y.1 y.2).bf t=[]:=fun t=>by rw [a4d];exact hb t
 have ne1 : ¬ ((acA P y).1=1/\(acA P x).1=2/\(acA P y).2.1=(acA P x).2.1):=by
  rintro ⟨h1,h2,h3⟩;rcases hi with h | h | h | h
  ·omega
  ·omega
  ·exact h h3.symm
  exact h.1 h2
 have ne2 : ¬ ((acA P x).1=1/\(acA P y).1=2/\(acA P x).2.1=(acA P y).2.1):=by
  rintro ⟨h1,h2,h3⟩;rcases hi with h | h | h | h
  ·omega
  ·omega
  ·exact h h3
  exact h.2 h2
 have ne3 : ¬ ((acA P x).1=2/\(acA P y).1=2/\(acA P x).2.1=(acA P y).2.1):=by
  rintro ⟨h1,h2,h3⟩;rcases hi with h | h | h | h
  ·omega
  ·omega
  ·exact h h3
  exact h.2 h2
 refine c2i ?_ ?_ ?_ ?_
 ·funext t i;have:=fun (s:AS) (x:Pt)=>b6I (P:=P) (s:=s) x (t,i);simp only at this;rw [this,this,this,this];by_cases h1:(t,i)=x <;> by_cases h2:(t,i)=y <;> simp [h1,h2]
 ·funext t i;have e1:=a9o (P:=P) hbx y (t,i);have e2:=a9o (P:=P) hby x (t,i);have e3:=a9o (P:=P) hb x (t,i);have e4:=a9o (P:=P) hb y (t,i);simp only at e1 e2 e3 e4;rw [e1,e2,e3,e4,a6V,a6V];by_cases h1:(acA P y).1=1/\(t,i)=y
  ·have h2 : ¬ ((acA P x).1=1/\(t,i)=x):=fun h=>hxy (h.2.symm.trans h1.2);have h3 : ¬ ((acA P x).1=2/\(acA P y).2.1=(acA P x).2.1):=fun h=>ne1 ⟨h1.1,h⟩;rw [if_pos h1,if_neg h2,if_neg h3,if_pos h1]
  rw [if_neg h1,if_neg h1];by_cases h2:(acA P x).1=1/\(t,i)=x
  ·have h3 : ¬ ((acA P y).1=2/\(acA P x).2.1=(acA P y).2.1):=fun h=>ne2 ⟨h2.1,h⟩;rw [if_pos h2,if_pos h2,if_neg h3]
  rw [if_neg h2,if_neg h2]
 ·rw [a4d,a4d,a4d,a4d]
 funext c;rw [a6V,a6V,a6V,a6V];by_cases h1:(acA P y).1=2/\c=(acA P y).2.1
 ·have h2 : ¬ ((acA P x).1=2/\c=(acA P x).2.1):=fun h=>ne3 ⟨h.1,h1.1,h.2.symm.trans h1.2⟩;rw [if_pos h1,if_neg h2,if_pos h1]
 rw [if_neg h1,if_neg h1]
end
theorem c0o {P:Pg} : ∀ (L:List Pt) (s:AS),(ex P s L).bf=s.bf
 | [],_=>rfl
 | x::L,s=>(c0o L (doA 3 P s x.1 x.2)).trans (a4d x)
theorem b6J {P:Pg} (s:AS) (L M:List Pt):ex P s (L++M)=ex P (ex P s L) M:=by unfold ex;rw [List.foldl_append]
theorem b4j {P:Pg} {f:Pt} {l2:List Pt} : ∀ (l1:List Pt) (s:AS),(∀ t,s.bf t=[])->(∀ y∈l1,y≠f/\a6q (acA P y) (acA P f))->ex P s (l1++f::l2)=ex P s (f::(l1++l2))
 | [],_,_,_=>rfl
 | y::l1,s,hb,h=>by
   have hb' : ∀ t,(doA 3 P s y.1 y.2).bf t=[]:=fun t=>by rw [a4d];exact hb t
   have ih:=b4j (f:=f) (l2:=l2) l1 (doA 3 P s y.1 y.2) hb' fun z hz=>h z (List.mem_cons_of_mem _ hz);obtain ⟨h1,h2⟩:=h y (List.mem_cons_self ..);show ex P (doA 3 P s y.1 y.2) (l1++f::l2)=_;rw [ih];show ex P (doA 3 P (doA 3 P s y.1 y.2) f.1 f.2) (l1++l2)=ex P (doA 3 P (doA 3 P s f.1 f.2) y.1 y.2) (l1++l2);rw [b5I hb h1 h2]
theorem b8b {P:Pg} (pos:Pt->Nat) (before:Pt->Pt->Prop) (A:Pt->Prop)
  (H : ∀ L:List Pt,L≠[]->L.Pairwise (fun x y=>pos x<pos y)->(∀ y∈L,A y) -> ∃ f∈L,(∀ y∈L,y≠f->before f y) /\ ∀ y∈L,pos y<pos f->a6q (acA P y) (acA P f)) :
  ∀ (n:Nat) (L:List Pt),L.length=n->L.Pairwise (fun x y=>pos x<pos y)->(∀ y∈L,A y) -> ∀ s:AS,(∀ t,s.bf t=[]) -> ∃ L',L'.Perm L/\L'.Pairwise before/\ex P s L'=ex P s L:=by
 intro n
 induction n with
 | zero =>
   intro L hL _ _ s _;obtain rfl:=List.length_eq_zero_iff.1 hL;exact ⟨[],.refl _,.nil,rfl⟩
 | succ n ih =>
   intro L hL hs hA s hb;obtain ⟨f,hf,h1,h2⟩:=H L (by intro e;rw [e] at hL;cases hL) hs hA;obtain ⟨l1,l2,rfl⟩:=List.append_of_mem hf;have hs':=hs;rw [List.pairwise_append] at hs;obtain ⟨p1,p2,p3⟩:=hs;rw [List.pairwise_cons] at p2;have hlt : ∀ y∈l1,pos y<pos f:=fun y hy=>p3 y hy f (by simp);have hsub:(l1++l2).Sublist (l1++f::l2):=List.Sublist.append (List.Sublist.refl _) (List.sublist_cons_self ..);have hbf : ∀ t,(doA 3 P s f.1 f.2).bf t=[]:=fun t=>by rw [a4d];exact hb t
   obtain ⟨M,m1,m2,m3⟩:=ih (l1++l2) (by simp at hL ⊢;omega) (hs'.sublist hsub) (fun y hy=>hA y (hsub.subset hy)) _ hbf;refine ⟨f::M,(List.Perm.cons f m1).trans List.perm_middle.symm,List.pairwise_cons.2 ⟨fun y hy => ?_,m2⟩,?_⟩
   ·have hy:=m1.subset hy;refine h1 y (hsub.subset hy) fun e => ?_;subst e;rcases List.mem_append.1 hy with hy | hy
    ·exact Nat.lt_irrefl _ (hlt y hy)
    exact Nat.lt_irrefl _ (p2.1 y hy)
   rw [b4j l1 s hb fun y hy=>⟨fun e=>by subst e;exact Nat.lt_irrefl _ (hlt y hy),h2 y (List.mem_append_left _ hy) (hlt y hy)⟩];exact m3
inductive Trc (k:Nat) (P:Pg):List Pt->Prop
 | nil:Trc k P []
 | snoc {L:List Pt} {x:Pt} (h:Trc k P L) (h1:x.1<P.length) (h2:x.2<(thr P x.1).length) (h3:x∉L) (h4 : ∀ j,j<x.2->must k (acA P x) (acA P (x.1,j))->(x.1,j)∈L):Trc k P (L++[x])
theorem c0p {P:Pg} (y:Pt) : ∀ (L:List Pt) (s:AS),(ex P s L).dn y.1 y.2=true↔y∈L\/s.dn y.1 y.2=true
 | [],s=>by simp [ex]
 | x::L,s=>by
   have e:ex P s (x::L)=ex P (doA 3 P s x.1 x.2) L:=rfl;rw [e,c0p y L,b6I];by_cases h:y=x <;> simp [h]
theorem a6W {P:Pg} (y:Pt) (L:List Pt):(ex P AS.init L).dn y.1 y.2=true↔y∈L:=by
 rw [c0p];simp [AS.init]
theorem b0T {k:Nat} (hk:k≠2) {P:Pg} {u:AS}:Stps k P AS.init u ↔ ∃ L,Trc k P L/\u=ex P AS.init L:=by
 constructor
 ·intro h
  induction h with
  | refl=>exact ⟨[],.nil,rfl⟩
  | tail h h' ih =>
    obtain ⟨L,hL,rfl⟩:=ih;cases h' with
    | out t ht hk2=>exact absurd hk2 hk
    | act t i ht hi hm =>
      refine ⟨L++[(t,i)],.snoc hL ht hi ?_ fun j hj hmu => ?_,?_⟩
      ·intro hx;have:=(a6W (P:=P) (t,i) L).2 hx;have h1:(ex P AS.init L).dn t i=false:=hm.1;simp only at this;rw [h1] at this;cases this
      ·exact (a6W (P:=P) (t,j) L).1 (hm.2.1 j hj hmu)
      rw [b6J,b8a hk];rfl
 rintro ⟨L,hL,rfl⟩
 induction hL with
 | nil=>exact .refl _
 | @snoc L x hL h1 h2 h3 h4 ih =>
   refine .tail ih ?_;rw [b6J];have:ex P (ex P AS.init L) [x]=doA k P (ex P AS.init L) x.1 x.2:=by rw [b8a hk];rfl
   rw [this];refine .act _ _ h1 h2 ⟨?_,fun j hj hmu => ?_,fun hk2=>absurd hk2 hk⟩
   ·show (ex P AS.init L).dn x.1 x.2=false;rw [Bool.eq_false_iff];exact fun h=>h3 ((a6W x L).1 h)
   exact (a6W (P:=P) (x.1,j) L).2 (h4 j hj hmu)
theorem Trc.pos {k:Nat} {P:Pg} {L:List Pt} (h:Trc k P L) : ∃ pos:Pt->Nat,L.Pairwise (fun x y=>pos x<pos y)/\(∀ y∈L,pos y<L.length) /\
  ∀ x∈L,∀ j,j<x.2->must k (acA P x) (acA P (x.1,j))->(x.1,j)∈L/\pos (x.1,j)<pos x:=by
 induction h with
 | nil=>exact ⟨fun _=>0,.nil,fun y hy=>(by cases hy),fun y hy=>(by cases hy)⟩
 | @snoc L x hL h1 h2 h3 h4 ih =>
   obtain ⟨pos,p1,p2,p3⟩:=ih;have hne : ∀ y∈L,y≠x:=fun y hy e=>h3 (e▸hy);have e : ∀ y∈L,(if y=x then L.length else pos y)=pos y:=fun y hy=>if_neg (hne y hy)
   refine ⟨fun y=>if y=x then L.length else pos y,?_,?_,?_⟩
   ·rw [List.pairwise_append];refine ⟨?_,by simp,fun y hy z hz => ?_⟩
    ·refine (List.Pairwise.imp_of_mem ?_ p1);intro a b ha hb hab;show (if a=x then L.length else pos a)<(if b=x then L.length else pos b)
     rw [e a ha,e b hb];exact hab
    rw [List.mem_singleton] at hz;subst hz;show (if y=z then L.length else pos y)<(if z=z then L.length else pos z)
    rw [e y hy,if_pos rfl];exact p2 y hy
   ·intro y hy;rw [List.length_append,List.length_singleton];rcases List.mem_append.1 hy with hy | hy
    ·simp only [e y hy];have:=p2 y hy;omega
    rw [List.mem_singleton] at hy;subst hy;simp
   intro y hy j hj hmu;rcases List.mem_append.1 hy with hy | hy
   ·obtain ⟨q1,q2⟩:=p3 y hy j hj hmu;simp only [e y hy,e _ q1];exact ⟨List.mem_append_left _ q1,q2⟩
   rw [List.mem_singleton] at hy;subst hy;have q1:=h4 j hj hmu;simp only [e _ q1,if_true];exact ⟨List.mem_append_left _ q1,p2 _ q1⟩
theorem Trc.dom {k:Nat} {P:Pg} {L:List Pt} (h:Trc k P L) : ∀ x∈L,x.1<P.length/\x.2<(thr P x.1).length:=by
 induction h with
 | nil=>exact fun y hy=>(by cases hy)
 | snoc hL h1 h2 h3 h4 ih =>
   intro y hy;rcases List.mem_append.1 hy with hy | hy
   ·exact ih y hy
   rw [List.mem_singleton] at hy;subst hy;exact ⟨h1,h2⟩
def Whole (P:Pg) (L:List Pt):Prop := ∀ t i,t<P.length->i<(thr P t).length->(t,i)∈L
theorem a6X {P:Pg} {L:List Pt}:b0G P (ex P AS.init L)↔Whole P L:=by
 constructor
 ·intro h t i ht hi;exact (a6W (P:=P) (t,i) L).1 ((h t ht).1 i hi)
 intro h t ht;exact ⟨fun i hi=>(a6W (P:=P) (t,i) L).2 (h t i ht hi),by rw [c0o];rfl⟩
theorem b4k {k:Nat} (hk:k≠2) {P:Pg} {o:List Int}:Can k P o ↔ ∃ L,Trc k P L/\Whole P L/\a8c P (ex P AS.init L)=o:=by
 constructor
 ·rintro ⟨s,h1,h2,h3⟩;obtain ⟨L,hL,rfl⟩:=(b0T hk).1 h1;exact ⟨L,hL,a6X.1 h2,h3⟩
 rintro ⟨L,h1,h2,h3⟩;exact ⟨_,(b0T hk).2 ⟨L,h1,rfl⟩,a6X.2 h2,h3⟩
theorem least {α:Type} (f:α->Nat) (p:α->Prop) (h : ∃ a,p a) : ∃ a,p a /\ ∀ b,p b->f a<=f b:=by
 have key : ∀ (n:Nat) (a:α),f a<n->p a -> ∃ a,p a /\ ∀ b,p b->f a<=f b:=by
  intro n
  induction n with
  | zero=>intro a h;omega
  | succ n ih =>
    intro a ha hp;by_cases hb : ∃ b,p b/\f b<f a
    ·obtain ⟨b,h1,h2⟩:=hb;exact ih b (by omega) h1
    exact ⟨a,hp,fun b hb'=>Nat.le_of_not_lt fun hlt=>hb ⟨b,hb',hlt⟩⟩
 obtain ⟨a,ha⟩:=h;exact key _ a (Nat.lt_succ_self _) ha
def cfl (P:Pg) (x y:Pt):Prop:=x.1≠y.1 /\ ¬ a6q (acA P x) (acA P y)
def inP (P:Pg) (x:Pt):Prop:=x.1<P.length/\x.2<(thr P x.1).length
def stn (P:Pg) (t a b:Nat):Prop:=inP P (t,a)/\inP P (t,b)/\(acA P (t,a)).1≠3/\(acA P (t,b)).1≠3/\(a=b\/(a<b/\(acA P (t,a)).2.1≠(acA P (t,b)).2.1))
def b4l (P:Pg) (t a b:Nat):Prop := ∃ c,a<c/\c<b/\(acA P (t,c)).1=3
structure NC (P:Pg):Prop where
 n2 : ∀ t a b u c d,stn P t a b->stn P u c d->cfl P (t,b) (u,c)->cfl P (u,d) (t,a)->(a<b->b4l P t a b)/\(c<d->b4l P u c d)
 n3 : ∀ t a b u c d v e f,t≠v->stn P t a b->stn P u c d->stn P v e f->cfl P (t,b) (u,c)->cfl P (u,d) (v,e)->cfl P (v,f) (t,a)->(a<b->b4l P t a b)/\(c<d->b4l P u c d)/\(e<f->b4l P v e f)
def b4m (P:Pg):Prop := ∀ x y,inP P x->inP P y->x.1≠y.1->a6q (acA P x) (acA P y)
def lexB (x y:Pt):Prop:=x.1<y.1\/(x.1=y.1/\x.2<y.2)
theorem b4n {L:List Pt} (h:L≠[]) : ∃ f∈L,∀ y∈L,y≠f->lexB f y:=by
 obtain ⟨x,hx⟩:=List.exists_mem_of_ne_nil L h;obtain ⟨t,⟨i,hi⟩,h2⟩:=least (fun t=>t) (fun t => ∃ i,(t,i)∈L) ⟨x.1,x.2,hx⟩;obtain ⟨f,hf,h4⟩:=least (fun i=>i) (fun i=>(t,i)∈L) ⟨i,hi⟩;refine ⟨(t,f),hf,fun y hy hne => ?_⟩;obtain ⟨u,j⟩:=y;have h5:t<=u:=h2 u ⟨j,hy⟩;unfold lexB;simp only;rcases Nat.lt_or_eq_of_le h5 with g | g
 ·exact .inl g
 subst g;have h6:f<=j:=h4 j hy;rcases Nat.lt_or_eq_of_le h6 with g | g
 ·exact .inr ⟨rfl,g⟩
 subst g;exact absurd rfl hne
theorem a9p {P:Pg} (hn:b4m P) {L:List Pt} (hL:Trc 3 P L) : ∃ L',L'.Perm L/\L'.Pairwise lexB/\ex P AS.init L'=ex P AS.init L:=by
 obtain ⟨pos,p1,_,p3⟩:=hL.pos;have hdom:=hL.dom;refine b8b (P:=P) pos lexB (fun x=>x∈L) ?_ L.length L rfl p1 (fun y hy=>hy) AS.init (fun _=>rfl);intro M hne hs hsub;obtain ⟨f,hf,h1⟩:=b4n hne;refine ⟨f,hf,h1,fun y hy hlt => ?_⟩;by_cases ht:y.1=f.1
 ·obtain ⟨u,j⟩:=y;obtain ⟨t,i⟩:=f;simp only at ht;subst ht;refine Classical.byContradiction fun hi => ?_;obtain ⟨n1,n2,n3,_⟩:=b4i hi;have hne2:(u,j)≠(u,i):=fun e=>by rw [e] at hlt;omega
  have hj:i<j:=by
   rcases h1 _ hy hne2 with g | ⟨_,g⟩
   ·simp at g
   exact g
  have:pos (u,i)<pos (u,j):=(p3 (u,j) (hsub _ hy) i hj (.inr (.inr (.inr n3)))).2;omega
 exact hn y f (hdom _ (hsub _ hy)) (hdom _ (hsub _ hf)) ht
theorem b5J : ∀ {L M:List Pt},L.Perm M->L.Pairwise lexB->M.Pairwise lexB->L=M:=by
 intro L M hp h1 h2;refine hp.eq_of_pairwise (fun a b _ _ hab hba => ?_) h1 h2;unfold lexB at hab hba;omega
theorem a7Q {P:Pg} (hn:b4m P) {o o':List Int} (h:Can 3 P o) (h':Can 3 P o'):o=o':=by
 obtain ⟨L,hL,hw,ho⟩:=(b4k (by decide)).1 h;obtain ⟨M,hM,hw',ho'⟩:=(b4k (by decide)).1 h';obtain ⟨L1,a1,a2,a3⟩:=a9p hn hL;obtain ⟨M1,b1,b2,b3⟩:=a9p hn hM;have hnd : ∀ {K:List Pt},K.Pairwise lexB->K.Nodup:=fun hk=>hk.imp fun hab e=>by
  subst e;unfold lexB at hab;omega
 have hp:L1.Perm M1:=by
  refine (List.perm_ext_iff_of_nodup (hnd a2) (hnd b2)).2 fun x => ?_;constructor
  ·intro hx;have:=hL.dom x (a1.mem_iff.1 hx);exact b1.mem_iff.2 (hw' x.1 x.2 this.1 this.2)
  intro hx;have:=hM.dom x (b1.mem_iff.1 hx);exact a1.mem_iff.2 (hw x.1 x.2 this.1 this.2)
 have:=b5J hp a2 b2;subst this;rw [<-ho,<-ho',<-a3,b3]
def fenced (P:Pg):Prop := ∀ t i,i+1<(thr P t).length->(acA P (t,i)).1=3\/(acA P (t,i+1)).1=3
structure SP (P:Pg) (s:Sta) (n:Nat->Nat):Prop where
 k:WfK 1 P s
 b : ∀ t,t<3 -> ∀ j,btI (s t) j=decide (j<n t)
 l : ∀ t,n t<=(thr P t).length
theorem SP.init (P:Pg):SP P s0 (fun _=>0):=⟨WfK.init 1 P,fun t ht j=>by unfold btI s0;simp,fun t=>Nat.zero_le _⟩
theorem b8c (P:Pg) (s:Sta) (t i:Nat) {u:Nat} (hu:u<3):doS P s t i u=dS s t i u:=by
 unfold doS;split
 ·rw [a0c _ _ _ (by omega)]
 split
 ·rw [a0c _ _ _ (by omega)]
 rfl
section
variable {P:Pg} (hv:VP P) {s:Sta} {n:Nat->Nat} (h:SP P s n)
include hv h
theorem SP.step {t:Nat} (ht:t<P.length) (hi:n t<(thr P t).length):SP P (doS P s t (n t)) (fup n t (n t+1)):=by
 have ht3:=lt3 hv ht;have hb:btI (s t) (n t)=false:=by rw [h.b t ht3];simp
 have hw:=b6u hv h.k ht hi hb;have e:a4C 1 P s t (n t)=doS P s t (n t):=by unfold a4C;simp
 rw [e] at hw;refine ⟨hw,fun u hu j => ?_,fun u => ?_⟩
 ·rw [b8c P s t _ hu];unfold dS;by_cases hut:u=t
  ·subst hut;rw [a0g,a0g,a5R,h.b u hu];rw [Bool.eq_iff_iff];simp;omega
  rw [a0c _ _ _ hut,a0c _ _ _ hut];exact h.b u hu j
 by_cases hut:u=t
 ·subst hut;rw [a0g];omega
 rw [a0c _ _ _ hut];exact h.l u
theorem SP.over:a3L P s=true ↔ ∀ t,t<P.length->n t=(thr P t).length:=by
 unfold a3L;rw [List.all_eq_true];constructor
 ·intro hh t ht;have:=hh t (List.mem_range.2 ht);rw [zp4,decide_eq_true_eq] at this;obtain ⟨d0,d1⟩:=h.k.wf.d t (lt3 hv ht);have hl:=h.l t;rcases Nat.lt_or_eq_of_le hl with g | g
  ·have:=(a7D d0 d1).1 this.1 _ g;rw [h.b t (lt3 hv ht)] at this;simp at this
  exact g
 intro hh t ht;have ht:=List.mem_range.1 ht;obtain ⟨d0,d1⟩:=h.k.wf.d t (lt3 hv ht);rw [zp4,decide_eq_true_eq];refine ⟨(a7D d0 d1).2 fun i hi => ?_,?_⟩
 ·rw [h.b t (lt3 hv ht),hh t ht];simpa using hi
 rw [h.k.nb (by decide) t (lt3 hv ht)];rfl
end
def run (P:Pg):Sta->List Nat->Option Sta
 | s,[]=>some s
 | s,t::w=>if t<P.length/\nx s t<(thr P t).length then run P (doS P s t (nx s t)) w else none
def ren (m t:Nat):Nat:=if t<m then m-1-t else t
section
variable (a b:Int)
end
theorem c0q {l:List Ac} (h:l.length<=1000000):M83 Ar.std (eT l)=some (eT l):=by
 have e:ap Ar.std [] (eT l)=some (eT l):=a7A (by omega);unfold M83;by_cases h0:0<l.length
 ·exact cnT (by simp;omega) (bt e rfl)
 obtain rfl:l=[]:=List.length_eq_zero_iff.1 (by omega);refine cnF (by simp) ?_;rw [show ap Ar.std [] (eT [])=some [] from e];simp [both]
theorem c2j (l:List Ac):scalars (eT l)=true:=by
 unfold scalars eT enc;rw [List.all_eq_true];intro x hx;obtain ⟨y,_,rfl⟩:=List.mem_map.1 hx
 rfl
theorem c0r {P:Pg} (hv:VP P) {z:Int} (hk:a1l z=true) : ∃ O,IsO z.toNat P O/\M19 Ar.std (eP P) z=some (a0D O,0):=by
 rcases b6B (VP.short hv) z with ⟨h1,_⟩ | ⟨_,h1,_⟩ | ⟨_,_,h⟩
 ·rw [VP.to hv] at h1;cases h1
 ·rw [hk] at h1;cases h1
 exact h
def gI:List (Int×Int)->Int->Option Int
 | [],_=>none
 | p::l,k=>if p.1=k then some p.2 else gI l k
def pI:List (Int×Int)->Int->Int->List (Int×Int)
 | [],k,m=>[(k,m)]
 | p::l,k,m=>if p.1=k then (k,m)::l else p::pI l k m
theorem c0s (l:List (Int×Int)) (k m v:Int):gI (pI l k m) v=if k=v then some m else gI l v:=by
 induction l with
 | nil=>rfl
 | cons p l ih =>
   simp only [pI];by_cases h:p.1=k
   ·rw [if_pos h];simp only [gI];by_cases hv:k=v
    ·rw [if_pos hv,if_pos hv]
    rw [if_neg hv,if_neg hv,if_neg (by rw [h];exact hv)]
   rw [if_neg h];simp only [gI,ih];by_cases hv:p.1=v
   ·rw [if_pos hv,if_neg (fun e=>h (hv.trans e.symm)),if_pos hv]
   rw [if_neg hv,if_neg hv]
theorem b8d (l:List (Int×Int)) (k m:Int):(pI l k m).map (·.1)=if k∈l.map (·.1) then l.map (·.1) else l.map (·.1)++[k]:=by
 induction l with
 | nil=>rfl
 | cons p l ih =>
   simp only [pI];by_cases h:p.1=k
   ·rw [if_pos h];simp [h]
   rw [if_neg h];simp only [List.map_cons,ih];by_cases hk:k∈l.map (·.1)
   ·rw [if_pos hk,if_pos (List.mem_cons_of_mem _ hk)]
   rw [if_neg hk,if_neg (by rw [List.mem_cons];rintro (e | e);exact h e.symm;exact hk e)];rfl
theorem or8 : ∀ (a:Fin 8) (t:Fin 3),(a.val ||| 2 ^ t.val)<8:=by decide +kernel
structure Cov (P:Pg) (Pr:Nat->Nat->Prop) (q:Ac->Prop) (l:List (Int×Int)):Prop where
 nd:(l.map (·.1)).Nodup
 no : ∀ v,gI l v=none -> ∀ t i,Pr t i->q (acA P (t,i))->(acA P (t,i)).2.1≠v
 ye : ∀ v m,gI l v=some m->0<=v/\v<=2/\(∃ t i,Pr t i/\q (acA P (t,i))/\(acA P (t,i)).2.1=v) /\ ∃ a:Nat,m=a/\a<8 /\ ∀ t,t<3->(a.testBit t=true ↔ ∃ i,Pr t i/\q (acA P (t,i))/\(acA P (t,i)).2.1=v)
theorem Cov.nil (P:Pg) (q:Ac->Prop) {Pr:Nat->Nat->Prop} (h : ∀ t i,¬ Pr t i):Cov P Pr q [] :=
 ⟨.nil,fun v _ t i hp=>absurd hp (h t i),fun v m h=>by cases h⟩
theorem Cov.put {P:Pg} {Pr Pr':Nat->Nat->Prop} {q:Ac->Prop} {l:List (Int×Int)} (h:Cov P Pr q l) {t i:Nat} (ht:t<3) (hq:q (acA P (t,i))) {c:Int} (hc:(acA P (t,i)).2.1=c) (c0:0<=c) (c2:c<=2)
  (hp : ∀ u j,Pr' u j↔Pr u j\/(u=t/\j=i)) : ∃ a:Nat,a<8/\(gI l c=none/\a=0\/gI l c=some (a:Int))/\Cov P Pr' q (pI l c ((a ||| 2 ^ t:Nat):Int)):=by
 have hor : ∀ {a u:Nat},(a ||| 2 ^ t).testBit u=true↔a.testBit u=true\/u=t:=fun {a u}=>by
  rw [Nat.testBit_or,Nat.testBit_two_pow,Bool.or_eq_true,decide_eq_true_eq];constructor
  ·rintro (h | h);exact .inl h;exact .inr h.symm
  rintro (h | h);exact .inl h;exact .inr h.symm
 have key : ∀ a:Nat,a<8->(∀ u,u<3->(a.testBit u=true ↔ ∃ j,Pr u j/\q (acA P (u,j))/\(acA P (u,j)).2.1=c))->Cov P Pr' q (pI l c ((a ||| 2 ^ t:Nat):Int)):=by
  intro a ha hb;refine ⟨?_,fun v hv u j hpr hqu => ?_,fun v m hm => ?_⟩
  ·rw [b8d];split
   ·exact h.nd
   rename_i hn;rw [List.nodup_append];exact ⟨h.nd,by simp,fun x hx y hy=>by simp at hy;subst hy;exact fun e=>hn (e▸hx)⟩
  ·rw [c0s] at hv;split at hv
   ·cases hv
   rename_i hne;rcases (hp u j).1 hpr with hpr | ⟨rfl,rfl⟩
   ·exact h.no v hv u j hpr hqu
   rw [hc];exact hne
  rw [c0s] at hm;split at hm
  ·rename_i hcv;subst hcv;cases hm;refine ⟨c0,c2,⟨t,i,(hp t i).2 (.inr ⟨rfl,rfl⟩),hq,hc⟩,_,rfl,or8 ⟨a,ha⟩ ⟨t,ht⟩,fun u hu => ?_⟩;rw [hor,hb u hu];constructor
   ·rintro (⟨j,g1,g2,g3⟩ | rfl)
    ·exact ⟨j,(hp u j).2 (.inl g1),g2,g3⟩
    exact ⟨i,(hp u i).2 (.inr ⟨rfl,rfl⟩),hq,hc⟩
   rintro ⟨j,g1,g2,g3⟩;rcases (hp u j).1 g1 with g1 | ⟨g1,_⟩
   ·exact .inl ⟨j,g1,g2,g3⟩
   exact .inr g1
  rename_i hne;obtain ⟨h1,h2,⟨t',i',h3,h4,h5⟩,b,h6,h7,h8⟩:=h.ye v m hm;refine ⟨h1,h2,⟨t',i',(hp t' i').2 (.inl h3),h4,h5⟩,b,h6,h7,fun u hu=>(h8 u hu).trans ?_⟩;constructor
  ·rintro ⟨j,g1,g2,g3⟩;exact ⟨j,(hp u j).2 (.inl g1),g2,g3⟩
  rintro ⟨j,g1,g2,g3⟩;rcases (hp u j).1 g1 with g1 | ⟨rfl,rfl⟩
  ·exact ⟨j,g1,g2,g3⟩
  exact absurd (hc.symm.trans g3) hne
 cases hg:gI l c with
 | none =>
   refine ⟨0,by omega,.inl ⟨rfl,rfl⟩,key 0 (by omega) fun u hu => ?_⟩;constructor
   ·intro h;simp at h
   rintro ⟨j,g1,g2,g3⟩;exact absurd g3 (h.no c hg u j g1 g2)
 | some m =>
   obtain ⟨_,_,_,a,rfl,h7,h8⟩:=h.ye c m hg;exact ⟨a,h7,.inr rfl,key a h7 h8⟩
theorem IsO.one {k:Nat} (hK:Kind k) {P:Pg} (hv:VP P) (hn:b4m P) {O:List (List Int)} (h:IsO k P O) {o:List Int} (ho:Can 3 P o):O=[o]:=by
 have up : ∀ o',Can k P o'->Can 3 P o':=fun o' h=>by
  rcases hK with rfl | rfl | rfl
  ·exact h.strict.loose
  ·exact h.loose
  exact h
 have hne:=h.ne hK hv
 match O,hne with
 | [x],_ =>
   have:=a7Q hn (up x ((h.mem x).1 (by simp))) ho;rw [this]
 | x::y::r,_ =>
   exfalso;have h1:=a7Q hn (up x ((h.mem x).1 (by simp))) ho;have h2:=a7Q hn (up y ((h.mem y).1 (by simp))) ho;have:=List.nodup_cons.1 (SS.nodup h.ss);exact this.1 (by rw [h1,h2];simp)
def fnc:Ac:=(3,0,0)
theorem a4G (a:Ac) (l:List Ac) (f:Nat->Int):reads (a::l) f=(if a.1=1 then [f 0] else [])++reads l (fun i=>f (i+1)):=by
 unfold reads;rw [List.length_cons,List.range_succ_eq_map,List.filterMap_cons,List.filterMap_map];have e : ∀ i,aAt (a::l) (i+1)=aAt l i:=fun i=>rfl;have e0:aAt (a::l) 0=a:=rfl;have e2:((fun i=>if (aAt (a::l) i).1=1 then some (f i) else none)∘Nat.succ)=fun i=>if (aAt l i).1=1 then some (f (i+1)) else none:=by funext i;rfl
 rw [e2,e0];by_cases h:a.1=1 <;> simp [h]
theorem a6d : ∀ (l r:List Ac) (f:Nat->Int),reads (l++fnc::r) f=reads (l++r) (fun i=>f (if i<l.length then i else i+1))
 | [],r,f=>by
   rw [List.nil_append,List.nil_append,a4G]
   rfl
 | a::l,r,f=>by
   rw [List.cons_append,List.cons_append,a4G,a4G,a6d l r];congr 1;congr 1;funext i;by_cases h:i<l.length
   ·rw [if_pos h,if_pos (by simp;omega)]
   rw [if_neg h,if_neg (by simp;omega)]
structure More1 (P P':Pg) (t0 q:Nat):Prop where
 len:P'.length=P.length
 lt:t0<P.length
 oth : ∀ t,t≠t0->thr P' t=thr P t
 own : ∃ l r,l.length=q/\thr P t0=l++r/\thr P' t0=l++fnc::r
def shf (t0 q t i:Nat):Nat:=if t=t0/\q<=i then i+1 else i
theorem b4o {t0 q t i j:Nat} (h:shf t0 q t i=shf t0 q t j):i=j:=by unfold shf at h;split at h <;> split at h <;> omega
section
variable {P P':Pg} {t0 q:Nat} (hM:More1 P P' t0 q)
include hM
theorem More1.at (t i:Nat):aAt (thr P' t) (shf t0 q t i)=aAt (thr P t) i:=by
 by_cases ht:t=t0
 ·subst ht;obtain ⟨l,r,h1,h2,h3⟩:=hM.own;rw [h2,h3];unfold aAt shf;rw [List.getD_eq_getElem?_getD,List.getD_eq_getElem?_getD];by_cases hi:q<=i
  ·rw [if_pos ⟨rfl,hi⟩,zp8 (by omega),zp8 (by omega),show i+1-l.length=(i-l.length)+1 by omega,List.getElem?_cons_succ]
  rw [if_neg (by omega),zp7 (by omega),zp7 (by omega)]
 unfold shf;rw [if_neg (by omega),hM.oth t ht]
theorem More1.lent (t:Nat):(thr P' t).length=if t=t0 then (thr P t).length+1 else (thr P t).length:=by
 by_cases ht:t=t0
 ·subst ht;obtain ⟨l,r,h1,h2,h3⟩:=hM.own;rw [if_pos rfl,h2,h3];simp;omega
 rw [if_neg ht,hM.oth t ht]
end
structure RF (t0 q:Nat) (s' s:AS):Prop where
 dn : ∀ t i,s.dn t i=s'.dn t (shf t0 q t i)
 rd : ∀ t i,s.rd t i=s'.rd t (shf t0 q t i)
 bf:s.bf=s'.bf
 ce:s.ce=s'.ce
theorem RF.init (t0 q:Nat):RF t0 q AS.init AS.init:=⟨fun _ _=>rfl,fun _ _=>rfl,rfl,rfl⟩
section
variable {P P':Pg} {t0 q:Nat} (hM:More1 P P' t0 q) {s' s:AS} (hR:RF t0 q s' s)
include hM hR
theorem RF.out:a8c P' s'=a8c P s:=by
 unfold a8c;rw [hM.len,hR.ce];congr 1;refine a4Q fun t _ => ?_;by_cases ht:t=t0
 ·subst ht;obtain ⟨l,r,h1,h2,h3⟩:=hM.own;rw [h2,h3,a6d];congr 1;funext i;rw [hR.rd];unfold shf;rw [h1];by_cases hi:i<q
  ·rw [if_pos hi,if_neg (by omega)]
  rw [if_neg hi,if_pos (by omega)]
 rw [hM.oth t ht];congr 1;funext i;rw [hR.rd];unfold shf;rw [if_neg (by omega)]
theorem RF.act (k:Nat) (t i:Nat):RF t0 q (doA k P' s' t (shf t0 q t i)) (doA k P s t i):=by
 have e:=hM.at t i;have hsn : ∀ c,sn s' t c=sn s t c:=fun c=>by unfold sn;rw [hR.bf,hR.ce]
 refine ⟨fun u j => ?_,fun u j => ?_,?_,?_⟩
 ·simp only [doA,fup];by_cases hu:u=t
  ·subst hu;by_cases hj:j=i
   ·subst hj;simp
   have:shf t0 q u j≠shf t0 q u i:=fun h=>hj (b4o h);simp [fup,hj,this,hR.dn]
  simp [fup,hu,hR.dn]
 ·simp only [doA,e,fup];by_cases h1:(aAt (thr P t) i).1=1
  ·rw [if_pos h1,if_pos h1];by_cases hu:u=t
   ·subst hu;by_cases hj:j=i
    ·subst hj;simp [hsn]
    have:shf t0 q u j≠shf t0 q u i:=fun h=>hj (b4o h);simp [fup,hj,this,hR.rd]
   simp [fup,hu,hR.rd]
  rw [if_neg h1,if_neg h1];exact hR.rd u j
 ·simp only [doA,e,hR.bf]
 simp only [doA,e,hR.ce]
theorem RF.outB (t:Nat):RF t0 q (outB s' t) (outB s t):=by
 unfold Go.Am.outB;rw [hR.bf];cases hb:s'.bf t with
 | nil=>exact hR
 | cons x r=>exact ⟨hR.dn,hR.rd,by simp only [hR.bf],by simp only [hR.ce]⟩
end
theorem set_mid {α:Type} : ∀ (A:List α) (x y:α) (B:List α),(A++x::B).set A.length y=A++y::B
 | [],_,_,_=>rfl
 | a::A,x,y,B=>congrArg (a :: ·) (set_mid A x y B)
theorem b8e {P:Pg} (hv:a2W P=true) : ∀ l∈P,∀ a∈l,a6k a=true:=by
 unfold a2W at hv;rw [zp4,zp4] at hv;have h1:=hv.1.1;rw [List.all_eq_true] at h1;intro l hl a ha;have h:=h1 l hl;unfold a8Y at h;rw [zp4,zp4] at h;have h2:=h.1.2;rw [List.all_eq_true] at h2;exact h2 a ha
theorem b0b {α β:Type} {f g:α->Option β} : ∀ {l:List α},(∀ a∈l,f a=g a)->l.filterMap f=l.filterMap g
 | [],_=>rfl
 | a::l,h=>by
   rw [List.filterMap_cons,List.filterMap_cons,h a (List.mem_cons_self ..),b0b fun b hb=>h b (List.mem_cons_of_mem _ hb)]
theorem a2J {l:List Ac} {m:Nat} (hm:m<=l.length) (r:Nat->Int):reads (l.take m) r=(List.range m).filterMap fun i=>if (aAt l i).1=1 then some (r i) else none:=by
 unfold reads;rw [List.length_take,Nat.min_eq_left hm];refine b0b fun i hi => ?_;have hi:=List.mem_range.1 hi;have e:aAt (l.take m) i=aAt l i:=by
  unfold aAt;rw [List.getD_eq_getElem?_getD,List.getD_eq_getElem?_getD,List.getElem?_take_of_lt hi]
 rw [e]
theorem b1W {l:List Ac} {m:Nat} (hm:m<l.length) (r:Nat->Int):reads (l.take (m+1)) r=reads (l.take m) r++if (aAt l m).1=1 then [r m] else []:=by
 rw [a2J hm,a2J (Nat.le_of_lt hm),List.range_succ,List.filterMap_append];congr 1;by_cases h:(aAt l m).1=1 <;> simp [h]
theorem a6Y {l:List Ac} {m:Nat} (hm:m<=l.length) {r r':Nat->Int} (h : ∀ i,i<m->r i=r' i):reads (l.take m) r=reads (l.take m) r':=by
 rw [a2J hm,a2J hm];refine b0b fun i hi => ?_;rw [h i (List.mem_range.1 hi)]
theorem b5K {l:List Ac} {m:Nat} (hm:m<=l.length) (r:Nat->Int):(reads (l.take m) r).length<=m:=by
 rw [a2J hm];have:=List.length_filterMap_le (fun i=>if (aAt l i).1=1 then some (r i) else none) (List.range m)
 rwa [List.length_range] at this
structure PR (P:Pg) (s:Sta) (n:Nat->Nat) (rd:Nat->List Int):Prop where
 sp:SP P s n
 rd : ∀ t,rd t=reads ((thr P t).take (n t)) ((vw P s).rd t)
theorem PR.init (P:Pg):PR P s0 (fun _=>0) (fun _=>[]):=⟨SP.init P,fun t=>by rw [List.take_zero];rfl⟩
def rd' (P:Pg) (s:Sta) (n:Nat->Nat) (rd:Nat->List Int) (t:Nat):Nat->List Int :=
 if (aAt (thr P t) (n t)).1=1 then fup rd t (rd t++[s (11+(aAt (thr P t) (n t)).2.1.toNat)]) else rd
section
variable {P:Pg} (hv:VP P) {s:Sta} {n:Nat->Nat} {rd:Nat->List Int} (h:PR P s n rd)
include hv h
theorem PR.nb : ∀ t,(vw P s).bf t=[]:=by
 intro t;show (if t<3 then a3j s t else [])=[]
 split
 ·rename_i ht;unfold a3j;rw [h.sp.k.nb (by decide) t ht];rfl
 rfl
theorem PR.len (t:Nat):(rd t).length<=7:=by
 rw [h.rd t];exact Nat.le_trans (b5K (h.sp.l t) _) (Nat.le_trans (h.sp.l t) (hv.l7 t))
theorem PR.step {t:Nat} (ht:t<P.length) (hi:n t<(thr P t).length):PR P (doS P s t (n t)) (fup n t (n t+1)) (rd' P s n rd t):=by
 have ht3:=lt3 hv ht;refine ⟨SP.step hv h.sp ht hi,fun u => ?_⟩;have hb:=PR.nb hv h;have e:vw P (doS P s t (n t))=doA 3 P (vw P s) t (n t):=by
  rw [b9V (k:=1) hv h.sp.k.wf ht hi (.inl (by decide)) (.inl (hb t)),b8a (by decide)]
 have hrd : ∀ u j,(vw P (doS P s t (n t))).rd u j=if (aAt (thr P t) (n t)).1=1/\(u,j)=(t,n t) then (vw P s).ce (aAt (thr P t) (n t)).2.1 else (vw P s).rd u j:=fun u j=>by
  rw [e];exact a9o hb (t,n t) (u,j)
 have old : ∀ u j,j<n u->(vw P (doS P s t (n t))).rd u j=(vw P s).rd u j:=fun u j hj=>by
  rw [hrd,if_neg];rintro ⟨_,hh⟩;rw [Prod.mk.injEq] at hh;obtain ⟨rfl,rfl⟩:=hh;omega
 have hl:=h.sp.l u;by_cases hut:u=t
 ·subst hut;rw [a0g,b1W hi,a6Y hl (old u),<-h.rd u];unfold rd';by_cases h1:(aAt (thr P u) (n u)).1=1
  ·rw [if_pos h1,if_pos h1,a0g,hrd,if_pos ⟨h1,rfl⟩];obtain ⟨c0,c1,_⟩:=b1P hv h.sp.k.wf ht hi (.inl h1);congr 2;show _=(if 0<=(aAt (thr P u) (n u)).2.1/\(aAt (thr P u) (n u)).2.1<=2 then _ else _)
   rw [if_pos ⟨c0,c1⟩]
  rw [if_neg h1,if_neg h1,List.append_nil]
 rw [a0c _ _ _ hut,a6Y hl (old u),<-h.rd u];unfold rd';split
 ·rw [a0c _ _ _ hut]
 rfl
end
def c3 (x y z c:Int):Int:=if c=0 then x else if c=1 then y else z
theorem s3 (s:Sta) {c:Int} (h0:0<=c) (h2:c<=2):c3 (s 11) (s 12) (s 13) c=s (11+c.toNat):=by
 rcases (show c=0\/c=1\/c=2 by omega) with rfl | rfl | rfl <;> rfl
section
variable {P:Pg} (hv:VP P) {s:Sta} {n:Nat->Nat} {rd:Nat->List Int} (h:PR P s n rd)
include hv h
end
theorem PR.out {P:Pg} (hv:VP P) {s:Sta} {n:Nat->Nat} {rd:Nat->List Int} (h:PR P s n rd) (ho:a3L P s=true):(List.range P.length).flatMap rd++[s 11,s 12,s 13]=a4E P s:=by
 rw [<-a7M];unfold a8c;have h1:=(SP.over hv h.sp).1 ho;congr 1;refine a4Q fun t ht => ?_;have ht:=List.mem_range.1 ht;rw [h.rd t,h1 t ht,List.take_length]
theorem IsO.up {k k':Nat} {P:Pg} {O O':List (List Int)} (h:IsO k P O) (h':IsO k' P O') (hc : ∀ o,Can k P o->Can k' P o):a1T O' O=[]:=by
 unfold a1T;rw [List.filter_eq_nil_iff];intro x hx;have:=(h'.mem x).2 (hc x ((h.mem x).1 hx));simp [this]
theorem b4p (P:Pg) (i:Nat) (t:List Ac):(eP P).set i (.list 3 (eT t))=eP (P.set i t):=by
 unfold eP enc;rw [List.map_set,List.map_set];rfl
theorem b8f {P:Pg} (hv:VP P):b8Z Ar.std (eP P)=some (eP P):=by
 have hn3:=hv.n3;have el:Ar.std.len (eP P)=(P.length:Int):=by simp
 have e9 : ∀ Q:Pg,Ar.std.len (eP Q)=(Q.length:Int):=fun Q=>by simp
 have key:=a0M (step:=a6u Ar.std (eP P)) P.length (fun (_:Unit) (i:Nat)=>((i:Int),eP (P.take i++List.replicate (P.length-i) []))) (fun _ _=>True) (fun _=>eP P)
  (fun i _ hi _=>by
   refine ⟨(),trivial,?_⟩;unfold a6u;dsimp only;have hl7:=hv.l7 i;have hlen:(P.take i++List.replicate (P.length-i) ([]:List Ac)).length=P.length:=by simp;omega
   refine cnT (by simp;omega) (bt (a1G (a0w hi)) (bt (c0q (by omega)) (bck (c2j _) (bck (by simp) (bck (by
    rw [e9,hlen];simp;omega) ?_)))))
   have ew:Ar.std.wrp .i64 (Ar.std.zadd (i:Int) 1)=((i+1:Nat):Int):=by simp only [a0i,a0k];exact a1Y (n:=100) (by omega) (by omega)
   rw [ew];have e2:Ar.std.lset (eP (P.take i++List.replicate (P.length-i) [])) (Ar.std.nat (i:Int)) (.list 3 (eT (thr P i)))=eP (P.take (i+1)++List.replicate (P.length-(i+1)) []):=by
    show (eP (P.take i++List.replicate (P.length-i) [])).set i (.list 3 (eT (thr P i)))=_;rw [b4p];congr 1;apply List.ext_getElem?;intro j;rw [a0n (a0w hi)];rcases Nat.lt_trichotomy j i with g | g | g
    ·rw [List.getElem?_set_ne (by omega),zp7 (by simp;omega),List.append_assoc,zp7 (by simp;omega)]
    ·subst g;rw [List.getElem?_set_self (by omega),List.append_assoc,zp8 (by simp;omega)];rw [show j-(P.take j).length=0 by simp;omega];rfl
    rw [List.getElem?_set_ne (by omega),zp8 (by simp;omega),zp8 (by simp;omega),List.getElem?_replicate,List.getElem?_replicate];simp only [List.length_take,List.length_append,List.length_singleton];by_cases h:j<P.length
    ·rw [if_pos (by omega),if_pos (by omega)]
    rw [if_neg (by omega),if_neg (by omega)]
   rw [e2])
  (fun _ _=>by
   unfold a6u;dsimp only;refine cnF (by simp) ?_;simp) () trivial
 obtain ⟨_,_,h⟩:=key;have e0:Ar.std.rep (Ar.std.len (eP P)) (.list 3 [])=eP (P.take 0++List.replicate (P.length-0) []):=by
  rw [el];show List.replicate P.length (D.list 3 [])=_;simp [eP,enc];exact .inr rfl
 unfold b8Z;refine bck (by simp) (bck (by simp) (bck (by rw [el,a7v,decide_eq_true_eq];omega) ?_));rw [e0];exact bt (show iter (a6u Ar.std (eP P)) (0,eP (P.take 0++List.replicate (P.length-0) []))=_ from h) rfl
theorem b8g {l:List Ac} {i:Nat} (hi:i<l.length) (hl:l.length<=1000) :
  ∃ r,M87 Ar.std 0 (Ar.std.len (eT l)) (i:Int) ((i+1:Nat):Int) (eT l)=some (0,((l.length-1:Nat):Int),r)/\fz Ar.std r 0 ((l.length-1:Nat):Int)=some (eT (l.eraseIdx i)):=by
 have el:Ar.std.len (eT l)=(l.length:Int):=by simp
 have hX:(eT l).length=l.length:=by simp [enc]
 rw [el];have hsub:Ar.std.sub (eT l) (Ar.std.zadd 0 ((i+1:Nat):Int)) (Ar.std.zadd (Ar.std.zadd 0 ((i+1:Nat):Int)) (Ar.std.zsub (l.length:Int) ((i+1:Nat):Int)))=(eT l).drop (i+1):=by
  simp only [a7w,a0k,a0C];rw [show ((0:Int)+((i+1:Nat):Int)).toNat=i+1 by omega];apply List.take_of_length_le;rw [List.length_drop,hX];omega
 have hspl:Ar.std.spl (eT l) (Ar.std.zadd 0 (i:Int)) (Ar.std.sub (eT l) (Ar.std.zadd 0 ((i+1:Nat):Int)) (Ar.std.zadd (Ar.std.zadd 0 ((i+1:Nat):Int)) (Ar.std.zsub (l.length:Int) ((i+1:Nat):Int))))=(eT l).take i++(eT l).drop (i+1)++(eT l).drop (l.length-1):=by
  rw [hsub];show (eT l).take (Int.toNat (0+(i:Int)))++_++(eT l).drop ((0+(i:Int)).toNat+((eT l).drop (i+1)).length)=_;rw [show ((0:Int)+(i:Int)).toNat=i by omega,List.length_drop,hX,show i+(l.length-(i+1))=l.length-1 by omega]
 have hlen:((eT l).take i++(eT l).drop (i+1)++(eT l).drop (l.length-1)).length=l.length:=by
  simp only [List.length_append,List.length_take,List.length_drop,hX];omega
 have en:Ar.std.zadd (i:Int) (Ar.std.zsub (l.length:Int) ((i+1:Nat):Int))=((l.length-1:Nat):Int):=by simp only [a0k,a0C];omega
 have hlen':Ar.std.len ((eT l).take i++(eT l).drop (i+1)++(eT l).drop (l.length-1))=(l.length:Int):=congrArg (fun n:Nat=>(n:Int)) hlen;refine ⟨Ar.std.fill ((eT l).take i++(eT l).drop (i+1)++(eT l).drop (l.length-1)) (Ar.std.zadd 0 ((l.length-1:Nat):Int)) (Ar.std.zsub (l.length:Int) ((l.length-1:Nat):Int)) (.agg [(.int .i64 0),(.int .i64 0),(.int .i64 0)]),?_,?_⟩
 ·unfold M87;refine bck (by simp) (bck (by simp;omega) (bck (by simp;omega) (bck (by simp) (cnF (by simp;omega) (bck (by simp) (bck (by simp;omega) (bck (by simp;omega) (bck (by simp;omega) (bck (by simp;omega) (bck (by simp) ?_))))))))));rw [hspl,en,hlen',el];exact bck (by simp) (bck (by first | (simp;done) | (simp;omega)) (bck (by first | (simp;done) | (simp;omega)) (bck (by simp) (bck (by simp) (bck (by simp) (bck (by simp;omega) rfl))))))
 have htk:((eT l).take i++(eT l).drop (i+1)++(eT l).drop (l.length-1)).take (l.length-1)=eT (l.eraseIdx i):=by
  rw [List.take_append_of_le_length (by simp only [List.length_append,List.length_take,List.length_drop,hX];omega),List.take_of_length_le (by simp only [List.length_append,List.length_take,List.length_drop,hX];omega),List.eraseIdx_eq_take_drop_succ];unfold eT enc;rw [List.map_append,List.map_take,List.map_drop]
 have ef:Ar.std.fill ((eT l).take i++(eT l).drop (i+1)++(eT l).drop (l.length-1)) (Ar.std.zadd 0 ((l.length-1:Nat):Int)) (Ar.std.zsub (l.length:Int) ((l.length-1:Nat):Int)) (.agg [(.int .i64 0),(.int .i64 0),(.int .i64 0)]) =
   eT (l.eraseIdx i)++(List.replicate 1 (.agg [(.int .i64 0),(.int .i64 0),(.int .i64 0)])++((eT l).take i++(eT l).drop (i+1)++(eT l).drop (l.length-1)).drop l.length):=by
  rw [a7x];unfold a1b;rw [show (Ar.std.zadd 0 ((l.length-1:Nat):Int)).toNat=l.length-1 by simp only [a0k];omega,show (Ar.std.zsub (l.length:Int) ((l.length-1:Nat):Int)).toNat=1 by simp only [a0C];omega,htk,show l.length-1+1=l.length by omega,List.append_assoc]
 have hel:(eT (l.eraseIdx i)).length=l.length-1:=by simp [enc,List.length_eraseIdx,hi]
 rw [ef];generalize hR:(List.replicate 1 (D.agg [(.int .i64 0),(.int .i64 0),(.int .i64 0)])++((eT l).take i++(eT l).drop (i+1)++(eT l).drop (l.length-1)).drop l.length)=R;unfold fz;refine cnT ?_ ?_
 ·have:Ar.std.len (eT (l.eraseIdx i)++R)=((l.length-1+R.length:Nat):Int):=by
   show ((eT (l.eraseIdx i)++R).length:Int)=_;rw [List.length_append,hel]
  rw [this];simp;omega
 simp only [a7w,a0k,Int.toNat_zero,List.drop_zero,Nat.sub_zero,Int.zero_add,Int.toNat_natCast];rw [List.take_append_of_le_length (by omega),List.take_of_length_le (by omega)]
theorem c0t {P:Pg} (hv:a2W P=true) {t0:Nat} (h:t0<P.length) {l:List Ac} (h7:l.length<=7) (ha : ∀ a∈l,a6k a=true) (hw:nWk l=nWk (thr P t0)):a2W (P.set t0 l)=true:=by
 have hv':=hv;unfold a2W at hv ⊢;simp only [zp4,decide_eq_true_eq,List.all_eq_true] at hv ⊢;obtain ⟨⟨h1,h2⟩,h4⟩:=hv;have hm:(P.set t0 l).map nWk=P.map nWk:=by
  rw [List.map_set];apply List.ext_getElem?;intro j;by_cases hj:t0=j
  ·subst hj;rw [List.getElem?_set_self (by simpa using h),List.getElem?_map,a0w h,hw];rfl
  rw [List.getElem?_set_ne hj]
 refine ⟨⟨fun t ht => ?_,by simpa using h2⟩,by unfold allW at h4 ⊢;rw [hm];exact h4⟩;rcases List.mem_or_eq_of_mem_set ht with ht | rfl
 ·exact h1 t ht
 have:=h1 _ (List.mem_of_getElem? (a0w h));unfold a8Y at this ⊢;simp only [zp4,decide_eq_true_eq,List.all_eq_true] at this ⊢;exact ⟨⟨h7,ha⟩,by rw [hw];exact this.2⟩
theorem b8h {P:Pg} (hv:VP P) {t i:Nat} (ht:t<P.length) (hi:i<(thr P t).length):c1j Ar.std (eP P) (t:Int) (i:Int)=some (eP (P.set t ((thr P t).eraseIdx i))):=by
 have hl7:=hv.l7 t;obtain ⟨r,e1,e2⟩:=b8g hi (by omega);have ew:Ar.std.wrp .i64 (Ar.std.zadd (i:Int) 1)=((i+1:Nat):Int):=by simp only [a0i,a0k];exact a1Y (n:=100) (by omega) (by omega)
 unfold c1j;refine bt (b8f hv) (bt (a1G (a0w ht)) (bck (by simp;omega) ?_));rw [ew];refine bt e1 (bt e2 ?_);exact congrArg some (b4p P t _)
theorem b4q {P:Pg} (hv:a2W P=true) {t i:Nat} (ht:t<P.length) (hi:i<(thr P t).length) (hf:wk (aAt (thr P t) i)=false):a2W (P.set t ((thr P t).eraseIdx i))=true:=by
 have hV:=VP.of hv;have hl7:=hV.l7 t;have hmem : ∀ a∈(thr P t).eraseIdx i,a∈thr P t:=fun a ha=>List.mem_of_mem_eraseIdx ha;refine c0t hv ht (by rw [List.length_eraseIdx];split <;> omega) (fun a ha=>b8e hv _ (List.mem_of_getElem? (a0w ht)) a (hmem a ha)) ?_;have hs:thr P t=(thr P t).take i++aAt (thr P t) i::(thr P t).drop (i+1):=by
  have:=a1k hi
  conv=>lhs;rw [<-List.take_append_drop i (thr P t)]
  rw [List.drop_eq_getElem_cons hi];rw [zp1 hi] at this;rw [Option.some.inj this]
 rw [List.eraseIdx_eq_take_drop_succ];unfold nWk
 conv=>rhs;rw [hs]
 rw [List.countP_append,List.countP_append,List.countP_cons_of_neg (by rw [hf];simp)]
theorem wS {i:Nat} (h:i<=1000):Ar.std.wrp .i64 (Ar.std.zadd (i:Int) 1)=((i+1:Nat):Int):=by
 simp only [a0i,a0k];rw [a2Y _ (by omega) (by omega)];rfl
theorem b4r {n i a:Nat} (h:(List.range n)[i]?=some a):a=i/\i<n:=by
 have hi:i<n:=by have:=(zp2.1 h).1;simpa using this
 rw [List.getElem?_range hi] at h;exact ⟨(Option.some.inj h).symm,hi⟩
theorem c0u {P:Pg} (hv:VP P):M88 Ar.std (eP P)=some (eP P):=by
 have hn3:=hv.n3;have key:=a0M (step:=b1l Ar.std (eP P)) P.length (fun (_:Unit) (i:Nat)=>(eP (P.take i),(i:Int))) (fun _ _=>True) (fun _=>eP P)
  (fun i _ hi _=>by
   refine ⟨(),trivial,?_⟩;unfold b1l;dsimp only;have hl7:=hv.l7 i;have e1:ap Ar.std [] (eT (thr P i))=some (eT (thr P i)):=a7A (by omega);have ea:ap Ar.std (eP (P.take i)) [D.list 3 (eT (thr P i))]=some (eP (P.take (i+1))):=by
    rw [b0D (by simp;omega),a0n (a0w hi)];unfold eP enc;rw [List.map_append,List.map_append];rfl
   refine cnT (by simp;omega) (bt (a1G (a0w hi)) (bt e1 (bt ea ?_)));rw [wS (by omega)])
  (fun _ _=>by
   unfold b1l;dsimp only;refine cnF (by simp) ?_;rw [List.take_length]) () trivial
 obtain ⟨_,_,h⟩:=key;unfold M88;exact bt (show iter (b1l Ar.std (eP P)) ([],0)=_ from h) rfl
abbrev cEn:Cod (Int×Int):=cG (lc (cI .i64) (l1 (cI .i64)))
def a2K (k n:Nat) (m:Nat->List D):List D:=(List.range n).map fun t=>D.list k (m t)
theorem a1I {k n:Nat} {m:Nat->List D} {t:Nat} (h:t<n):gt Ar.std (cL k) (a2K k n m) (t:Int)=some (m t):=by
 have e:a2K k n m=enc (cL k) ((List.range n).map m):=by unfold a2K enc;rw [List.map_map];rfl
 rw [e];exact a4y (g:=m) (by rw [List.getElem?_range h])
theorem b5L {k n:Nat} {m:Nat->List D}:Ar.std.len (a2K k n m)=(n:Int):=by
 show ((a2K k n m).length:Int)=_;unfold a2K;simp
theorem a7R {α:Type} (f:Nat->α) (n i:Nat) (b:α):((List.range n).map f).set i b=(List.range n).map (fup f i b):=by
 apply List.ext_getElem?;intro j;by_cases hj:i=j
 ·subst hj;by_cases hi:i<n
  ·rw [List.getElem?_set_self (by simpa using hi),List.getElem?_map,List.getElem?_range hi];simp
  rw [List.getElem?_eq_none (by simp;omega),List.getElem?_eq_none (by simp;omega)]
 rw [List.getElem?_set_ne hj,List.getElem?_map,List.getElem?_map];by_cases hn:j<n
 ·rw [List.getElem?_range hn];simp [fup,Ne.symm hj]
 rw [List.getElem?_eq_none (by simp;omega)];rfl
theorem a7S {k n:Nat} {m:Nat->List D} {t:Nat} {y:List D}:(a2K k n m).set t (.list k y)=a2K k n (fup m t y):=by
 unfold a2K;rw [a7R];congr 1;funext t';unfold fup;split <;> rfl
theorem b0c {γ:Type} (E:Nat->γ->List D) (f:Nat->γ) (t:Nat) (g:γ):fup (fun t=>E t (f t)) t (E t g)=fun t'=>E t' (fup f t g t'):=by
 funext t';unfold fup;split
 ·rename_i h;subst h;rfl
 rfl
def bD (n:Nat) (f:Nat->Bool):List D:=enc cB ((List.range n).map f)
def iD (n:Nat) (f:Nat->Int):List D:=a0q ((List.range n).map f)
def qD (l:List (Int×Int)):List D:=enc cEn l
theorem c0v {n:Nat} {f:Nat->Bool} {i:Nat} {b:Bool}:(bD n f).set i (.bool b)=bD n (fup f i b):=by
 unfold bD enc;rw [List.map_map,a7R,List.map_map];congr 1;funext j;unfold fup;simp only [Function.comp];split <;> rfl
theorem c0w {n:Nat} {f:Nat->Int} {i:Nat} {b:Int}:(iD n f).set i (.int .i64 b)=iD n (fup f i b):=by
 unfold iD a0q enc;rw [List.map_map,a7R,List.map_map];congr 1;funext j;unfold fup;simp only [Function.comp];split <;> rfl
theorem b0U {n:Nat} {f:Nat->Bool}:Ar.std.len (bD n f)=(n:Int):=by unfold bD;simp
theorem b6K {n:Nat} {f:Nat->Int}:Ar.std.len (iD n f)=(n:Int):=by unfold iD;simp
theorem a6e {l:List (Int×Int)}:Ar.std.len (qD l)=(l.length:Int):=by unfold qD;simp
theorem b5M {n:Nat} {f:Nat->Bool} {i:Nat} (h:i<n):gc Ar.std cB (bD n f) (Ar.std.nat (i:Int))=some (f i):=a8V (i:=i) (by rw [List.getElem?_map,List.getElem?_range h];rfl)
theorem c0x {n:Nat} {f:Nat->Int} {i:Nat} (h:i<n):gc Ar.std (cI .i64) (iD n f) (Ar.std.nat (i:Int))=some (f i):=a8V (i:=i) (by rw [List.getElem?_map,List.getElem?_range h];rfl)
def wDn (P:Pg) (s:AS):List D:=a2K 1 P.length fun t=>bD (thr P t).length (s.dn t)
def wRd (P:Pg) (s:AS):List D:=a2K 1 P.length fun t=>iD (thr P t).length (s.rd t)
def wBf (P:Pg) (s:AS):List D:=a2K 2 P.length fun t=>qD (s.bf t)
theorem b4s {P:Pg} {s:AS} {t i:Nat} {b:Bool}:Ar.std.lset (wDn P s) (Ar.std.nat (t:Int)) (.list 1 (Ar.std.lset (bD (thr P t).length (s.dn t)) (Ar.std.nat (i:Int)) (.bool b)))=wDn P { s with dn:=fup s.dn t (fup (s.dn t) i b) }:=by
 show (wDn P s).set t (.list 1 ((bD (thr P t).length (s.dn t)).set i (.bool b)))=_;rw [c0v];unfold wDn;rw [a7S,b0c (fun t x=>bD (thr P t).length x) s.dn t]
theorem b8i {P:Pg} {s:AS} {t i:Nat} {b:Int}:Ar.std.lset (wRd P s) (Ar.std.nat (t:Int)) (.list 1 (Ar.std.lset (iD (thr P t).length (s.rd t)) (Ar.std.nat (i:Int)) (.int .i64 b)))=wRd P { s with rd:=fup s.rd t (fup (s.rd t) i b) }:=by
 show (wRd P s).set t (.list 1 ((iD (thr P t).length (s.rd t)).set i (.int .i64 b)))=_;rw [c0w];unfold wRd;rw [a7S,b0c (fun t x=>iD (thr P t).length x) s.rd t]
theorem b4t {P:Pg} {s:AS} {t:Nat} {l:List (Int×Int)}:Ar.std.lset (wBf P s) (Ar.std.nat (t:Int)) (.list 2 (qD l))=wBf P { s with bf:=fup s.bf t l }:=by
 show (wBf P s).set t (.list 2 (qD l))=_;unfold wBf;rw [a7S,b0c (fun _ x=>qD x) s.bf t]
theorem ez {i:Nat}:Ar.std.zle 0 (i:Int)=true:=by simp
theorem el {i n:Nat} (h:i<n):Ar.std.zlt (i:Int) (n:Int)=true:=by simp;omega
def b0d (k:Nat) (a b:Ac):Bool:=bif decide ((k:Int)=3) then (bif decide (a.1=3) then true else bif decide (b.1=3) then true else decide (a.2.1=b.2.1)) else true
theorem a9q {k:Nat} {a b:Ac}:b0d k a b=true↔must k a b:=by
 unfold b0d must;by_cases h:(k:Int)=3
 ·have h':k=3:=by omega
  rw [decide_eq_true h];simp only [cond_true];by_cases h1:a.1=3
  ·simp [h1]
  rw [decide_eq_false h1];simp only [cond_false];by_cases h2:b.1=3
  ·simp [h2]
  rw [decide_eq_false h2];simp only [cond_false,decide_eq_true_eq];simp [h',h1,h2]
 have h':k≠3:=by omega
 rw [decide_eq_false h];simp [h']
theorem b4u {P:Pg} (hv:VP P) {k:Nat} {s:AS} {t i:Nat} (ht:t<P.length) (hi:i<(thr P t).length) (c0 c1 c2:Int) (R:List D) :
  ∃ b,b5X Ar.std (t:Int) (i:Int) (eP P) (k:Int) c0 c1 c2 (wDn P s) R (wBf P s)=some b/\(b=true↔a2G k (thr P t) (s.t t) i):=by
 have hl7:=hv.l7 t;have ha:=a1k hi;have hdn:gt Ar.std (cL 1) (wDn P s) (t:Int)=some (bD (thr P t).length (s.dn t)):=a1I ht;have hbf:gt Ar.std (cL 2) (wBf P s) (t:Int)=some (qD (s.bf t)):=a1I ht;generalize hga:aAt (thr P t) i=a at ha;let p:Nat->Bool:=fun j=>b0d k a (aAt (thr P t) j) && !(s.dn t j);have key:iter (a6v Ar.std (t:Int) (i:Int) (eP P) (k:Int) (wDn P s) a.1 a.2.1) 0=some (bif (List.range i).any p then (.inr ():Unit⊕Unit) else .inl ()):=by
  refine a5g (List.range i) p (Sum.inr ()) (Sum.inl ()) (fun j b hb hj => ?_) ?_
  ·obtain ⟨rfl,hji⟩:=b4r hb;have hb2:=a1k (show b<(thr P t).length by omega);have hp:p b=(b0d k a (aAt (thr P t) b) && !(s.dn t b)):=rfl;generalize aAt (thr P t) b=q at hb2 hp;unfold a6v;refine cnT (el hji) (bt (a1G (a0w ht)) (bt (a0R hb2) (bt (v:=b0d k a q) ?_ (bt (v:=p b) (bt hdn ?_) ?_))))
   ·show (bif decide ((k:Int)=3) then _ else _)=_
    unfold b0d;by_cases h3:(k:Int)=3
    ·rw [decide_eq_true h3];refine cnT rfl ?_;show (bif decide (a.1=3) then _ else _)=_
     by_cases h4:a.1=3
     ·rw [decide_eq_true h4];exact cnT rfl rfl
     rw [decide_eq_false h4];refine cnF rfl ?_;show (bif decide (q.1=3) then _ else _)=_
     by_cases h5:q.1=3
     ·rw [decide_eq_true h5];exact cnT rfl rfl
     rw [decide_eq_false h5];exact cnF rfl rfl
    rw [decide_eq_false h3];exact cnF rfl rfl
   ·rw [hp];cases b0d k a q with
    | true=>exact cnT rfl (bck ez (bck (by rw [b0U];exact el (by omega)) (bt (b5M (by omega)) rfl)))
    | false=>exact cnF rfl rfl
   cases p b with
   | true=>rfl
   | false=>exact cnF rfl (by rw [wS (by omega)];rfl)
  unfold a6v;refine cnF ?_ rfl;simp
 unfold b5X
 have pre : ∀ {r:Option Bool},(bif s.dn t i then some false else (iter (a6v Ar.std (t:Int) (i:Int) (eP P) (k:Int) (wDn P s) a.1 a.2.1) 0).bind (Sum.elim (fun _ =>
   (((gt Ar.std (cL 2) (wBf P s) (t:Int)).bind fun y123 =>
     bif (Ar.std.zeq (k:Int) 2) then
      bif (Ar.std.zeq a.1 3) then
       some (Ar.std.zeq (Ar.std.len y123) 0)
      else
       some true
     else
      some true:Option (Bool))).bind fun v131=>some v131) (fun _=>some false)))=r->b5X Ar.std (t:Int) (i:Int) (eP P) (k:Int) c0 c1 c2 (wDn P s) R (wBf P s)=r:=by
  intro r hr;unfold b5X;exact bt (a1G (a0w ht)) (bt (a0R ha) (bt hdn (bck ez (bck (by rw [b0U];exact el hi) (bt (b5M hi) hr)))))
 cases hd:s.dn t i with
 | true =>
   refine ⟨false,pre (by rw [hd];rfl),⟨fun h=>(by cases h),fun h => ?_⟩⟩;have h1:s.dn t i=false:=h.1;rw [hd] at h1;cases h1
 | false =>
   cases hany:(List.range i).any p with
   | true =>
     rw [hany] at key;refine ⟨false,pre (by rw [hd];exact cnF rfl (bt key rfl)),⟨fun h=>(by cases h),fun h => ?_⟩⟩;obtain ⟨j,hj,hp⟩:=List.any_eq_true.1 hany;simp only [p,zp4,Bool.not_eq_true'] at hp;have h2:s.dn t j=true:=h.2.1 j (by simpa using hj) (by rw [hga];exact a9q.1 hp.1);rw [hp.2] at h2;cases h2
   | false =>
     rw [hany] at key;have hall : ∀ j,j<i->must k a (aAt (thr P t) j)->s.dn t j=true:=by
      intro j hj hm;have:=List.any_eq_false.1 hany j (by simpa using hj);simp only [p,a9q.2 hm,Bool.true_and,Bool.not_eq_true',Bool.not_eq_false] at this;exact this
     refine ⟨bif decide ((k:Int)=2) then (bif decide (a.1=3) then decide ((s.bf t).length=0) else true) else true,pre (by
      rw [hd];refine cnF rfl (bt key ?_);simp only [cond_false,Sum.elim_inl];refine bt (bt hbf ?_) rfl;show (bif decide ((k:Int)=2) then _ else _)=_
      by_cases h2:(k:Int)=2
      ·rw [decide_eq_true h2];refine cnT rfl ?_;show (bif decide (a.1=3) then _ else _)=_
       by_cases h3:a.1=3
       ·rw [decide_eq_true h3];refine cnT rfl ?_;rw [a6e];simp only [cond_true];congr 1;simp [Ar.std]
       rw [decide_eq_false h3];exact cnF rfl rfl
      rw [decide_eq_false h2];exact cnF rfl rfl),⟨fun h=>⟨hd,fun j hj hm=>hall j hj (by rw [hga] at hm;exact hm),fun hk hf => ?_⟩,fun h => ?_⟩⟩
     ·rw [hga] at hf;rw [decide_eq_true (show (k:Int)=2 by omega),decide_eq_true hf] at h;simp only [cond_true,decide_eq_true_eq] at h;exact List.length_eq_zero_iff.1 h
     by_cases h2:(k:Int)=2
     ·rw [decide_eq_true h2];simp only [cond_true];by_cases h3:a.1=3
      ·rw [decide_eq_true h3];have:=h.2.2 (by omega) (by rw [hga];exact h3);have e:s.bf t=[]:=this;rw [e];rfl
      rw [decide_eq_false h3];rfl
     rw [decide_eq_false h2];rfl
structure Wl (P:Pg) (s:AS):Prop where
 len : ∀ t,(s.bf t).length<=((List.range (thr P t).length).filter fun i=>s.dn t i).length
 cell : ∀ t,∀ e∈s.bf t,0<=e.1/\e.1<=2
theorem Wl.init (P:Pg):Wl P AS.init:=⟨fun t=>by simp [AS.init],fun t e he=>by simp [AS.init] at he⟩
theorem a6Z {n i:Nat} (hi:i<n) {f:Nat->Bool} (hf:f i=false):((List.range n).filter fun j=>fup f i true j).length=((List.range n).filter fun j=>f j).length+1:=by
 rw [<-List.countP_eq_length_filter,<-List.countP_eq_length_filter];have key : ∀ l:List Nat,l.Nodup->(l.countP fun j=>fup f i true j)=(l.countP fun j=>f j)+(if i∈l then 1 else 0):=by
  intro l
  induction l with
  | nil=>intro _;rfl
  | cons x r ih =>
    intro hn;rw [List.nodup_cons] at hn;rw [List.countP_cons,List.countP_cons,ih hn.2];by_cases hx:x=i
    ·subst hx;simp [hf,hn.1]
    have h1:fup f i true x=f x:=a0c _ _ _ hx;have h2:(i∈x::r)=(i∈r):=by simp [Ne.symm hx]
    rw [h1];simp only [h2];omega
 rw [key _ List.nodup_range,if_pos (by simpa using hi)]
theorem a9r {n:Nat} {f:Nat->Bool}:((List.range n).filter fun j=>f j).length<=n:=by
 have:=List.length_filter_le (fun j=>f j) (List.range n);simpa using this
section
variable {k:Nat} {P:Pg}
theorem Wl.doA {s:AS} (hv:VP P) (hw:Wl P s) {t i:Nat} (hi:i<(thr P t).length) (hd:s.dn t i=false):Wl P (doA k P s t i):=by
 refine ⟨fun u => ?_,fun u e he => ?_⟩
 ·have h0:=hw.len u;by_cases hu:u=t
  ·subst hu;have e1:(Go.Am.doA k P s u i).dn u=fup (s.dn u) i true:=by simp [Go.Am.doA]
   rw [e1,a6Z hi hd];simp only [Go.Am.doA];split
   ·simp only [a0g,List.length_append,List.length_singleton];omega
   omega
  have e1:(Go.Am.doA k P s t i).dn u=s.dn u:=by simp [Go.Am.doA,fup,hu]
  rw [e1];simp only [Go.Am.doA];split
  ·rw [a0c _ _ _ hu];exact h0
  exact h0
 simp only [Go.Am.doA] at he;split at he
 ·rename_i h2;by_cases hu:u=t
  ·subst hu;rw [a0g] at he;rcases List.mem_append.1 he with he | he
   ·exact hw.cell u e he
   simp at he;subst he;have:=hv.act u i hi;rcases a2I this with h | h | h
   ·rw [h2.1] at h;omega
   ·exact ⟨h.2.1,h.2.2.1⟩
   rw [h] at h2;simp at h2
  rw [a0c _ _ _ hu] at he;exact hw.cell u e he
 exact hw.cell u e he
theorem Wl.outB {s:AS} (hw:Wl P s) (t:Nat):Wl P (outB s t):=by
 unfold Go.Am.outB;cases hb:s.bf t with
 | nil=>exact hw
 | cons x r =>
   refine ⟨fun u => ?_,fun u e he => ?_⟩
   ·have h0:=hw.len u;by_cases hu:u=t
    ·subst hu;simp only [a0g];rw [hb] at h0;simp at h0;omega
    simp only [a0c _ _ _ hu];exact h0
   by_cases hu:u=t
   ·subst hu;simp only [a0g] at he;exact hw.cell u e (by rw [hb];exact List.mem_cons_of_mem _ he)
   simp only [a0c _ _ _ hu] at he;exact hw.cell u e he
theorem Wl.le7 {s:AS} (hv:VP P) (hw:Wl P s) (t:Nat):(s.bf t).length<=7:=by
 have h1:=hw.len t;have h2:=hv.l7 t;have h3:=a9r (n:=(thr P t).length) (f:=s.dn t);omega
noncomputable def a7a (k:Nat) (P:Pg) (s:AS) (t i:Nat):AS:={ s with dn:=fup s.dn t (a6j k (thr P t) (s.t t) i).1,bf:=fup s.bf t (a6j k (thr P t) (s.t t) i).2 }
theorem b0e {s:AS} {t i:Nat} (hm:a2G k (thr P t) (s.t t) i) (hs:silent k (aAt (thr P t) i)):a7a k P s t i=doA k P s t i:=by
 obtain ⟨h1,h2⟩:=a5P hs;unfold a7a a6j;rw [if_pos ⟨hm,hs⟩];unfold stepT doA;rw [if_neg h1,if_neg h2];congr 1;split
 ·rfl
 exact a5O ..
theorem b0f {s:AS} {t i:Nat} (h : ¬ (a2G k (thr P t) (s.t t) i/\silent k (aAt (thr P t) i))):a7a k P s t i=s:=by
 unfold a7a a6j;rw [if_neg h];unfold AS.t;simp only [a5O]
theorem Wl.sil {s:AS} (hv:VP P) (hw:Wl P s) {t i:Nat} (hi:i<(thr P t).length):Wl P (a7a k P s t i):=by
 by_cases h:a2G k (thr P t) (s.t t) i/\silent k (aAt (thr P t) i)
 ·rw [b0e h.1 h.2];exact hw.doA hv hi h.1.1
 rw [b0f h];exact hw
theorem b4v (s:AS) (t n:Nat):(List.range n).foldl (fun u i=>a7a k P u t i) s={ s with dn:=fup s.dn t ((List.range n).foldl (a6j k (thr P t)) (s.t t)).1,bf:=fup s.bf t ((List.range n).foldl (a6j k (thr P t)) (s.t t)).2 }:=by
 induction n with
 | zero =>
   simp only [List.range_zero,List.foldl_nil];unfold AS.t;simp only [a5O]
 | succ n ih =>
   rw [List.range_succ,List.foldl_append,List.foldl_append,ih];simp only [List.foldl_cons,List.foldl_nil];generalize (List.range n).foldl (a6j k (thr P t)) (s.t t)=y;unfold a7a;have et:({ s with dn:=fup s.dn t y.1,bf:=fup s.bf t y.2 }:AS).t t=y:=by unfold AS.t;simp
   rw [et];simp only [b7x]
noncomputable def nrU (k:Nat) (P:Pg) (s:AS) (n:Nat):AS:={ s with dn:=fun t=>if t<n then (nrT k (thr P t) (s.t t)).1 else s.dn t,bf:=fun t=>if t<n then (nrT k (thr P t) (s.t t)).2 else s.bf t }
theorem b0V (s:AS) (n:Nat):nrU k P s (n+1)=(List.range (thr P n).length).foldl (fun u i=>a7a k P u n i) (nrU k P s n):=by
 rw [b4v];have et:(nrU k P s n).t n=s.t n:=by unfold AS.t nrU;simp
 rw [et];show nrU k P s (n+1)={ nrU k P s n with dn:=fup (nrU k P s n).dn n (nrT k (thr P n) (s.t n)).1,bf:=fup (nrU k P s n).bf n (nrT k (thr P n) (s.t n)).2 }
 unfold nrU;congr 1
 ·funext t;unfold fup;by_cases h:t=n
  ·subst h;simp
  rw [if_neg h];simp only;by_cases h2:t<n
  ·rw [if_pos h2,if_pos (by omega)]
  rw [if_neg h2,if_neg (by omega)]
 funext t;unfold fup;by_cases h:t=n
 ·subst h;simp
 rw [if_neg h];simp only;by_cases h2:t<n
 ·rw [if_pos h2,if_pos (by omega)]
 rw [if_neg h2,if_neg (by omega)]
theorem b4w (s:AS):nrU k P s P.length=nrm k P s:=by
 have hz : ∀ t,¬ t<P.length->nrT k (thr P t) (s.t t)=s.t t:=by
  intro t ht;have:thr P t=[]:=a1Z (by omega);unfold nrT;rw [this];rfl
 unfold nrU nrm;congr 1
 ·funext t;by_cases h:t<P.length
  ·rw [if_pos h]
  rw [if_neg h,hz t h];rfl
 funext t;by_cases h:t<P.length
 ·rw [if_pos h]
 rw [if_neg h,hz t h];rfl
end
theorem c2k {l:List (Int×Int)} {e:Int×Int} (h:l.length<=100):ap Ar.std (qD l) [D.agg [.int .i64 e.1,.int .i64 e.2]]=some (qD (l++[e])):=a5N rfl (by omega)
theorem b0g {P:Pg} (hv:VP P) {k:Nat} {s:AS} (hw:Wl P s) {t i:Nat} (ht:t<P.length) (hi:i<(thr P t).length) (c0 c1 c2:Int) (R:List D) :
  a5m Ar.std (eP P) (k:Int) c0 c1 c2 R (t:Int) ((i:Int),wDn P s,wBf P s)=some (.inl (((i+1:Nat):Int),wDn P (a7a k P s t i),wBf P (a7a k P s t i))):=by
 have hl7:=hv.l7 t;have ha:=a1k hi;obtain ⟨b,e1,hb⟩:=b4u hv (k:=k) (s:=s) ht hi c0 c1 c2 R;have hdn:gt Ar.std (cL 1) (wDn P s) (t:Int)=some (bD (thr P t).length (s.dn t)):=a1I ht;have hbf:gt Ar.std (cL 2) (wBf P s) (t:Int)=some (qD (s.bf t)):=a1I ht;have hact:=hv.act t i hi;have h7:=hw.le7 hv t;generalize hga:aAt (thr P t) i=a at ha hact;unfold a5m;dsimp only;refine bt (a1G (a0w ht)) (cnT (by simp;omega) (bt (v:=(wDn P (a7a k P s t i),wBf P (a7a k P s t i))) (bt (a0R ha) ?_) (by rw [wS (by omega)])));by_cases hgo:a2G k (thr P t) (s.t t) i/\silent k a
 ·have hbt:b=true:=hb.2 hgo.1;subst hbt;refine bt (v:=false) (bt e1 (cnT rfl ?_)) (cnF rfl (bt hdn (bck ez (bck (by rw [b0U];exact el hi) (bt (b5M hi) ?_)))))
  ·show (bif decide (a.1=1) then _ else _)=_
   rcases hgo.2 with h3 | ⟨h3,hk⟩
   ·refine cnF (by simp [h3]) ?_;show (bif decide (a.1=2) then _ else _)=_
    exact cnF (by simp [h3]) rfl
   refine cnF (by simp [h3]) ?_;show (bif decide (a.1=2) then _ else _)=_
   exact cnT (by simp [h3]) (by subst hk;rfl)
  rw [b0e hgo.1 (by rw [hga];exact hgo.2)];have ed:wDn P (doA k P s t i)=wDn P { s with dn:=fup s.dn t (fup (s.dn t) i true) }:=rfl
  rw [b4s,ed];refine bt (v:=wBf P (doA k P s t i)) ?_ rfl;show (bif decide (a.1=2) then _ else _)=_
  rcases hgo.2 with h3 | ⟨h3,hk⟩
  ·refine cnF (by simp [h3]) ?_;have:(doA k P s t i).bf=s.bf:=by
    simp only [doA];rw [if_neg (by rw [hga];omega)]
   unfold wBf;rw [this]
  refine cnT (by simp [h3]) (bt hbf (bt (c2k (e:=(a.2.1,a.2.2)) (by omega)) ?_));rw [b4t];have:(doA k P s t i).bf=fup s.bf t (s.bf t++[(a.2.1,a.2.2)]):=by
   simp only [doA];rw [if_pos (by rw [hga];exact ⟨h3,hk⟩),hga]
  unfold wBf;rw [this]
 rw [b0f (by rw [hga];exact hgo)];refine bt (v:=true) (bt e1 ?_) (cnT rfl rfl);cases b with
 | false=>exact cnF rfl rfl
 | true =>
   have hm:=hb.1 rfl;have hns : ¬ silent k a:=fun h=>hgo ⟨hm,h⟩;refine cnT rfl ?_;show (bif decide (a.1=1) then _ else _)=_
   rcases a2I hact with h | h | h
   ·exact cnT (by simp [h.1]) rfl
   ·refine cnF (by simp [h.1]) ?_;show (bif decide (a.1=2) then _ else _)=_
    refine cnT (by simp [h.1]) ?_;have hk : ¬ k=2:=fun hk=>hns (.inr ⟨h.1,hk⟩);have:decide ((k:Int)=2)=false:=by simp;omega
    show some (!(decide ((k:Int)=2)))=_;rw [this];rfl
   exact absurd (.inl (by rw [h])) hns
theorem b0h {P:Pg} (hv:VP P) {k:Nat} {s:AS} (hw:Wl P s) (c0 c1 c2:Int) (R:List D) :
  b5Y Ar.std (eP P) (k:Int) c0 c1 c2 (wDn P s) R (wBf P s)=some (wDn P (nrm k P s),wBf P (nrm k P s))/\Wl P (nrm k P s):=by
 have hn3:=hv.n3;have el0:Ar.std.len (eP P)=(P.length:Int):=by simp
 have inner : ∀ (u:AS),Wl P u -> ∀ t,t<P.length->iter (a5m Ar.std (eP P) (k:Int) c0 c1 c2 R (t:Int)) (0,wDn P u,wBf P u) =
   some (wDn P ((List.range (thr P t).length).foldl (fun u i=>a7a k P u t i) u),wBf P ((List.range (thr P t).length).foldl (fun u i=>a7a k P u t i) u))/\Wl P ((List.range (thr P t).length).foldl (fun u i=>a7a k P u t i) u):=by
  intro u hu t ht;have hl7:=hv.l7 t;have key:=a0M (step:=a5m Ar.std (eP P) (k:Int) c0 c1 c2 R (t:Int)) (thr P t).length (fun (x:AS) (i:Nat)=>((i:Int),wDn P x,wBf P x)) (fun i x=>x=(List.range i).foldl (fun u i=>a7a k P u t i) u/\Wl P x) (fun x=>(wDn P x,wBf P x))
   (fun i x hi hR=>by
    obtain ⟨rfl,hx⟩:=hR;refine ⟨a7a k P ((List.range i).foldl (fun u i=>a7a k P u t i) u) t i,⟨?_,hx.sil hv hi⟩,b0g hv hx ht hi c0 c1 c2 R⟩;rw [List.range_succ,List.foldl_append];rfl)
   (fun x hR=>by
    unfold a5m;dsimp only;exact bt (a1G (a0w ht)) (cnF (by simp) rfl)) u ⟨rfl,hu⟩
  obtain ⟨x,⟨rfl,hx⟩,h⟩:=key;exact ⟨h,hx⟩
 have key:=a0M (step:=a6w Ar.std (eP P) (k:Int) c0 c1 c2 R) P.length (fun (x:AS) (i:Nat)=>((i:Int),wDn P x,wBf P x)) (fun i x=>x=nrU k P s i/\Wl P x) (fun x=>(wDn P x,wBf P x))
  (fun i x hi hR=>by
   obtain ⟨rfl,hx⟩:=hR;obtain ⟨e,hx2⟩:=inner _ hx i hi;rw [<-b0V] at e hx2;refine ⟨nrU k P s (i+1),⟨rfl,hx2⟩,?_⟩;unfold a6w;dsimp only;exact cnT (by rw [el0];exact el hi) (bt e (by rw [wS (by omega)])))
  (fun x hR=>by
   unfold a6w;dsimp only;exact cnF (by rw [el0];simp) rfl) s ⟨rfl,hw⟩
 obtain ⟨x,⟨rfl,hx⟩,h⟩:=key;rw [b4w] at h hx;refine ⟨?_,hx⟩;unfold b5Y;exact bt (show iter (a6w Ar.std (eP P) (k:Int) c0 c1 c2 R) (0,wDn P s,wBf P s)=_ from h) rfl
theorem b0W {k n:Nat} {m:Nat->List D}:(a2K k n m).length=n:=by unfold a2K;simp
theorem b5N {k n:Nat} {m:Nat->List D} {i:Nat} (h:i<n):(a2K k n m)[i]?=some (.list k (m i)):=by
 unfold a2K;rw [List.getElem?_map,List.getElem?_range h];rfl
theorem a4H {k n:Nat} {m:Nat->List D} {i:Nat} (h:i<n) (hn:n<=100):ap Ar.std ((a2K k n m).take i) [D.list k (m i)]=some ((a2K k n m).take (i+1)):=by
 rw [b0D (by rw [List.length_take,b0W];simp;omega),a0n (b5N h)]
theorem a2L {k n:Nat} {m:Nat->List D}:(a2K k n m).take n=a2K k n m:=List.take_of_length_le (by rw [b0W];exact Nat.le_refl _)
theorem ap0 {l:List D} (h:l.length<=100):ap Ar.std [] l=some l:=by
 rw [b0D (by first | (simp;done) | (simp;omega))];rfl
theorem c0y {n:Nat} {f:Nat->Bool}:(bD n f).length=n:=by unfold bD enc;simp
theorem c0z {n:Nat} {f:Nat->Int}:(iD n f).length=n:=by unfold iD a0q enc;simp
theorem b4x {l:List (Int×Int)}:(qD l).length=l.length:=by unfold qD enc;simp
section
variable {P:Pg} (hv:VP P) {k:Nat} {s:AS}
include hv
theorem b4y (hw:Wl P s) (kz c0 c1 c2:Int):b8G Ar.std (eP P) kz c0 c1 c2 (wDn P s) (wRd P s) (wBf P s)=some (eP P,kz,c0,c1,c2,wDn P s,wRd P s,wBf P s):=by
 have hn3:=hv.n3;have el0:Ar.std.len (eP P)=(P.length:Int):=by simp
 have key:=a0M (step:=a6y Ar.std (eP P) (wDn P s) (wRd P s) (wBf P s)) P.length (fun (_:Unit) (i:Nat)=>((i:Int),(wDn P s).take i,(wRd P s).take i,(wBf P s).take i)) (fun _ _=>True) (fun _=>(wDn P s,wRd P s,wBf P s))
  (fun i _ hi _=>by
   refine ⟨(),trivial,?_⟩;have hl7:=hv.l7 i;have h7:=hw.le7 hv i;unfold a6y;dsimp only;refine cnT (by rw [el0];exact el hi) (bt (a1I (m:=fun t=>bD (thr P t).length (s.dn t)) hi) (bt (ap0 (by rw [c0y];omega)) (bt (a4H (m:=fun t=>bD (thr P t).length (s.dn t)) hi (by omega)) (bt (a1I (m:=fun t=>iD (thr P t).length (s.rd t)) hi) (bt (ap0 (by rw [c0z];omega)) (bt (a4H (m:=fun t=>iD (thr P t).length (s.rd t)) hi (by omega)) (bt (a1I (m:=fun t=>qD (s.bf t)) hi) (bt (ap0 (by rw [b4x];omega)) (bt (a4H (m:=fun t=>qD (s.bf t)) hi (by omega)) ?_)))))))));rw [wS (by omega)];rfl)
  (fun _ _=>by
   unfold a6y;dsimp only;refine cnF (by rw [el0];simp) ?_;unfold wDn wRd wBf;rw [a2L,a2L,a2L]) () trivial
 obtain ⟨_,_,h⟩:=key;unfold b8G;exact bt (show iter (a6y Ar.std (eP P) (wDn P s) (wRd P s) (wBf P s)) (0,[],[],[])=_ from h) rfl
theorem b8j:b9a Ar.std (eP P) (k:Int)=some (eP P,(k:Int),wDn P (nrm k P AS.init),wRd P (nrm k P AS.init),wBf P (nrm k P AS.init))/\Wl P (nrm k P AS.init):=by
 have hn3:=hv.n3;have el0:Ar.std.len (eP P)=(P.length:Int):=by simp
 have key:=a0M (step:=a6x Ar.std (eP P)) P.length (fun (_:Unit) (i:Nat)=>((i:Int),(wDn P AS.init).take i,(wRd P AS.init).take i,(wBf P AS.init).take i)) (fun _ _=>True) (fun _=>(wDn P AS.init,wRd P AS.init,wBf P AS.init))
  (fun i _ hi _=>by
   refine ⟨(),trivial,?_⟩;have hl7:=hv.l7 i;have e0:Ar.std.len (eT (thr P i))=((thr P i).length:Int):=by simp
   have r1:Ar.std.rep ((thr P i).length:Int) (.bool false)=bD (thr P i).length (AS.init.dn i):=by
    show List.replicate (thr P i).length (D.bool false)=_;unfold bD enc AS.init;rw [List.map_map];apply List.ext_getElem?;intro j;rw [List.getElem?_replicate,List.getElem?_map];by_cases hj:j<(thr P i).length
    ·rw [if_pos hj,List.getElem?_range hj];rfl
    rw [if_neg hj,List.getElem?_eq_none (by first | (simp;done) | (simp;omega))];rfl
   have r2:Ar.std.rep ((thr P i).length:Int) (.int .i64 0)=iD (thr P i).length (AS.init.rd i):=by
    show List.replicate (thr P i).length (D.int .i64 0)=_;unfold iD a0q enc AS.init;rw [List.map_map];apply List.ext_getElem?;intro j;rw [List.getElem?_replicate,List.getElem?_map];by_cases hj:j<(thr P i).length
    ·rw [if_pos hj,List.getElem?_range hj];rfl
    rw [if_neg hj,List.getElem?_eq_none (by first | (simp;done) | (simp;omega))];rfl
   unfold a6x;dsimp only;refine cnT (by rw [el0];exact el hi) (bt (a1G (a0w hi)) ?_);rw [e0,r1,r2];refine bck (by simp) (bck ez (bck (by rw [a7v,decide_eq_true_eq];omega) (bt (a4H (m:=fun t=>bD (thr P t).length (AS.init.dn t)) hi (by omega)) (bck (by simp) (bck ez (bck (by rw [a7v,decide_eq_true_eq];omega) (bt (a4H (m:=fun t=>iD (thr P t).length (AS.init.rd t)) hi (by omega)) (bt (a4H (m:=fun t=>qD (AS.init.bf t)) hi (by omega)) ?_))))))));rw [wS (by omega)];rfl)
  (fun _ _=>by
   unfold a6x;dsimp only;refine cnF (by rw [el0];simp) ?_;unfold wDn wRd wBf;rw [a2L,a2L,a2L]) () trivial
 obtain ⟨_,_,h⟩:=key;obtain ⟨e2,hw⟩:=b0h hv (k:=k) (Wl.init P) 0 0 0 (wRd P AS.init);refine ⟨?_,hw⟩;unfold b9a;exact bt (show iter (a6x Ar.std (eP P)) (0,[],[],[])=_ from h) (bt e2 rfl)
theorem c0A {c0 c1 c2:Int} {f:Int->Int} (h0:f 0=c0) (h1:f 1=c1) (h2:f 2=c2) {c:Int} (h:0<=c/\c<=2):gc Ar.std (cI .i64) [(.int .i64 c0),(.int .i64 c1),(.int .i64 c2)] (Ar.std.nat c)=some (f c):=by
 obtain rfl | rfl | rfl:c=0\/c=1\/c=2:=by omega
 ·rw [h0];rfl
 ·rw [h1];rfl
 rw [h2];rfl
theorem b8k (hw:Wl P s) {t:Nat} (ht:t<P.length) {c:Int} (hc:0<=c/\c<=2) (X:List D) (kz:Int) (Y Z:List D):b9b Ar.std (t:Int) c X kz (s.ce 0) (s.ce 1) (s.ce 2) Y Z (wBf P s)=some (sn s t c):=by
 have hbf:gt Ar.std (cL 2) (wBf P s) (t:Int)=some (qD (s.bf t)):=a1I ht;have h7:=hw.le7 hv t;have key:=a0M (step:=a6z Ar.std (t:Int) c (wBf P s)) (s.bf t).length (fun (_:Unit) (i:Nat)=>(((s.bf t).take i).foldl (fun v e=>if e.1=c then e.2 else v) (s.ce c),(i:Int))) (fun _ _=>True) (fun _=>sn s t c)
  (fun i _ hi _=>by
   refine ⟨(),trivial,?_⟩;have hx:=zp1 hi;generalize (s.bf t)[i]=x at hx;have hg:gc Ar.std cEn (qD (s.bf t)) (Ar.std.nat (i:Int))=some x:=a8V (i:=i) hx;unfold a6z;dsimp only;refine bt hbf (cnT (by rw [a6e];exact el hi) (bt hbf (bck ez (bck (by rw [a6e];exact el hi) (bt hg (bt (v:=if x.1=c then x.2 else ((s.bf t).take i).foldl (fun v e=>if e.1=c then e.2 else v) (s.ce c)) ?_ ?_))))))
   ·show (bif decide (x.1=c) then _ else _)=_
    by_cases h:x.1=c
    ·rw [decide_eq_true h,if_pos h];exact cnT rfl (bt hbf (bck ez (bck (by rw [a6e];exact el hi) (bt hg rfl))))
    rw [decide_eq_false h,if_neg h];exact cnF rfl rfl
   rw [a0n hx,List.foldl_append,wS (by omega)];rfl)
  (fun _ _=>by
   unfold a6z;dsimp only;refine bt hbf (cnF (by rw [a6e];simp) ?_);rw [List.take_length];rfl) () trivial
 obtain ⟨_,_,h⟩:=key;unfold b9b;exact bck (by first | (simp;done) | (simp;omega)) (bck (by first | (simp;done) | (simp;omega)) (bt (c0A hv rfl rfl rfl hc) (bt (show iter (a6z Ar.std (t:Int) c (wBf P s)) (s.ce c,0)=_ from h) rfl)))
theorem b0X {f:Int->Int} {c v:Int} (d:Int):(bif decide (c=d) then v else f d)=fup f c v d:=by
 unfold fup;by_cases h:c=d
 ·rw [decide_eq_true h,if_pos h.symm];rfl
 rw [decide_eq_false h,if_neg (Ne.symm h)];rfl
theorem b8l (hw:Wl P s) {t i:Nat} (ht:t<P.length) (hi:i<(thr P t).length) (hm:a2G k (thr P t) (s.t t) i) (hs : ¬ silent k (aAt (thr P t) i)) :
  b8H Ar.std (t:Int) (i:Int) (eP P) (k:Int) (s.ce 0) (s.ce 1) (s.ce 2) (wDn P s) (wRd P s) (wBf P s)=some (eP P,(k:Int),(nrm k P (doA k P s t i)).ce 0,(nrm k P (doA k P s t i)).ce 1,(nrm k P (doA k P s t i)).ce 2,wDn P (nrm k P (doA k P s t i)),wRd P (nrm k P (doA k P s t i)),wBf P (nrm k P (doA k P s t i)))/\Wl P (nrm k P (doA k P s t i)):=by
 have hact:=hv.act t i hi;have ha:=a1k hi;have hw1:=hw.doA hv (k:=k) hi hm.1;have hdn:gt Ar.std (cL 1) (wDn P s) (t:Int)=some (bD (thr P t).length (s.dn t)):=a1I ht;have hrd:gt Ar.std (cL 1) (wRd P s) (t:Int)=some (iD (thr P t).length (s.rd t)):=a1I ht;have hb0:(doA k P s t i).bf=s.bf:=by
  simp only [doA];rw [if_neg (fun h=>hs (.inr h))]
 have edn:wDn P { s with dn:=fup s.dn t (fup (s.dn t) i true) }=wDn P (doA k P s t i):=rfl
 have ebf:wBf P s=wBf P (doA k P s t i):=by unfold wBf;rw [hb0]
 obtain ⟨e2,hw2⟩:=b0h hv (k:=k) hw1 ((doA k P s t i).ce 0) ((doA k P s t i).ce 1) ((doA k P s t i).ce 2) (wRd P (doA k P s t i));refine ⟨?_,hw2⟩;unfold b8H;refine bt (b4y hv hw (k:Int) (s.ce 0) (s.ce 1) (s.ce 2)) (bt (a1G (a0w ht)) (bt (a0R ha) (bt hdn (bck ez (bck (by rw [b0U];exact el hi) (bt (b5M hi) (bt (v:=((doA k P s t i).ce 0,(doA k P s t i).ce 1,(doA k P s t i).ce 2,wRd P (doA k P s t i))) ?_ ?_)))))))
 ·show (bif decide ((aAt (thr P t) i).1=1) then _ else _)=_
  rcases a2I hact with h | h | h
  ·refine cnT (by simp [h.1]) (bt hrd (bt (b8k hv hw ht ⟨h.2.1,h.2.2.1⟩ _ _ _ _) (bck ez (bck (by rw [b6K];exact el hi) (bt (c0x hi) ?_)))));rw [b8i];have h1:(doA k P s t i).ce=s.ce:=by simp only [doA];rw [if_neg (by rw [h.1];simp)]
   have h2:(doA k P s t i).rd=fup s.rd t (fup (s.rd t) i (sn s t (aAt (thr P t) i).2.1)):=by simp only [doA];rw [if_pos h.1]
   rw [h1];unfold wRd;rw [h2]
  ·have hk : ¬ k=2:=fun hk=>hs (.inr ⟨h.1,hk⟩);have h1:(doA k P s t i).ce=fup s.ce (aAt (thr P t) i).2.1 (aAt (thr P t) i).2.2:=by simp only [doA];rw [if_pos ⟨h.1,hk⟩]
   have h2:(doA k P s t i).rd=s.rd:=by simp only [doA];rw [if_neg (by rw [h.1];decide)]
   refine cnF (by simp [h.1]) (bck (by rw [a5M,decide_eq_true_eq];exact h.2.1) (bck (by rw [a3h,decide_eq_true_eq];exact Int.lt_of_le_of_lt h.2.2.1 (by decide)) ?_));rw [h1];have e3:wRd P s=wRd P (doA k P s t i):=by unfold wRd;rw [h2]
   rw [<-e3,<-b0X hv 0,<-b0X hv 1,<-b0X hv 2];rfl
  exact absurd (.inl (by rw [h])) hs
 rw [b4s,edn,ebf];exact bt e2 rfl
theorem b8m (hw:Wl P s) {t:Nat} (ht:t<P.length) (hb:s.bf t≠[]) :
  b8I Ar.std (t:Int) (eP P) (k:Int) (s.ce 0) (s.ce 1) (s.ce 2) (wDn P s) (wRd P s) (wBf P s)=some (eP P,(k:Int),(nrm k P (outB s t)).ce 0,(nrm k P (outB s t)).ce 1,(nrm k P (outB s t)).ce 2,wDn P (nrm k P (outB s t)),wRd P (nrm k P (outB s t)),wBf P (nrm k P (outB s t)))/\Wl P (nrm k P (outB s t)):=by
 have hbf:gt Ar.std (cL 2) (wBf P s) (t:Int)=some (qD (s.bf t)):=a1I ht;have h7:=hw.le7 hv t;have hw1:=hw.outB t;obtain ⟨e2,hw2⟩:=b0h hv (k:=k) hw1 ((outB s t).ce 0) ((outB s t).ce 1) ((outB s t).ce 2) (wRd P (outB s t));refine ⟨?_,hw2⟩;have hcell:=hw.cell t;cases hq:s.bf t with
 | nil=>exact absurd hq hb
 | cons x r =>
   rw [hq] at hbf hcell h7;have hc:=hcell x (List.mem_cons_self ..);have eo:outB s t={ s with bf:=fup s.bf t r,ce:=fup s.ce x.1 x.2 }:=by unfold outB;rw [hq]
   have hg:gc Ar.std cEn (qD (x::r)) (Ar.std.nat 0)=some x:=rfl;have elq:Ar.std.len (qD (x::r))=((r.length+1:Nat):Int):=by rw [a6e];rfl
   have hsub:Ar.std.sub (qD (x::r)) 1 (Ar.std.zadd 1 (Ar.std.zsub ((r.length+1:Nat):Int) 1))=qD r:=by
    simp only [a7w,a0k,a0C];show ((qD (x::r)).drop 1).take _=_;have e3:(qD (x::r)).drop 1=qD r:=rfl;rw [e3];exact List.take_of_length_le (by rw [b4x];omega)
   unfold b8I;refine bt (b4y hv hw (k:Int) (s.ce 0) (s.ce 1) (s.ce 2)) (bt hbf ?_);rw [elq];refine bck (by first | (simp;done) | (simp;omega)) (bt hg (bck (by first | (simp;done) | (simp;omega)) (bck (by first | (simp;done) | (simp;omega)) (bt hbf ?_))))
   rw [elq,hsub];refine bck (by simp) (bck (by first | (simp;done) | (simp;omega)) (bck (by first | (simp;done) | (simp;omega)) (bck (by first | (simp;done) | (simp;omega)) (bt (ap0 (by rw [b4x];simp at h7;omega)) (bck ez (bck (by unfold wBf;rw [b5L];exact el ht) ?_))))))
   rw [b4t];have e4:wBf P { s with bf:=fup s.bf t r }=wBf P (outB s t):=by rw [eo];rfl
   have e5:wDn P s=wDn P (outB s t):=by rw [eo];rfl
   have e6:wRd P s=wRd P (outB s t):=by rw [eo];rfl
   have e7 : ∀ d:Int,(bif Ar.std.zeq x.1 d then x.2 else s.ce d)=(outB s t).ce d:=by
    intro d;rw [eo];exact b0X hv d
   rw [e4,e5,e6];have e8:=e7 0;have e9:=e7 1;have e10:=e7 2
   show ((b5Y Ar.std (eP P) (k:Int) (bif Ar.std.zeq x.1 0 then x.2 else s.ce 0) (bif Ar.std.zeq x.1 1 then x.2 else s.ce 1) (bif Ar.std.zeq x.1 2 then x.2 else s.ce 2) (wDn P (outB s t)) (wRd P (outB s t)) (wBf P (outB s t))).bind fun (r66,r67) =>
    some (eP P,(k:Int),(bif Ar.std.zeq x.1 0 then x.2 else s.ce 0),(bif Ar.std.zeq x.1 1 then x.2 else s.ce 1),(bif Ar.std.zeq x.1 2 then x.2 else s.ce 2),r66,wRd P (outB s t),r67))=_
   rw [e8,e9,e10];exact bt e2 rfl
theorem b1X (l:List Ac) (r:Nat->Int):(reads l r).length<=l.length:=by
 unfold reads;have:=List.length_filterMap_le (fun i=>if (aAt l i).1=1 then some (r i) else none) (List.range l.length)
 simpa using this
theorem a7b (n:Nat):((List.range n).flatMap fun t=>reads (thr P t) (s.rd t)).length<=7*n:=by
 induction n with
 | zero=>simp
 | succ n ih =>
   rw [List.range_succ,List.flatMap_append,List.length_append];have h1:=b1X hv (thr P n) (s.rd n);have h2:=hv.l7 n;simp only [List.flatMap_cons,List.flatMap_nil,List.append_nil];omega
theorem b6L {l:List Int} (x:Int) (h:l.length<=1000):ap Ar.std (a0q l) [D.int .i64 x]=some (a0q (l++[x])):=a5N rfl (by omega)
theorem b8n (kz:Int) (X Y:List D):b9c Ar.std (eP P) kz (s.ce 0) (s.ce 1) (s.ce 2) X (wRd P s) Y=some (a0q (a8c P s)):=by
 have hn3:=hv.n3;have el0:Ar.std.len (eP P)=(P.length:Int):=by simp
 have inner : ∀ (acc:List Int),acc.length<=100 -> ∀ t,t<P.length->iter (a6A Ar.std (eP P) (wRd P s) (t:Int)) (a0q acc,0)=some (a0q (acc++reads (thr P t) (s.rd t))):=by
  intro acc hacc t ht;have hl7:=hv.l7 t;have hrd:gt Ar.std (cL 1) (wRd P s) (t:Int)=some (iD (thr P t).length (s.rd t)):=a1I ht;let f:Nat->Option Int:=fun i=>if (aAt (thr P t) i).1=1 then some (s.rd t i) else none
  have key:=a0M (step:=a6A Ar.std (eP P) (wRd P s) (t:Int)) (thr P t).length (fun (_:Unit) (i:Nat)=>(a0q (acc++(List.range i).filterMap f),(i:Int))) (fun _ _=>True) (fun _=>a0q (acc++(List.range (thr P t).length).filterMap f))
   (fun i _ hi _=>by
    refine ⟨(),trivial,?_⟩;have ha:=a1k hi;have hfl:((List.range i).filterMap f).length<=i:=by
     have:=List.length_filterMap_le f (List.range i);simpa using this
    have hf:f i=if (aAt (thr P t) i).1=1 then some (s.rd t i) else none:=rfl
    generalize aAt (thr P t) i=a at ha hf;unfold a6A;dsimp only;refine bt (a1G (a0w ht)) (cnT (by first | (simp;done) | (simp;omega)) (bt (a0R ha) (bt (v:=a0q (acc++(List.range (i+1)).filterMap f)) ?_ (by rw [wS (by omega)]))))
    rw [List.range_succ,List.filterMap_append];show (bif decide (a.1=1) then _ else _)=_
    by_cases h1:a.1=1
    ·rw [if_pos h1] at hf;rw [decide_eq_true h1];refine cnT rfl (bt hrd (bck ez (bck (by rw [b6K];exact el hi) (bt (c0x hi) (bt (b6L hv _ (by first | (simp;done) | (simp;omega))) ?_)))))
     rw [List.append_assoc];simp [hf]
    rw [if_neg h1] at hf;rw [decide_eq_false h1];refine cnF rfl ?_;simp [hf])
   (fun _ _=>by
    unfold a6A;dsimp only;exact bt (a1G (a0w ht)) (cnF (by simp) rfl)) () trivial
  obtain ⟨_,_,h⟩:=key;have e:a0q (acc++(List.range 0).filterMap f)=a0q acc:=by simp
  rw [e] at h;exact h
 have key:=a0M (step:=a6B Ar.std (eP P) (wRd P s)) P.length (fun (_:Unit) (i:Nat)=>(a0q ((List.range i).flatMap fun t=>reads (thr P t) (s.rd t)),(i:Int))) (fun _ _=>True) (fun _=>a0q ((List.range P.length).flatMap fun t=>reads (thr P t) (s.rd t)))
  (fun i _ hi _=>by
   refine ⟨(),trivial,?_⟩;have h1:=a7b hv (s:=s) i;unfold a6B;dsimp only;refine cnT (by rw [el0];exact el hi) (bt (inner _ (by omega) i hi) ?_);rw [List.range_succ,List.flatMap_append,wS (by omega)];simp)
  (fun _ _=>by
   unfold a6B;dsimp only;exact cnF (by rw [el0];simp) rfl) () trivial
 obtain ⟨_,_,h⟩:=key;have h1:=a7b hv (s:=s) P.length;have hend:a8c P s=((List.range P.length).flatMap fun t=>reads (thr P t) (s.rd t))++[s.ce 0,s.ce 1,s.ce 2]:=rfl;generalize ((List.range P.length).flatMap fun t=>reads (thr P t) (s.rd t))=L at h h1 hend;have step : ∀ (c:Int) (M:List Int),0<=c/\c<=2->M.length<=100->a6C Ar.std (s.ce 0) (s.ce 1) (s.ce 2) (a0q M,c)=some (.inl (a0q (M++[s.ce c]),c+1)):=by
  intro c M hc hM;unfold a6C;dsimp only;refine cnT (by first | (simp;done) | (simp;omega)) (bck (by first | (simp;done) | (simp;omega)) (bck (by first | (simp;done) | (simp;omega)) (bt (c0A hv rfl rfl rfl hc) (bt (b6L hv _ (by omega)) ?_))))
  have:Ar.std.wrp .i64 (Ar.std.zadd c 1)=c+1:=by simp only [a0i,a0k];exact a2Y _ (by omega) (by omega)
  rw [this]
 have k2:iter (a6C Ar.std (s.ce 0) (s.ce 1) (s.ce 2)) (a0q L,0)=some (a0q (a8c P s)):=by
  rw [hend];have e:L++[s.ce 0,s.ce 1,s.ce 2]=((L++[s.ce 0])++[s.ce 1])++[s.ce 2]:=by simp
  rw [e];refine (a1d (step 0 L (by omega) (by omega))).trans ((a1d (step 1 _ (by omega) (by first | (simp;done) | (simp;omega)))).trans ((a1d (step 2 _ (by omega) (by first | (simp;done) | (simp;omega)))).trans (a0E ?_)))
  unfold a6C;exact cnF rfl rfl
 unfold b9c;exact bt (show iter (a6B Ar.std (eP P) (wRd P s)) ([],0)=_ from h) (bt k2 rfl)
end
def b8o (l:List (List Int)) (p:Nat) (x:List Int):List (List Int):=l.take p++x::l.drop p
structure Spot (l:List (List Int)) (x:List Int) (p:Nat):Prop where
 le:p<=l.length
 lo : ∀ j y,l[j]?=some y->j<p->ltL y x
 hi : ∀ j y,l[j]?=some y->p<=j -> ¬ ltL y x
theorem a4I {t:List (List Int)} {i:Nat} {r:List Int} (h:t[i]?=some r):gc Ar.std (cL 1) (a0D t) (Ar.std.nat (i:Int))=some (a0q r):=by
 have h2:(t.map (enc (cI .i64)))[i]?=some (a0q r):=by rw [List.getElem?_map,h];rfl
 exact a8V (i:=i) h2
theorem b8p {a b:Nat} (h:a<b) (hb:b<=5000000):Ar.std.quo .i64 (Ar.std.wrp .i64 (Ar.std.zadd (a:Int) (b:Int))) 2=(((a+b) / 2:Nat):Int):=by
 have e:Ar.std.wrp .i64 (Ar.std.zadd (a:Int) (b:Int))=((a+b:Nat):Int):=by
  simp only [a0i,a0k];rw [a2Y _ (by omega) (by omega)];omega
 rw [e];show IntKind.i64.wrap (((a+b:Nat):Int).tdiv 2)=_;have e2:((a+b:Nat):Int).tdiv 2=(((a+b) / 2:Nat):Int):=rfl;rw [e2];exact a2Y _ (by omega) (by omega)
theorem b4z {l:List (List Int)} {x:List Int} (hl:l.length<=5000000) (hs:SS l) (sl : ∀ y∈l,SmL y) (sx:SmL x) :
  ∃ p,iter (a5n Ar.std (a0q x) (a0D l)) (0,(l.length:Int))=some ((p:Nat):Int)/\Spot l x p:=by
 have key:=b7w (step:=a5n Ar.std (a0q x) (a0D l)) (fun s => ∃ a b:Nat,s=((a:Int),(b:Int))/\a<=b/\b<=l.length/\(∀ j y,l[j]?=some y->j<a->ltL y x) /\ ∀ j y,l[j]?=some y->b<=j -> ¬ ltL y x) (fun s=>(s.2-s.1).toNat) (fun r => ∃ p:Nat,r=(p:Int)/\Spot l x p)
  (fun s hI=>by
   obtain ⟨a,b,rfl,hab,hbl,hlo,hhi⟩:=hI;by_cases hlt:a<b
   ·left;have em:=b8p hlt (by omega);obtain ⟨m,hm⟩ : ∃ m,m=(a+b) / 2:=⟨_,rfl⟩;rw [<-hm] at em;have hm1:a<=m:=by omega
    have hm2:m<b:=by omega
    obtain ⟨y,hg⟩ : ∃ y,l[m]?=some y:=⟨_,zp1 (by omega)⟩;have hmem:=List.mem_of_getElem? hg;have sy:=sl y hmem;have ec:M30 Ar.std (a0q y) (a0q x)=some (a7N y x):=b3X sy.1 sx.1 sy.2 sx.2;have pre : ∀ {r},((bif Ar.std.zlt (a7N y x) 0 then some (Ar.std.wrp .i64 (Ar.std.zadd (m:Int) 1),(b:Int)) else some ((a:Int),(m:Int)):Option (Int×Int)).bind fun (v34,v35)=>some (.inl (v34,v35)))=r->a5n Ar.std (a0q x) (a0D l) ((a:Int),(b:Int))=r:=by
     intro r hr;unfold a5n;dsimp only;rw [em];exact cnT (by simp;omega) (bnk rfl (bck ez (bck (by rw [a1U];exact el (by omega)) (bt (a4I hg) (bt ec hr)))))
    by_cases hc:ltL y x
    ·have hc':a7N y x<0:=a5V.1.2 hc;refine ⟨(((m+1:Nat):Int),(b:Int)),pre (bt (cnT (by rw [a3h,decide_eq_true_eq];exact hc') rfl) ?_),⟨m+1,b,rfl,by omega,hbl,fun j z hz hj => ?_,hhi⟩,?_⟩
     ·have:Ar.std.wrp .i64 (Ar.std.zadd (m:Int) 1)=((m+1:Nat):Int):=by simp only [a0i,a0k];exact a1Y (n:=5000001) (by omega) (by omega)
      rw [this]
     ·rcases Nat.lt_or_ge j m with h | h
      ·have hjl:j<l.length:=(zp2.1 hz).1;have:=List.pairwise_iff_getElem.1 hs j m hjl (by omega) h;rw [zp1 hjl] at hz;rw [zp1 (by omega)] at hg;rw [Option.some.inj hz,Option.some.inj hg] at this;exact a3D this hc
      obtain rfl:j=m:=by omega
      rw [hz] at hg;cases hg;exact hc
     simp only;omega
    have hc' : ¬ a7N y x<0:=fun h=>hc (a5V.1.1 h);refine ⟨((a:Int),(m:Int)),pre (bt (cnF (by rw [a3h,decide_eq_false_iff_not];exact hc') rfl) rfl),⟨a,m,rfl,hm1,by omega,hlo,fun j z hz hj => ?_⟩,?_⟩
    ·rcases Nat.lt_or_ge m j with h | h
     ·have hjl:j<l.length:=(zp2.1 hz).1;have:=List.pairwise_iff_getElem.1 hs m j (by omega) hjl h;rw [zp1 hjl] at hz;rw [zp1 (by omega)] at hg;rw [Option.some.inj hz,Option.some.inj hg] at this;exact fun h2=>hc (a3D this h2)
     obtain rfl:j=m:=by omega
     rw [hz] at hg;cases hg;exact hc
    simp only;omega
   right;obtain rfl:a=b:=by omega
   refine ⟨(a:Int),?_,a,rfl,⟨hbl,hlo,hhi⟩⟩;unfold a5n;dsimp only;exact cnF (by simp) rfl) ((0:Int),(l.length:Int)) ⟨0,l.length,rfl,Nat.zero_le _,Nat.le_refl _,fun j y _ hj=>by omega,fun j y hy hj=>by
    have:=(zp2.1 hy).1;omega⟩
 obtain ⟨r,h,p,rfl,hp⟩:=key;exact ⟨p,h,hp⟩
def mvL (l:List (List Int)) (i:Nat):List (List Int):=l.take i++l.getD i []::l.drop i
theorem b0i {l:List (List Int)} {i:Nat} (h:i<=l.length):(mvL l i).length=l.length+1:=by
 unfold mvL;simp only [List.length_append,List.length_take,List.length_cons,List.length_drop];omega
theorem b5O {l:List (List Int)} {i:Nat} (h:i<l.length):(mvL l (i+1)).set (i+1) (l.getD i [])=mvL l i:=by
 unfold mvL;have e1:(l.take (i+1)).length=i+1:=by rw [List.length_take];omega
 have e2:=set_mid (l.take (i+1)) (l.getD (i+1) []) (l.getD i []) (l.drop (i+1));rw [e1] at e2;rw [e2];have hg:l.getD i []=l[i]:=by rw [List.getD_eq_getElem?_getD,zp1 h];rfl
 rw [List.take_succ_eq_append_getElem h,hg,List.append_assoc];congr 1;rw [List.drop_eq_getElem_cons h];rfl
theorem b8q {l:List (List Int)} {i:Nat} (h:i<l.length):(mvL l (i+1))[i]?=some (l.getD i []):=by
 unfold mvL;rw [zp7 (by rw [List.length_take];omega),List.getElem?_take_of_lt (by omega),zp1 h,List.getD_eq_getElem?_getD,zp1 h];rfl
theorem b0Y {l:List (List Int)} {i:Nat} {x:List Int}:Ar.std.lset (a0D l) (Ar.std.nat (i:Int)) (.list 1 (a0q x))=a0D (l.set i x):=by
 show (a0D l).set i _=_;unfold a0D enc;rw [List.map_set,List.map_set];rfl
theorem b4A {l:List (List Int)} (hl:l.length<=5000000) {p:Nat} (hp:p<=l.length):iter (a6D Ar.std (p:Int)) ((l.length:Int),a0D (mvL l l.length))=some (a0D (mvL l p)):=by
 have key : ∀ d i,p+d=i->i<=l.length->iter (a6D Ar.std (p:Int)) ((i:Int),a0D (mvL l i))=some (a0D (mvL l p)):=by
  intro d
  induction d with
  | zero =>
    intro i hi hil;obtain rfl:p=i:=by omega
    refine a0E ?_;unfold a6D;dsimp only;exact cnF (by simp) rfl
  | succ d ih =>
    intro i hi hil;obtain ⟨j,rfl⟩ : ∃ j,i=j+1:=⟨i-1,by omega⟩;have hm:=b0i (l:=l) (i:=j+1) hil;have hsub:Ar.std.wrp .i64 (Ar.std.zsub ((j+1:Nat):Int) 1)=(j:Int):=by
     simp only [a0i,a0C];rw [a2Y _ (by omega) (by omega)];omega
    have hg:=b8q (l:=l) (i:=j) (by omega);have hg2:=zp1 (l:=mvL l (j+1)) (i:=j+1) (by omega);refine (a1d ?_).trans (ih j (by omega) (by omega));unfold a6D;dsimp only;rw [hsub];refine cnT (by simp;omega) (bck ez (bck (by rw [a1U];exact el (by omega)) (bt (a4I hg) (bck ez (bck (by rw [a1U];exact el (by omega)) (bt (a4I hg2) ?_))))));rw [b0Y,b5O (by omega)]
 exact key (l.length-p) l.length (by omega) (Nat.le_refl _)
theorem c0B {l:List (List Int)} (hs:SS l) {x:List Int} {p:Nat} (hp:Spot l x p) (hx:x∉l):SS (b8o l p x):=by
 unfold SS b8o;rw [List.pairwise_append,List.pairwise_cons];have hlo : ∀ y∈l.take p,ltL y x:=by
  intro y hy;obtain ⟨j,hj,rfl⟩:=List.mem_iff_getElem.1 hy;rw [List.length_take] at hj;rw [List.getElem_take];exact hp.lo j _ (zp1 (by omega)) (by omega)
 have hhi : ∀ y∈l.drop p,ltL x y:=by
  intro y hy;have hym:=List.mem_of_mem_drop hy;obtain ⟨j,hj,rfl⟩:=List.mem_iff_getElem.1 hy;rw [List.length_drop] at hj;rw [List.getElem_drop] at hym ⊢;have h1:=hp.hi (p+j) _ (zp1 (by omega)) (by omega);refine Classical.byContradiction fun h2=>hx ?_;have e:=a4D h1 h2;rw [<-e];exact hym
 refine ⟨hs.sublist (List.take_sublist _ _),⟨hhi,hs.sublist (List.drop_sublist _ _)⟩,fun a ha b hb => ?_⟩;rcases List.mem_cons.1 hb with rfl | hb
 ·exact hlo a ha
 exact a3D (hlo a ha) (hhi b hb)
theorem b8r {l:List (List Int)} {p:Nat} {x y:List Int}:y∈b8o l p x↔y∈l\/y=x:=by
 unfold b8o;have:y∈l↔y∈l.take p\/y∈l.drop p:=by rw [<-List.mem_append,List.take_append_drop]
 rw [List.mem_append,List.mem_cons,this];constructor
 ·rintro (h | h | h)
  ·exact .inl (.inl h)
  ·exact .inr h
  exact .inl (.inr h)
 rintro ((h | h) | h)
 ·exact .inl h
 ·exact .inr (.inr h)
 exact .inr (.inl h)
theorem b8s {l:List (List Int)} {x:List Int} (hl:l.length<=4500000) (hs:SS l) (sl : ∀ y∈l,SmL y) (sx:SmL x) :
  ∃ l',b8J Ar.std (a0q x) (a0D l)=some (a0D l')/\SS l' /\ ∀ y,y∈l'↔y∈l\/y=x:=by
 obtain ⟨p,e1,hp⟩:=b4z (by omega) hs sl sx;have hle:=hp.le;have e0:Ar.std.len (a0D l)=(l.length:Int):=a1U l;by_cases hx:x∈l
 ·
  obtain ⟨j,hj,hjx⟩:=List.mem_iff_getElem.1 hx;have hgj:=zp1 hj;rw [hjx] at hgj;have hjp:p<=j:=Nat.le_of_not_lt fun h=>a2S x (hp.lo j x hgj h);have hpx:l[p]?=some x:=by
   rcases Nat.lt_or_eq_of_le hjp with h | h
   ·have hg:=zp1 (l:=l) (i:=p) (by omega);have h1:=List.pairwise_iff_getElem.1 hs p j (by omega) hj h;rw [hjx] at h1;exact absurd h1 (hp.hi p _ hg (Nat.le_refl _))
   rw [h];exact hgj
  refine ⟨l,?_,hs,fun y=>⟨.inl,fun h=>h.elim id (fun h=>h▸hx)⟩⟩;unfold b8J;rw [e0];refine bt e1 (bt (v:=true) ?_ (cnT rfl rfl));refine cnT (by simp;omega) (bck ez (bck (el (by omega)) (bt (a4I hpx) (bt (b3X sx.1 sx.1 sx.2 sx.2) ?_))));rw [a5V.2.2 rfl];rfl
 refine ⟨b8o l p x,?_,c0B hs hp hx,fun y=>b8r⟩;have hml:=b0i (l:=l) (i:=p) hle;have hins:(mvL l p).set p x=b8o l p x:=by
  unfold mvL b8o;have e1:(l.take p).length=p:=by rw [List.length_take];omega
  have e2:=set_mid (l.take p) (l.getD p []) x (l.drop p)
  rwa [e1] at e2
 have hg2:=zp1 (l:=mvL l p) (i:=p) (by omega);have eap:ap Ar.std (a0D l) [D.list 1 []]=some (a0D (mvL l l.length)):=by
  rw [b0D (by simp;omega)];unfold mvL a0D enc;rw [List.take_length,List.drop_length,List.map_append,List.map_append];have:l.getD l.length []=[]:=by rw [List.getD_eq_getElem?_getD,List.getElem?_eq_none (Nat.le_refl _)];rfl
  rw [this];rfl
 have el1:Ar.std.wrp .i64 (Ar.std.zsub (Ar.std.len (a0D (mvL l l.length))) 1)=(l.length:Int):=by
  rw [a1U,b0i (Nat.le_refl _)];simp only [a0i,a0C];rw [a2Y _ (by omega) (by omega)];omega
 unfold b8J;rw [e0];refine bt e1 (bt (v:=false) ?_ (cnF rfl (bt eap ?_)))
 ·by_cases hpl:p<l.length
  ·have hg:=zp1 hpl;have hm:=zp6 hpl;generalize l[p]=y at hg hm;have sy:=sl y hm;refine cnT (by simp;omega) (bck ez (bck (el hpl) (bt (a4I hg) (bt (b3X sy.1 sx.1 sy.2 sx.2) ?_))));have hne : ¬ a7N y x=0:=fun h=>hx ((a5V.2.1 h)▸hm);show some (decide (a7N y x=0))=_;rw [decide_eq_false hne]
  exact cnF (by simp;omega) rfl
 rw [el1];refine bt (b4A (by omega) hle) (bck ez (bck (by rw [a1U];exact el (by omega)) (bt (a4I hg2) ?_)));rw [b0Y,hins]
def b6M (k:Nat) (P:Pg) (s:AS) (x:List Int):Prop := ∃ u,RSts k P s u/\b0G P u/\a8c P u=x
section
variable {k:Nat} {P:Pg}
theorem RSts.head {s s1 u:AS} (h:RSt k P s s1) (h':RSts k P s1 u):RSts k P s u:=by
 induction h' with
 | refl=>exact .tail (.refl _) h
 | tail _ h2 ih=>exact .tail ih h2
theorem RSts.cases_head {s u:AS} (h:RSts k P s u):s=u \/ ∃ s1,RSt k P s s1/\RSts k P s1 u:=by
 induction h with
 | refl=>exact .inl rfl
 | tail h h2 ih =>
   rcases ih with rfl | ⟨s1,a,b⟩
   ·exact .inr ⟨_,h2,.refl _⟩
   exact .inr ⟨s1,a,.tail b h2⟩
theorem b0Z {s:AS} {x:List Int}:b6M k P s x↔(b0G P s/\a8c P s=x) \/ ∃ s1,RSt k P s s1/\b6M k P s1 x:=by
 constructor
 ·rintro ⟨u,h1,h2,h3⟩;rcases h1.cases_head with rfl | ⟨s1,a,b⟩
  ·exact .inl ⟨h2,h3⟩
  exact .inr ⟨s1,a,u,b,h2,h3⟩
 rintro (⟨h1,h2⟩ | ⟨s1,a,u,b,h2,h3⟩)
 ·exact ⟨s,.refl _,h1,h2⟩
 exact ⟨u,.head a b,h2,h3⟩
theorem a7T {s s1:AS}:RSt k P s s1↔(∃ t i,t<P.length/\i<(thr P t).length/\a2G k (thr P t) (s.t t) i /\ ¬ silent k (aAt (thr P t) i)/\s1=nrm k P (doA k P s t i)) \/ ∃ t,t<P.length/\k=2/\s.bf t≠[]/\s1=nrm k P (outB s t):=by
 constructor
 ·intro h;cases h with
  | act t i ht hi hm hv=>exact .inl ⟨t,i,ht,hi,hm,hv,rfl⟩
  | out t ht hk hb=>exact .inr ⟨t,ht,hk,hb,rfl⟩
 rintro (⟨t,i,ht,hi,hm,hv,rfl⟩ | ⟨t,ht,hk,hb,rfl⟩)
 ·exact .act t i ht hi hm hv
 exact .out t ht hk hb
theorem a7U (s:AS):nrm k P (nrm k P s)=nrm k P s:=by
 refine AS.ext (fun t => ?_) rfl rfl;rw [a5a,a5a,a9N]
theorem quiet_of {s:AS} (h:nrm k P s=s) {t i:Nat} (hi:i<(thr P t).length) (hm:a2G k (thr P t) (s.t t) i) : ¬ silent k (aAt (thr P t) i):=by
 intro hs;have hq:=b0F (k:=k) (l:=thr P t) (s.t t);rw [<-a5a,h] at hq;exact hq i hi hs hm
theorem c0C {s:AS} (h:Stps k P AS.init s) (hk:k≠2) : ∀ t,s.bf t=[]:=by
 induction h with
 | refl=>intro t;rfl
 | tail _ h ih =>
   cases h with
   | act t i ht hi hm =>
     intro u;simp only [doA];rw [if_neg (fun h=>hk h.2)];exact ih u
   | out t ht hk' hb=>exact absurd hk' hk
def muU (P:Pg) (s:AS) (t:Nat):Nat:=2*((thr P t).length-((List.range (thr P t).length).filter fun i=>s.dn t i).length)+(s.bf t).length
def muW (P:Pg) (s:AS):Nat:=((List.range P.length).map (muU P s)).sum
theorem b8t {f g:Nat->Nat} {n:Nat} (h : ∀ u,u<n->f u<=g u):((List.range n).map f).sum<=((List.range n).map g).sum:=by
 induction n with
 | zero=>simp
 | succ n ih =>
   rw [List.range_succ,List.map_append,List.map_append,List.sum_append,List.sum_append];have h1:=ih (fun u hu=>h u (by omega));have h2:=h n (by omega);simp;omega
theorem b4B {f g:Nat->Nat} {n t:Nat} (ht:t<n) (h : ∀ u,u<n->f u<=g u) (hlt:f t<g t):((List.range n).map f).sum<((List.range n).map g).sum:=by
 induction n with
 | zero=>omega
 | succ n ih =>
   rw [List.range_succ,List.map_append,List.map_append,List.sum_append,List.sum_append];have h2:=h n (by omega);by_cases htn:t=n
   ·subst htn;have h1:=b8t (f:=f) (g:=g) (n:=t) (fun u hu=>h u (by omega));simp;omega
   have h1:=ih (by omega) (fun u hu=>h u (by omega));simp;omega
theorem b6N {s:AS} {t i:Nat} (ht:t<P.length) (hi:i<(thr P t).length) (hd:s.dn t i=false):muW P (doA k P s t i)<muW P s:=by
 have hoth : ∀ u,u≠t->muU P (doA k P s t i) u=muU P s u:=by
  intro u hu;have e1:(doA k P s t i).dn u=s.dn u:=by simp [doA,fup,hu]
  have e2:(doA k P s t i).bf u=s.bf u:=by
   simp only [doA];split
   ·exact a0c _ _ _ hu
   rfl
  unfold muU;rw [e1,e2]
 have hown:muU P (doA k P s t i) t<muU P s t:=by
  have e1:(doA k P s t i).dn t=fup (s.dn t) i true:=by simp [doA]
  have h1:=a6Z hi hd;have h2:=a9r (n:=(thr P t).length) (f:=fup (s.dn t) i true);have e2:((doA k P s t i).bf t).length<=(s.bf t).length+1:=by
   simp only [doA];split
   ·simp
   omega
  unfold muU;rw [e1,h1];omega
 exact b4B ht (fun u _=>by
  by_cases hu:u=t
  ·subst hu;omega
  rw [hoth u hu];exact Nat.le_refl _) hown
theorem b8u {s:AS} {t:Nat} (ht:t<P.length) (hb:s.bf t≠[]):muW P (outB s t)<muW P s:=by
 cases hq:s.bf t with
 | nil=>exact absurd hq hb
 | cons x r =>
   have eo:outB s t={ s with bf:=fup s.bf t r,ce:=fup s.ce x.1 x.2 }:=by unfold outB;rw [hq]
   have hoth : ∀ u,u≠t->muU P (outB s t) u=muU P s u:=by
    intro u hu;unfold muU;rw [eo];simp only [a0c _ _ _ hu]
   have hown:muU P (outB s t) t<muU P s t:=by
    unfold muU;rw [eo,hq];simp
   exact b4B ht (fun u _=>by
    by_cases hu:u=t
    ·subst hu;omega
    rw [hoth u hu];exact Nat.le_refl _) hown
theorem b8v (s:AS) {t i:Nat} (ht:t<P.length) (hi:i<(thr P t).length):muW P (a7a k P s t i)<=muW P s:=by
 by_cases h:a2G k (thr P t) (s.t t) i/\silent k (aAt (thr P t) i)
 ·rw [b0e h.1 h.2];exact Nat.le_of_lt (b6N ht hi h.1.1)
 rw [b0f h];exact Nat.le_refl _
theorem b0j (s:AS):muW P (nrm k P s)<=muW P s:=by
 have inner : ∀ (t:Nat),t<P.length -> ∀ (l:List Nat) (u:AS),(∀ i∈l,i<(thr P t).length)->muW P (l.foldl (fun u i=>a7a k P u t i) u)<=muW P u:=by
  intro t ht l
  induction l with
  | nil=>intro u _;exact Nat.le_refl _
  | cons i l ih =>
    intro u hl;rw [List.foldl_cons];exact Nat.le_trans (ih _ (fun j hj=>hl j (List.mem_cons_of_mem _ hj))) (b8v u ht (hl i (List.mem_cons_self ..)))
 have key : ∀ n,n<=P.length->muW P (nrU k P s n)<=muW P s:=by
  intro n
  induction n with
  | zero=>intro _;exact Nat.le_refl _
  | succ n ih =>
    intro hn;rw [b0V];exact Nat.le_trans (inner n (by omega) _ _ (fun i hi=>by simpa using hi)) (ih (by omega))
 rw [<-b4w];exact key _ (Nat.le_refl _)
theorem b5P (hv:VP P):muW P AS.init<=42:=by
 have hn3:=hv.n3;have h : ∀ n,((List.range n).map (muU P AS.init)).sum<=14*n:=by
  intro n
  induction n with
  | zero=>simp
  | succ n ih =>
    rw [List.range_succ,List.map_append,List.sum_append];have h7:=hv.l7 n;have:muU P AS.init n<=14:=by unfold muU;simp [AS.init];omega
    simp;omega
 have:=h P.length;unfold muW;omega
structure SC (k:Nat) (P:Pg) (l:List (List Int)):Prop where
 ss:SS l
 can : ∀ x∈l,Can k P x
theorem SC.len (hv:VP P) (hK:Kind k) {l:List (List Int)} (h:SC k P l):l.length<=4194304:=by
 have kb:a1l (k:Int)=true:=by unfold a1l;unfold Kind at hK;simp;omega
 obtain ⟨O,hO,_⟩:=c0r hv kb;have h1:=a5h h.ss.nodup (fun x hx=>(hO.mem x).2 (h.can x hx));have h2:=hO.len;omega
theorem b6O (hv:VP P) (hK:Kind k) {x:List Int} (h:Can k P x):SmL x:=by
 obtain ⟨h1,h2⟩:=Can.len hK hv h;exact ⟨by omega,fun y hy=>by have:=h2 y hy;omega⟩
theorem b5Q (hv:VP P) (hK:Kind k) : ∀ (n:Nat) (s:AS) (l:List (List Int)),muW P s<n->nrm k P s=s->Wl P s->Stps k P AS.init s->SC k P l ->
  ∃ l',a4U Ar.std n (eP P) (k:Int) (s.ce 0) (s.ce 1) (s.ce 2) (wDn P s) (wRd P s) (wBf P s) (a0D l)=some (a0D l')/\SC k P l' /\ ∀ x,x∈l'↔x∈l\/b6M k P s x:=by
 intro n
 induction n with
 | zero=>intro s l h;omega
 | succ n ih =>
   intro s l hmu hq hw hst hl;have hn3:=hv.n3;have el0:Ar.std.len (eP P)=(P.length:Int):=by simp
   have hk2 : ∀ t,s.bf t≠[]->k=2:=fun t hb=>Classical.byContradiction fun hk=>hb (c0C hst hk t)

   have acts : ∀ (t:Nat),t<P.length -> ∀ (ov0:Bool) (l0:List (List Int)),SC k P l0 -> ∃ ov1 l1,iter (a5o Ar.std (eP P) (k:Int) (s.ce 0) (s.ce 1) (s.ce 2) (wDn P s) (wRd P s) (wBf P s) (a4U Ar.std n) (t:Int)) (ov0,0,a0D l0)=some (ov1,a0D l1) /\
     SC k P l1/\(∀ x,x∈l1↔x∈l0 \/ ∃ j,j<(thr P t).length/\a2G k (thr P t) (s.t t) j/\b6M k P (nrm k P (doA k P s t j)) x)/\(ov1=true↔ov0=true /\ ∀ j,j<(thr P t).length -> ¬ a2G k (thr P t) (s.t t) j):=by
    intro t ht ov0 l0 hl0;have hl7:=hv.l7 t;have key:=a0M (step:=a5o Ar.std (eP P) (k:Int) (s.ce 0) (s.ce 1) (s.ce 2) (wDn P s) (wRd P s) (wBf P s) (a4U Ar.std n) (t:Int)) (thr P t).length
     (fun (z:Bool×List (List Int)) (i:Nat)=>(z.1,(i:Int),a0D z.2))
     (fun i z=>SC k P z.2/\(∀ x,x∈z.2↔x∈l0 \/ ∃ j,j<i/\a2G k (thr P t) (s.t t) j/\b6M k P (nrm k P (doA k P s t j)) x)/\(z.1=true↔ov0=true /\ ∀ j,j<i -> ¬ a2G k (thr P t) (s.t t) j))
     (fun z=>(z.1,a0D z.2))
     (fun i z hi hR=>by
      obtain ⟨ov,l1⟩:=z;obtain ⟨h1,h2,h3⟩:=hR;simp only at h1 h2 h3;obtain ⟨b,e1,hb⟩:=b4u hv (k:=k) (s:=s) ht hi (s.ce 0) (s.ce 1) (s.ce 2) (wRd P s)
      have pre : ∀ {ov' l'},((bif b then
        (b8H Ar.std (t:Int) (i:Int) (eP P) (k:Int) (s.ce 0) (s.ce 1) (s.ce 2) (wDn P s) (wRd P s) (wBf P s)).bind fun (r124,r125,r126,r127,r128,r129,r130,r131) =>
        (a4U Ar.std n r124 r125 r126 r127 r128 r129 r130 r131 (a0D l1)).bind fun r133 =>
        some (false,r133)
       else some (ov,a0D l1):Option (Bool×List D)))=some (ov',a0D l') ->
       a5o Ar.std (eP P) (k:Int) (s.ce 0) (s.ce 1) (s.ce 2) (wDn P s) (wRd P s) (wBf P s) (a4U Ar.std n) (t:Int) (ov,(i:Int),a0D l1)=some (.inl (ov',((i+1:Nat):Int),a0D l')):=by
       intro ov' l' hr;unfold a5o;dsimp only;exact bt (a1G (a0w ht)) (cnT (by simp;omega) (bt e1 (bt hr (by rw [wS (by omega)]))))
      by_cases hm:a2G k (thr P t) (s.t t) i
      ·have hbt:=hb.2 hm;subst hbt;obtain ⟨e2,hw2⟩:=b8l hv hw ht hi hm (quiet_of hq hi hm);have hst2:Stps k P AS.init (nrm k P (doA k P s t i)):=(hst.trans (.one (.act t i ht hi hm))).trans (a3s _);have hmu2:muW P (nrm k P (doA k P s t i))<n:=by
        have h4:=b0j (k:=k) (P:=P) (doA k P s t i);have h5:=b6N (k:=k) ht hi hm.1;omega
       obtain ⟨l',e3,h4,h5⟩:=ih _ l1 hmu2 (a7U _) hw2 hst2 h1;refine ⟨(false,l'),⟨h4,fun x => ?_,?_⟩,pre (cnT rfl (bt e2 (bt e3 rfl)))⟩
       ·rw [h5,h2];constructor
        ·rintro ((h | ⟨j,a,b,c⟩) | h)
         ·exact .inl h
         ·exact .inr ⟨j,by omega,b,c⟩
         exact .inr ⟨i,by omega,hm,h⟩
        rintro (h | ⟨j,a,b,c⟩)
        ·exact .inl (.inl h)
        rcases Nat.lt_or_eq_of_le (Nat.le_of_lt_succ a) with h | rfl
        ·exact .inl (.inr ⟨j,h,b,c⟩)
        exact .inr c
       simp only;exact ⟨fun h=>(by cases h),fun h=>absurd hm (h.2 i (by omega))⟩
      have hbf:b=false:=by
       cases b with
       | false=>rfl
       | true=>exact absurd (hb.1 rfl) hm
      subst hbf;refine ⟨(ov,l1),⟨h1,fun x => ?_,?_⟩,pre (cnF rfl rfl)⟩
      ·rw [h2];constructor
       ·rintro (h | ⟨j,a,b,c⟩)
        ·exact .inl h
        exact .inr ⟨j,by omega,b,c⟩
       rintro (h | ⟨j,a,b,c⟩)
       ·exact .inl h
       rcases Nat.lt_or_eq_of_le (Nat.le_of_lt_succ a) with h | rfl
       ·exact .inr ⟨j,h,b,c⟩
       exact absurd b hm
      simp only;rw [h3];constructor
      ·rintro ⟨a,b⟩;refine ⟨a,fun j hj => ?_⟩;rcases Nat.lt_or_eq_of_le (Nat.le_of_lt_succ hj) with h | rfl
       ·exact b j h
       exact hm
      rintro ⟨a,b⟩;exact ⟨a,fun j hj=>b j (by omega)⟩)
     (fun z hR=>by
      unfold a5o;dsimp only;exact bt (a1G (a0w ht)) (cnF (by simp) rfl)) (ov0,l0) ⟨hl0,fun x=>⟨.inl,fun h=>h.elim id (fun ⟨j,a,_⟩=>by omega)⟩,⟨fun h=>⟨h,fun j a=>by omega⟩,fun h=>h.1⟩⟩
    obtain ⟨⟨ov1,l1⟩,⟨h1,h2,h3⟩,h⟩:=key;exact ⟨ov1,l1,h,h1,h2,h3⟩

   have key:=a0M (step:=a6E Ar.std (eP P) (k:Int) (s.ce 0) (s.ce 1) (s.ce 2) (wDn P s) (wRd P s) (wBf P s) (a4U Ar.std n)) P.length
    (fun (z:Bool×List (List Int)) (t:Nat)=>(z.1,(t:Int),a0D z.2))
    (fun t z=>SC k P z.2/\(∀ x,x∈z.2↔x∈l \/ ∃ u,u<t/\((∃ j,j<(thr P u).length/\a2G k (thr P u) (s.t u) j/\b6M k P (nrm k P (doA k P s u j)) x)\/(s.bf u≠[]/\b6M k P (nrm k P (outB s u)) x))) /\
     (z.1=true ↔ ∀ u,u<t->(∀ j,j<(thr P u).length -> ¬ a2G k (thr P u) (s.t u) j)/\s.bf u=[]))
    (fun z=>(z.1,a0D z.2))
    (fun t z ht hR=>by
     obtain ⟨ov,l1⟩:=z;obtain ⟨h1,h2,h3⟩:=hR;simp only at h1 h2 h3;obtain ⟨ov1,l2,e1,g1,g2,g3⟩:=acts t ht ov l1 h1;have hbf:gt Ar.std (cL 2) (wBf P s) (t:Int)=some (qD (s.bf t)):=a1I ht
     have pre : ∀ {ov' l'},((bif Ar.std.zlt 0 (Ar.std.len (qD (s.bf t))) then
       (b8I Ar.std (t:Int) (eP P) (k:Int) (s.ce 0) (s.ce 1) (s.ce 2) (wDn P s) (wRd P s) (wBf P s)).bind fun (r152,r153,r154,r155,r156,r157,r158,r159) =>
       (a4U Ar.std n r152 r153 r154 r155 r156 r157 r158 r159 (a0D l2)).bind fun r161 =>
       some (false,r161)
      else some (ov1,a0D l2):Option (Bool×List D)))=some (ov',a0D l') ->
      a6E Ar.std (eP P) (k:Int) (s.ce 0) (s.ce 1) (s.ce 2) (wDn P s) (wRd P s) (wBf P s) (a4U Ar.std n) (ov,(t:Int),a0D l1)=some (.inl (ov',((t+1:Nat):Int),a0D l')):=by
      intro ov' l' hr;unfold a6E;dsimp only;exact cnT (by rw [el0];exact el ht) (bt e1 (bt hbf (bt hr (by rw [wS (by omega)]))))
     by_cases hb:s.bf t=[]
     ·refine ⟨(ov1,l2),⟨g1,fun x => ?_,?_⟩,pre (cnF (by rw [hb];rfl) rfl)⟩
      ·rw [g2,h2];constructor
       ·rintro ((h | ⟨u,a,b⟩) | h)
        ·exact .inl h
        ·exact .inr ⟨u,by omega,b⟩
        exact .inr ⟨t,by omega,.inl h⟩
       rintro (h | ⟨u,a,b⟩)
       ·exact .inl (.inl h)
       rcases Nat.lt_or_eq_of_le (Nat.le_of_lt_succ a) with h | rfl
       ·exact .inl (.inr ⟨u,h,b⟩)
       rcases b with b | b
       ·exact .inr b
       exact absurd hb b.1
      simp only;rw [g3,h3];constructor
      ·rintro ⟨a,b⟩ u hu;rcases Nat.lt_or_eq_of_le (Nat.le_of_lt_succ hu) with h | rfl
       ·exact a u h
       exact ⟨b,hb⟩
      intro a;exact ⟨fun u hu=>a u (by omega),(a t (by omega)).1⟩
     have hbl:0<(s.bf t).length:=List.length_pos_iff.2 hb;obtain ⟨e2,hw2⟩:=b8m hv (k:=k) hw ht hb;have hst2:Stps k P AS.init (nrm k P (outB s t)):=(hst.trans (.one (.out t ht (hk2 t hb) hb))).trans (a3s _);have hmu2:muW P (nrm k P (outB s t))<n:=by
      have h4:=b0j (k:=k) (P:=P) (outB s t);have h5:=b8u ht hb;omega
     obtain ⟨l',e3,h4,h5⟩:=ih _ l2 hmu2 (a7U _) hw2 hst2 g1;refine ⟨(false,l'),⟨h4,fun x => ?_,?_⟩,pre (cnT (by rw [a6e];simp;omega) (bt e2 (bt e3 rfl)))⟩
     ·rw [h5,g2,h2];constructor
      ·rintro (((h | ⟨u,a,b⟩) | h) | h)
       ·exact .inl h
       ·exact .inr ⟨u,by omega,b⟩
       ·exact .inr ⟨t,by omega,.inl h⟩
       exact .inr ⟨t,by omega,.inr ⟨hb,h⟩⟩
      rintro (h | ⟨u,a,b⟩)
      ·exact .inl (.inl (.inl h))
      rcases Nat.lt_or_eq_of_le (Nat.le_of_lt_succ a) with h | rfl
      ·exact .inl (.inl (.inr ⟨u,h,b⟩))
      rcases b with b | b
      ·exact .inl (.inr b)
      exact .inr b.2
     simp only;exact ⟨fun h=>(by cases h),fun h=>absurd (h t (by omega)).2 hb⟩)
    (fun z hR=>by
     unfold a6E;dsimp only;exact cnF (by rw [el0];simp) rfl) (true,l) ⟨hl,fun x=>⟨.inl,fun h=>h.elim id (fun ⟨u,a,_⟩=>by omega)⟩,⟨fun _ u hu=>by omega,fun _=>rfl⟩⟩
   obtain ⟨⟨ov,l1⟩,⟨h1,h2,h3⟩,h⟩:=key;simp only at h1 h2 h3 h

   have hstep : ∀ x,x∈l1↔x∈l \/ ∃ s1,RSt k P s s1/\b6M k P s1 x:=by
    intro x;rw [h2];constructor
    ·rintro (h | ⟨u,hu,⟨j,hj,hm,he⟩ | ⟨hb,he⟩⟩)
     ·exact .inl h
     ·exact .inr ⟨_,a7T.2 (.inl ⟨u,j,hu,hj,hm,quiet_of hq hj hm,rfl⟩),he⟩
     exact .inr ⟨_,a7T.2 (.inr ⟨u,hu,hk2 u hb,hb,rfl⟩),he⟩
    rintro (h | ⟨s1,hr,he⟩)
    ·exact .inl h
    rcases a7T.1 hr with ⟨t,i,ht,hi,hm,_,rfl⟩ | ⟨t,ht,_,hb,rfl⟩
    ·exact .inr ⟨t,ht,.inl ⟨i,hi,hm,he⟩⟩
    exact .inr ⟨t,ht,.inr ⟨hb,he⟩⟩
   show ∃ l',b1m Ar.std (a4U Ar.std n) (eP P) (k:Int) (s.ce 0) (s.ce 1) (s.ce 2) (wDn P s) (wRd P s) (wBf P s) (a0D l)=some (a0D l')/\_;cases ov with
   | true =>
     have hall:=h3.1 rfl;have hfin:b0G P s:=a5Q (fun t i ht hi=>(hall t ht).1 i hi) (fun t ht=>(hall t ht).2);have hcan:Can k P (a8c P s):=⟨s,hst,hfin,rfl⟩;have hlen:=h1.len hv hK;obtain ⟨l',e4,g1,g2⟩:=b8s (x:=a8c P s) (by omega) h1.ss (fun y hy=>b6O hv hK (h1.can y hy)) (b6O hv hK hcan);refine ⟨l',?_,⟨g1,fun x hx => ?_⟩,fun x => ?_⟩
     ·unfold b1m;exact bt h (bt (cnT rfl (bt (b8n hv (k:Int) (wDn P s) (wBf P s)) (bt e4 rfl))) rfl)
     ·rcases (g2 x).1 hx with h | rfl
      ·exact h1.can x h
      exact hcan
     rw [g2,hstep,b0Z];have hno : ∀ s1,¬ RSt k P s s1:=by
      intro s1 hr;rcases a7T.1 hr with ⟨t,i,ht,hi,hm,_,rfl⟩ | ⟨t,ht,_,hb,rfl⟩
      ·exact (hall t ht).1 i hi hm
      exact hb (hall t ht).2
     constructor
     ·rintro ((h | ⟨s1,hr,_⟩) | rfl)
      ·exact .inl h
      ·exact absurd hr (hno s1)
      exact .inr (.inl ⟨hfin,rfl⟩)
     rintro (h | ⟨_,rfl⟩ | ⟨s1,hr,_⟩)
     ·exact .inl (.inl h)
     ·exact .inr rfl
     exact absurd hr (hno s1)
   | false =>
     have hnf : ¬ b0G P s:=by
      intro hfin;have:=h3.2 (fun u hu=>⟨fun j hj=>b3x hfin hu hj,(hfin u hu).2⟩);cases this
     refine ⟨l1,?_,h1,fun x => ?_⟩
     ·unfold b1m;exact bt h (bt (cnF rfl rfl) rfl)
     rw [hstep,b0Z];constructor
     ·rintro (h | h)
      ·exact .inl h
      exact .inr (.inr h)
     rintro (h | ⟨hfin,_⟩ | h)
     ·exact .inl h
     ·exact absurd hfin hnf
     exact .inr h
theorem b1a (hv:VP P) (hK:Kind k) : ∃ O,IsO k P O/\M58 Ar.std (eP P) (k:Int)=some (a0D O):=by
 obtain ⟨e1,hw⟩:=b8j hv (k:=k);have hmu:muW P (nrm k P AS.init)<fuel:=by
  have h1:=b0j (k:=k) (P:=P) AS.init;have h2:=b5P hv;rw [b7r];omega
 obtain ⟨l',e2,h1,h2⟩:=b5Q hv hK fuel (nrm k P AS.init) [] hmu (a7U _) hw (a3s _) ⟨List.Pairwise.nil,fun x hx=>by cases hx⟩;refine ⟨l',⟨h1.ss,fun x => ?_,h1.len hv hK⟩,?_⟩
 ·rw [h2,b7B];constructor
  ·rintro (h | h)
   ·cases h
   exact h
  exact .inr
 unfold M58;refine bt e1 (bt (v:=a0D l') ?_ rfl);unfold c1k;exact e2
end
theorem b4C {a b:Int} (ha : -9223372036854775808<=a/\a<9223372036854775808) (hb : -9223372036854775808<=b/\b<9223372036854775808) (h:Ar.std.wrp .i64 (Ar.std.zsub a b)=0):a=b:=by
 simp only [a0i,a0C,IntKind.wrap_i64] at h;omega
theorem b8w {a b:List Int} (ha:a.length<4294967296) (hb:b.length<4294967296) (va : ∀ x∈a,-9223372036854775808<=x/\x<9223372036854775808) (vb : ∀ x∈b,-9223372036854775808<=x/\x<9223372036854775808) :
  ∃ v,M30 Ar.std (a0q a) (a0q b)=some v/\(v=0↔a=b):=by
 have hend : ∀ i:Nat,i<=a.length->i<=b.length->(i=a.length\/i=b.length)->a4f Ar.std (a0q a) (a0q b) (i:Int)=some (.inr (.inl ())):=by
  intro i h1 h2 h3;unfold a4f;by_cases h4:i<a.length
  ·refine bt (v:=false) (cnT (by simp;omega) ?_) (cnF rfl rfl);congr 1;simp;omega
  exact bt (v:=false) (cnF (by simp;omega) rfl) (cnF rfl rfl)
 have key : ∀ d i:Nat,i+d=min a.length b.length->(∀ j:Nat,j<i->a[j]?=b[j]?) -> ∃ x,iter (a4f Ar.std (a0q a) (a0q b)) (i:Int)=some x /\
   ((x = .inl () /\ ∀ j:Nat,j<min a.length b.length->a[j]?=b[j]?) \/ ∃ v,x = .inr v/\v≠0/\a≠b):=by
  intro d
  induction d with
  | zero =>
    intro i hi hR;refine ⟨.inl (),a0E (hend i (by omega) (by omega) (by omega)),.inl ⟨rfl,fun j hj=>hR j (by omega)⟩⟩
  | succ d ih =>
    intro i hi hR;have h1:i<a.length:=by omega
    have h2:i<b.length:=by omega
    have g1:=zp1 h1;have g2:=zp1 h2;have m1:=va _ (zp6 h1);have m2:=vb _ (zp6 h2);generalize a[i]=x at g1 m1;generalize b[i]=y at g2 m2;have pre : ∀ {r},(bif Ar.std.zeq x y then some (.inl (Ar.std.wrp .i64 (Ar.std.zadd (i:Int) 1))) else some (.inr (.inr (Ar.std.wrp .i64 (Ar.std.zsub x y)))):Option (Int⊕(Unit⊕Int)))=r->a4f Ar.std (a0q a) (a0q b) (i:Int)=r:=by
     intro r hr;unfold a4f;exact bt (v:=true) (cnT (by simp;omega) (by congr 1;simp;omega)) (cnT rfl (bt (a0R g1) (bt (a0R g2) hr)))
    by_cases hxy:x=y
    ·subst hxy;obtain ⟨z,e,hz⟩:=ih (i+1) (by omega) (fun j hj=>by
      rcases Nat.lt_or_eq_of_le (Nat.le_of_lt_succ hj) with h | rfl
      ·exact hR j h
      rw [g1,g2])
     refine ⟨z,(a1d (pre (cnT (by simp) ?_))).trans e,hz⟩;have:Ar.std.wrp .i64 (Ar.std.zadd (i:Int) 1)=((i+1:Nat):Int):=by simp only [a0i,a0k];exact a1Y (n:=4294967296) (by omega) (by omega)
     rw [this]
    refine ⟨.inr (Ar.std.wrp .i64 (Ar.std.zsub x y)),a0E (pre (cnF (by simp [hxy]) rfl)),.inr ⟨_,rfl,fun h=>hxy (b4C m1 m2 h),fun h => ?_⟩⟩;rw [h,g2] at g1;exact hxy (Option.some.inj g1).symm
 obtain ⟨x,e,hx⟩:=key (min a.length b.length) 0 (by omega) (fun j hj=>by omega);have e':iter (a4f Ar.std (a0q a) (a0q b)) 0=some x:=e;rcases hx with ⟨rfl,hall⟩ | ⟨v,rfl,hv,hne⟩
 ·refine ⟨(a.length:Int)-(b.length:Int),?_,⟨fun h => ?_,fun h=>by rw [h];omega⟩⟩
  ·unfold M30;refine bt e' ?_;rw [Sum.elim_inl];simp only [a0W,a0i,a0C];rw [a2Y _ (by omega) (by omega)]
  apply List.ext_getElem?;intro j;by_cases hj:j<min a.length b.length
  ·exact hall j hj
  rw [List.getElem?_eq_none (by omega),List.getElem?_eq_none (by omega)]
 refine ⟨v,?_,⟨fun h=>absurd h hv,fun h=>absurd h hne⟩⟩;unfold M30;exact bt e' rfl
theorem c0D {P:Pg} (hP:a2q P) (z:Int):M57 Ar.std (eP P) z=some (bif a2W P then (bif a1l z then 0 else 2) else 40):=by
 unfold M57;refine bt (b6H hP) ?_;cases a2W P with
 | false=>exact cnF rfl rfl
 | true =>
   refine cnT rfl (bt (b4b _ _ _) ?_);have:btw 1 z 3=a1l z:=rfl;rw [this];cases a1l z <;> rfl
theorem b8x {A B:List (List Int)} (sA : ∀ x∈A,SmL x) (sB : ∀ x∈B,SmL x) (hA:A.length<4294967296):M25 Ar.std (a0D A) (a0D B)=some (decide (A=B)):=by
 unfold M25;by_cases hlen:A.length=B.length
 ·refine cnT (by simp [hlen]) ?_;have hz:(A.zip B).length=A.length:=by simp [hlen]
  have key:=a5g (step:=b2i Ar.std (a0D A) (a0D B)) (A.zip B) (fun x => !decide (x.1=x.2)) (.inr ()) (.inl ()) (fun i x hx hi=>by
   obtain ⟨h1,h2⟩:=List.getElem?_zip_eq_some.1 hx;have m1:=sA _ (List.mem_of_getElem? h1);have m2:=sB _ (List.mem_of_getElem? h2);obtain ⟨v,e,hv⟩:=b8w (a:=x.1) (b:=x.2) m1.1 m2.1 (fun y hy=>by have:=m1.2 y hy;omega) (fun y hy=>by have:=m2.2 y hy;omega);have ew:Ar.std.wrp .i64 (Ar.std.zadd (i:Int) 1)=((i+1:Nat):Int):=by simp only [a0i,a0k];exact a1Y (n:=4294967296) (by omega) (by omega)
   unfold b2i;refine cnT (by simp;omega) (bt (a7C h1) (bt (a7C h2) (bt e ?_)));rw [ew];have:Ar.std.zeq v 0=decide (x.1=x.2):=by
    rw [a2u];exact decide_eq_decide.2 hv
   rw [this];cases decide (x.1=x.2) <;> rfl) (by
   unfold b2i;exact cnF (by rw [hz];simp) rfl)
  refine bt key ?_;have:((A.zip B).any fun x => !decide (x.1=x.2)) = !decide (A=B):=by
   rw [Bool.eq_iff_iff,List.any_eq_true];simp only [Bool.not_eq_true',decide_eq_false_iff_not];constructor
   ·rintro ⟨x,h1,h2⟩ rfl;obtain ⟨i,hi⟩:=List.getElem?_of_mem h1;obtain ⟨g1,g2⟩:=List.getElem?_zip_eq_some.1 hi;rw [g1] at g2;exact h2 (Option.some.inj g2)
   intro h;apply Classical.byContradiction;intro hn;apply h;apply List.ext_getElem?;intro j;by_cases hj:j<A.length
   ·have g1:=zp1 hj;have g2:=zp1 (l:=B) (i:=j) (by omega);rw [g1,g2];congr 1;apply Classical.byContradiction;intro hne;exact hn ⟨(A[j],B[j]),List.mem_of_getElem? (List.getElem?_zip_eq_some.2 ⟨g1,g2⟩),hne⟩
   rw [List.getElem?_eq_none (by omega),List.getElem?_eq_none (by omega)]
  rw [this];cases decide (A=B) <;> rfl
 refine cnF (by simp;omega) ?_;rw [decide_eq_false (fun h=>hlen (by rw [h]))]
theorem b8y {P:Pg} (hv:VP P) {t i:Nat} (ht:t<P.length) (hi:i<(thr P t).length):c0K Ar.std (eP P) (t:Int) (i:Int)=some (eP (P.set t ((thr P t).eraseIdx i))):=by
 have hl7:=hv.l7 t;have hn3:=hv.n3;have el:Ar.std.len (eT (thr P t))=((thr P t).length:Int):=by simp
 have ep:Ar.std.len (eP P)=(P.length:Int):=by simp
 have ew:Ar.std.wrp .i64 (Ar.std.zadd (i:Int) 1)=((i+1:Nat):Int):=by simp only [a0i,a0k];exact a1Y (n:=100) (by omega) (by omega)
 have s1:sl Ar.std (eT (thr P t)) 0 (i:Int)=some (eT ((thr P t).take i)):=a7z (c:=cA3) (l:=thr P t) (i:=i) (by omega);have s2:sl Ar.std (eT (thr P t)) ((i+1:Nat):Int) (Ar.std.len (eT (thr P t)))=some (eT ((thr P t).drop (i+1))):=by
  rw [el];have:=b9C (c:=cA3) (l:=thr P t) (lo:=((i+1:Nat):Int)) (hi:=((thr P t).length:Int)) (by omega) (by omega) (Int.le_refl _);rw [Int.toNat_natCast,Int.toNat_natCast,List.take_of_length_le (by rw [List.length_drop];omega)] at this;exact this
 have a1:ap Ar.std [] (eT ((thr P t).take i))=some (eT ((thr P t).take i)):=a7A (by rw [List.length_take];omega);have a3:ap Ar.std (eT ((thr P t).take i)) (eT ((thr P t).drop (i+1)))=some (eT ((thr P t).take i++(thr P t).drop (i+1))) :=
  b3s (by simp only [List.length_take,List.length_drop];omega)
 unfold c0K;refine bt (c0u hv) (bt (b9I (by omega) (by rw [Int.toNat_natCast];exact a0w ht)) (bt s1 (bt a1 ?_)));rw [ew];refine bt s2 (bt a3 (bck (by simp) (bck (by rw [ep];simp;omega) ?_)));have:=b4p P t ((thr P t).take i++(thr P t).drop (i+1));rw [List.eraseIdx_eq_take_drop_succ];exact congrArg some this
theorem b5R {P:Pg} {O O':List (List Int)} (h:IsO 3 P O) (h':IsO 1 P O'):a1T O' O=[]↔O=O':=by
 constructor
 ·intro h0;refine a9e h.ss h'.ss fun x=>⟨fun hx => ?_,fun hx=>(h.mem x).2 ((h'.mem x).1 hx).strict.loose⟩;apply Classical.byContradiction;intro hn;have:x∈a1T O' O:=List.mem_filter.2 ⟨hx,by simp [hn]⟩;rw [h0] at this;cases this
 rintro rfl;unfold a1T;apply List.filter_eq_nil_iff.2;intro x hx;simp [hx]
theorem b8z {P:Pg} (hP:a2q P) : ∃ b c,M32 Ar.std (eP P)=some (b,c)/\M42 Ar.std (eP P)=some (b,c):=by
 have e2:=b6H hP;cases hv:a2W P with
 | false =>
   rw [hv] at e2;refine ⟨false,40,?_,?_⟩
   ·unfold M32;rcases b6E hP 3 1 with ⟨_,e⟩ | ⟨h,_⟩ | ⟨h,_⟩
    ·exact bt e (bt (v:=false) (cnF rfl rfl) rfl)
    ·rw [hv] at h;cases h
    rw [hv] at h;cases h
   unfold M42;exact bt e2 (cnF rfl rfl)
 | true =>
   rw [hv] at e2;have hV:=VP.of hv;obtain ⟨O,O',h1,h2,e⟩:=c0k hP hv;obtain ⟨Q,q1,f1⟩:=b1a hV (k:=3) (.inr (.inr rfl));obtain ⟨Q',q2,f2⟩:=b1a hV (k:=1) (.inl rfl);have eQ:=q1.unique h1;have eQ':=q2.unique h2;subst eQ eQ';have l1:=q1.len;refine ⟨_,_,e,?_⟩;unfold M42;refine bt e2 (cnT rfl (bt f1 (bt f2 (bt (b8x (q1.sm (.inr (.inr rfl)) hV) (q2.sm (.inl rfl) hV) (by omega)) ?_))));rw [decide_eq_decide.2 (b5R q1 q2)]
open Classical in
noncomputable def c1i (k:Nat) (P:Pg):Nat:=if h : ∃ O,IsO k P O then h.choose.length else 0
theorem a7V {k:Nat} {P:Pg} {O:List (List Int)} (h:IsO k P O):c1i k P=O.length:=by
 unfold c1i;have he : ∃ O,IsO k P O:=⟨O,h⟩;rw [dif_pos he,IsO.unique he.choose_spec h]
noncomputable def ndB (k:Nat) (P:Pg) (t i:Nat):Bool := !wk (aAt (thr P t) i)&&decide (c1i k P<c1i k (P.set t ((thr P t).eraseIdx i)))
noncomputable def ndT (k:Nat) (P:Pg) (t m:Nat):List (Int×Int):=((List.range m).filter (ndB k P t)).map fun (i:Nat)=>((t:Int),(i:Int))
noncomputable def ndA (k:Nat) (P:Pg) (n:Nat):List (Int×Int):=(List.range n).flatMap fun t=>ndT k P t (thr P t).length
abbrev eN (l:List (Int×Int)):List D:=enc cEn l
theorem b1b (k:Nat) (P:Pg) (t m:Nat):ndT k P t (m+1)=ndT k P t m++(bif ndB k P t m then [((t:Int),(m:Int))] else []):=by
 unfold ndT;rw [List.range_succ,List.filter_append,List.map_append];cases h:ndB k P t m <;> simp [h]
theorem a7W (k:Nat) (P:Pg) (n:Nat):ndA k P (n+1)=ndA k P n++ndT k P n (thr P n).length:=by
 unfold ndA;rw [List.range_succ,List.flatMap_append];simp
theorem b0k (k:Nat) (P:Pg) (t m:Nat):(ndT k P t m).length<=m:=by
 unfold ndT;rw [List.length_map];exact Nat.le_trans (List.length_filter_le _ _) (by simp)
theorem b8A {k:Nat} {P:Pg} (hv:VP P) (n:Nat):(ndA k P n).length<=7*n:=by
 induction n with
 | zero=>simp [ndA]
 | succ n ih =>
   rw [a7W,List.length_append];have:=b0k k P n (thr P n).length;have:=hv.l7 n;omega
theorem c0E {l:List (Int×Int)} {t i:Nat} (hl:l.length<=1000):ap Ar.std (eN l) [D.agg [.int .i64 (t:Int),.int .i64 (i:Int)]]=some (eN (l++[((t:Int),(i:Int))])) :=
 a5N (a:=((t:Int),(i:Int))) rfl (by omega)
theorem b5S {P:Pg} (hp:a2W P=true) {z:Int} (hk:a1l z=true) {O:List (List Int)} (hO:IsO z.toNat P O) {t:Nat} (ht:t<P.length) (acc:List (Int×Int)) (ha:acc.length<=500) :
  iter (b1j Ar.std (eP P) (ifs [z]) (O.length:Int) (t:Int) (eT (thr P t))) (eN acc,0)=some (eN (acc++ndT z.toNat P t (thr P t).length)):=by
 have hv:=VP.of hp;have hK:=(a3N hk).1;have hl7:=hv.l7 t;have ec:gc Ar.std cIf (ifs [z]) 0=some (Int.ofNat (142+z.toNat)):=rfl;have key:=a0M (step:=b1j Ar.std (eP P) (ifs [z]) (O.length:Int) (t:Int) (eT (thr P t))) (thr P t).length (fun (_:Unit) (i:Nat)=>(eN (acc++ndT z.toNat P t i),(i:Int))) (fun _ _=>True) (fun _=>eN (acc++ndT z.toNat P t (thr P t).length))
  (fun i _ hi _=>by
   refine ⟨(),trivial,?_⟩;have ew:Ar.std.wrp .i64 (Ar.std.zadd (i:Int) 1)=((i+1:Nat):Int):=by simp only [a0i,a0k];exact a1Y (n:=100) (by omega) (by omega)
   have htl:=b0k z.toNat P t i;unfold b1j;dsimp only;refine cnT (by simp;omega) (bt (v:=eN (acc++ndT z.toNat P t (i+1))) (bt (a0R (a1k hi)) (bt (v:=wk (aAt (thr P t) i)) rfl ?_)) (by rw [ew]));rw [b1b];unfold ndB;cases hw:wk (aAt (thr P t) i) with
   | true =>
     refine cnT rfl ?_;simp
   | false =>
     have hq:=b4q hp ht hi hw;obtain ⟨O',q1,q2,q3,l2,f1,f2,f3,f4⟩:=a9g hK (VP.of hq);have hO':IsO z.toNat (P.set t ((thr P t).eraseIdx i)) O':=⟨q1,q2,q3⟩;rw [a7V hO,a7V hO'];refine cnF rfl (bt (b8h hv ht hi) (bt ec (bt f1 (bt (v:=eN (acc++(ndT z.toNat P t i++bif !false&&decide (O.length<O'.length) then [((t:Int),(i:Int))] else []))) ?_ rfl))))
     by_cases hlt:O.length<O'.length
     ·refine cnT (by simp;omega) (bt (c0E (by rw [List.length_append];omega)) ?_);simp [hlt]
     refine cnF (by simp;omega) ?_;simp [hlt])
  (fun _ _=>by
   unfold b1j;dsimp only;exact cnF (by simp) rfl) () trivial
 obtain ⟨_,_,h⟩:=key;have e0:ndT z.toNat P t 0=[]:=rfl;rw [e0,List.append_nil] at h;exact h
theorem b5T {P:Pg} (hp:a2W P=true) {z:Int} (hk:a1l z=true) {O:List (List Int)} (hO:IsO z.toNat P O) {t:Nat} (ht:t<P.length) (acc:List (Int×Int)) (ha:acc.length<=500) :
  iter (b1n Ar.std (eP P) z (a0D O) (t:Int)) (eN acc,0)=some (eN (acc++ndT z.toNat P t (thr P t).length)):=by
 have hv:=VP.of hp;obtain ⟨hK,hz⟩:=a3N hk;have hl7:=hv.l7 t;have key:=a0M (step:=b1n Ar.std (eP P) z (a0D O) (t:Int)) (thr P t).length (fun (_:Unit) (i:Nat)=>(eN (acc++ndT z.toNat P t i),(i:Int))) (fun _ _=>True) (fun _=>eN (acc++ndT z.toNat P t (thr P t).length))
  (fun i _ hi _=>by
   refine ⟨(),trivial,?_⟩;have ew:Ar.std.wrp .i64 (Ar.std.zadd (i:Int) 1)=((i+1:Nat):Int):=by simp only [a0i,a0k];exact a1Y (n:=100) (by omega) (by omega)
   have htl:=b0k z.toNat P t i;unfold b1n;dsimp only;refine bt (a1G (a0w ht)) (cnT (by simp;omega) (bt (v:=eN (acc++ndT z.toNat P t (i+1))) (bt (a0R (a1k hi)) ?_) (by rw [ew])));have e3 : ∀ a:Ac,Ar.std.zeq a.1 3 = !wk a:=fun a=>by unfold wk;simp
   rw [b1b];unfold ndB;cases hw:wk (aAt (thr P t) i) with
   | true =>
     refine cnF (by rw [e3,hw];rfl) ?_;simp
   | false =>
     have hq:=b4q hp ht hi hw;obtain ⟨O',hO',f1⟩:=b1a (VP.of hq) hK;rw [<-hz] at f1;rw [a7V hO,a7V hO'];refine cnT (by rw [e3,hw];rfl) (bt (b8y hv ht hi) (bt f1 (bt (v:=eN (acc++(ndT z.toNat P t i++bif !false&&decide (O.length<O'.length) then [((t:Int),(i:Int))] else []))) ?_ rfl)))
     by_cases hlt:O.length<O'.length
     ·refine cnT (by rw [a1U,a1U];simp;omega) (bt (c0E (by rw [List.length_append];omega)) ?_);simp [hlt]
     refine cnF (by rw [a1U,a1U];simp;omega) ?_;simp [hlt])
  (fun _ _=>by
   unfold b1n;dsimp only;exact bt (a1G (a0w ht)) (cnF (by simp) rfl)) () trivial
 obtain ⟨_,_,h⟩:=key;have e0:ndT z.toNat P t 0=[]:=rfl;rw [e0,List.append_nil] at h;exact h
theorem b8B {P:Pg} (hP:a2q P) (z:Int) : ∃ l c,l.length<=1000/\M43 Ar.std (eP P) z=some (eN l,c)/\M44 Ar.std (eP P) z=some (eN l,c):=by
 have e:=b3U hP [z] (by simp);have e57:=c0D hP z;have hall:[z].all a1l=a1l z:=by simp
 rw [hall] at e;cases hp:a2W P with
 | false =>
   rw [hp] at e e57;refine ⟨[],40,by simp,?_,?_⟩
   ·unfold M43;exact bt e (cnF rfl rfl)
   unfold M44;exact bt e57 (cnF rfl rfl)
 | true =>
   rw [hp] at e e57;cases hk:a1l z with
   | false =>
     rw [hk] at e e57;refine ⟨[],2,by simp,?_,?_⟩
     ·unfold M43;exact bt e (cnF rfl rfl)
     unfold M44;exact bt e57 (cnF rfl rfl)
   | true =>
     rw [hk] at e e57;have hv:=VP.of hp;have hn3:=hv.n3;obtain ⟨hK,hz⟩:=a3N hk;obtain ⟨O,h1,h2,h3,l',f1,f2,f3,f4⟩:=a9g hK hv;have hO:IsO z.toNat P O:=⟨h1,h2,h3⟩;obtain ⟨Q,q1,f5⟩:=b1a hv hK;rw [<-hz] at f5;have eQ:=q1.unique hO;subst eQ;have ec:gc Ar.std cIf (ifs [z]) 0=some (Int.ofNat (142+z.toNat)):=rfl;have hA:=b8A (k:=z.toNat) hv;refine ⟨ndA z.toNat P P.length,0,by have:=hA P.length;omega,?_,?_⟩
     ·have key:=a0M (step:=b1k Ar.std (eP P) (ifs [z]) (Q.length:Int)) P.length (fun (_:Unit) (i:Nat)=>(eN (ndA z.toNat P i),(i:Int))) (fun _ _=>True) (fun _=>eN (ndA z.toNat P P.length))
       (fun i _ hi _=>by
        refine ⟨(),trivial,?_⟩;have ew:Ar.std.wrp .i64 (Ar.std.zadd (i:Int) 1)=((i+1:Nat):Int):=by simp only [a0i,a0k];exact a1Y (n:=100) (by omega) (by omega)
        unfold b1k;dsimp only;refine cnT (by simp;omega) (bt (a1G (a0w hi)) (bt (b5S hp hk hO hi (ndA z.toNat P i) (by have:=hA i;omega)) ?_));rw [ew,a7W])
       (fun _ _=>by
        unfold b1k;dsimp only;exact cnF (by simp) rfl) () trivial
      obtain ⟨_,_,h⟩:=key;unfold M43;exact bt e (cnT rfl (bt ec (bt f1 (bt (show iter (b1k Ar.std (eP P) (ifs [z]) (Q.length:Int)) ([],0)=_ from h) rfl))))
     have key:=a0M (step:=b1o Ar.std (eP P) z (a0D Q)) P.length (fun (_:Unit) (i:Nat)=>(eN (ndA z.toNat P i),(i:Int))) (fun _ _=>True) (fun _=>eN (ndA z.toNat P P.length))
      (fun i _ hi _=>by
       refine ⟨(),trivial,?_⟩;have ew:Ar.std.wrp .i64 (Ar.std.zadd (i:Int) 1)=((i+1:Nat):Int):=by simp only [a0i,a0k];exact a1Y (n:=100) (by omega) (by omega)
       unfold b1o;dsimp only;refine cnT (by simp;omega) (bt (b5T hp hk hO hi (ndA z.toNat P i) (by have:=hA i;omega)) ?_);rw [ew,a7W])
      (fun _ _=>by
       unfold b1o;dsimp only;exact cnF (by simp) rfl) () trivial
     obtain ⟨_,_,h⟩:=key;unfold M44;exact bt e57 (cnT rfl (bt f5 (bt (show iter (b1o Ar.std (eP P) z (a0D Q)) ([],0)=_ from h) rfl)))
theorem c0F (P:Pg) (hP:P.length<9223372036854775808) (hl : ∀ t∈P,t.length<9223372036854775808) (z:Int):M10 Ar.std (eP P) z=some true:=by
 obtain ⟨q,e,hq⟩:=b9N P hP hl;unfold M10;cases q with
 | true=>exact bt e (cnT rfl (bt b6F rfl))
 | false =>
   have hS:=hq rfl;obtain ⟨b,c,e1,e2⟩:=b8z hS;obtain ⟨l,c',hl',e3,e4⟩:=b8B hS z;have self:Ar.std.beq b b=true:=by cases b <;> rfl
   have key:=a5g (step:=b2j Ar.std (eN l) (eN l)) l (fun _=>false) (.inr ()) (.inl ()) (fun i x hx hi=>by
    have ew:Ar.std.wrp .i64 (Ar.std.zadd (i:Int) 1)=((i+1:Nat):Int):=by simp only [a0i,a0k];exact a1Y (n:=100000) (by omega) (by omega)
    unfold b2j;refine cnT (by simp;omega) (bt (a0R hx) (bt (a0R hx) (cnT (by simp) ?_)));rw [ew];rfl) (by
    unfold b2j;exact cnF (by simp) rfl)
   have:(l.any fun _=>false)=false:=by simp
   rw [this] at key;refine bt e (cnF rfl (bt e1 (bt e2 (bt e3 (bt e4 (bt (v:=false) (cnT self (cnT (by simp) (cnT (by simp) (by simp)))) (cnF rfl (bt key (bt b6F rfl)))))))))
end Go.Am
