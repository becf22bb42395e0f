import Derived.Test.YtlljehkmemajkaaML15
import Derived.Test.YtlljehkmemajkaaGenp0
set_option maxRecDepth 100000
set_option maxHeartbeats 2000000
set_option linter.unusedVariables false
set_option linter.unusedSimpArgs false
set_option linter.unusedSectionVars false
namespace Go.Am
open Go
abbrev Pt:=Nat×Nat
def acA (P:Pg) (x:Pt):Ac:=aAt (thr P x.1) x.2
def a6h (a b:Ac):Prop:=a.1=3\/b.1=3\/a.2.1≠b.2.1\/(a.1≠2/\b.1≠2)
theorem a6h.symm {a b:Ac} (h:a6h a b):a6h b a:=by
 rcases h with h | h | h | h
 ·exact .inr (.inl h)
 ·exact .inl h
 ·exact .inr (.inr (.inl fun e=>h e.symm))
 exact .inr (.inr (.inr ⟨h.2,h.1⟩))
theorem b3c {a b:Ac} (h : ¬ a6h a b):a.1≠3/\b.1≠3/\a.2.1=b.2.1/\(a.1=2\/b.1=2):=by
 unfold a6h at h;refine ⟨fun e=>h (.inl e),fun e=>h (.inr (.inl e)),?_,?_⟩
 ·exact Classical.byContradiction fun e=>h (.inr (.inr (.inl e)))
 exact Classical.byContradiction fun e=>h (.inr (.inr (.inr ⟨fun g=>e (.inl g),fun g=>e (.inr g)⟩)))
def ex (P:Pg) (s:AS) (L:List Pt):AS:=L.foldl (fun s x=>doA 3 P s x.1 x.2) s
theorem b9I {s u:AS} (h1:s.dn=u.dn) (h2:s.rd=u.rd) (h3:s.bf=u.bf) (h4:s.ce=u.ce):s=u:=by
 cases s;cases u;simp only at h1 h2 h3 h4;subst h1 h2 h3 h4
 rfl
section
variable {P:Pg} {s:AS}
theorem b6E {k:Nat} (hk:k≠2) (t i:Nat):doA k P s t i=doA 3 P s t i:=by simp [doA,hk]
theorem b5n (x:Pt) (y:Pt):(doA 3 P s x.1 x.2).dn y.1 y.2=if y=x then true else s.dn y.1 y.2:=by
 obtain ⟨t,i⟩:=x;obtain ⟨u,j⟩:=y;simp only [doA,fup,Prod.mk.injEq];by_cases h1:u=t
 ·subst h1;by_cases h2:j=i <;> simp [fup,h2]
 simp [fup,h1]
theorem a3Y (x:Pt):(doA 3 P s x.1 x.2).bf=s.bf:=by simp [doA]
theorem a6z (x:Pt) (c:Int):(doA 3 P s x.1 x.2).ce c=if (acA P x).1=2/\c=(acA P x).2.1 then (acA P x).2.2 else s.ce c:=by
 simp only [doA,acA,fup];by_cases h:(aAt (thr P x.1) x.2).1=2
 ·simp [h,fup]
 simp [h]
theorem a8C (hb : ∀ t,s.bf t=[]) (x y:Pt):(doA 3 P s x.1 x.2).rd y.1 y.2=if (acA P x).1=1/\y=x then s.ce (acA P x).2.1 else s.rd y.1 y.2:=by
 obtain ⟨t,i⟩:=x;obtain ⟨u,j⟩:=y;simp only [doA,acA,fup,Prod.mk.injEq];by_cases h:(aAt (thr P t) i).1=1
 ·by_cases h1:u=t
  ·subst h1;by_cases h2:j=i <;> simp [fup,h,sn,hb,h2]
  simp [fup,h,h1]
 simp [h]
theorem b4B (hb : ∀ t,s.bf t=[]) {x y:Pt} (hxy:x≠y) (hi:a6h (acA P x) (acA P y)):doA 3 P (doA 3 P s x.1 x.2) y.1 y.2=doA 3 P (doA 3 P s y.1 y.2) x.1 x.2:=by
 have hbx : ∀ t,(doA 3 P s x.1 x.2).bf t=[]:=fun t=>by rw [a3Y];exact hb t
 have hby : ∀ t,(doA 3 P s y.1 y.2).bf t=[]:=fun t=>by rw [a3Y];exact hb t
 have ne1 : ¬ ((acA P y).1=1/\(acA P x).1=2/\(acA P y).2.1=(acA P x).2.1):=by
  rintro ⟨h1,h2,h3⟩;rcases hi with h | h | h | h
  ·omega
  ·omega
  ·exact h h3.symm
  exact h.1 h2
 have ne2 : ¬ ((acA P x).1=1/\(acA P y).1=2/\(acA P x).2.1=(acA P y).2.1):=by
  rintro ⟨h1,h2,h3⟩;rcases hi with h | h | h | h
  ·omega
  ·omega
  ·exact h h3
  exact h.2 h2
 have ne3 : ¬ ((acA P x).1=2/\(acA P y).1=2/\(acA P x).2.1=(acA P y).2.1):=by
  rintro ⟨h1,h2,h3⟩;rcases hi with h | h | h | h
  ·omega
  ·omega
  ·exact h h3
  exact h.2 h2
 refine b9I ?_ ?_ ?_ ?_
 ·funext t i;have:=fun (s:AS) (x:Pt)=>b5n (P:=P) (s:=s) x (t,i);simp only at this;rw [this,this,this,this];by_cases h1:(t,i)=x <;> by_cases h2:(t,i)=y <;> simp [h1,h2]
 ·funext t i;have e1:=a8C (P:=P) hbx y (t,i);have e2:=a8C (P:=P) hby x (t,i);have e3:=a8C (P:=P) hb x (t,i);have e4:=a8C (P:=P) hb y (t,i);simp only at e1 e2 e3 e4;rw [e1,e2,e3,e4,a6z,a6z];by_cases h1:(acA P y).1=1/\(t,i)=y
  ·have h2 : ¬ ((acA P x).1=1/\(t,i)=x):=fun h=>hxy (h.2.symm.trans h1.2);have h3 : ¬ ((acA P x).1=2/\(acA P y).2.1=(acA P x).2.1):=fun h=>ne1 ⟨h1.1,h⟩;rw [if_pos h1,if_neg h2,if_neg h3,if_pos h1]
  rw [if_neg h1,if_neg h1];by_cases h2:(acA P x).1=1/\(t,i)=x
  ·have h3 : ¬ ((acA P y).1=2/\(acA P x).2.1=(acA P y).2.1):=fun h=>ne2 ⟨h2.1,h⟩;rw [if_pos h2,if_pos h2,if_neg h3]
  rw [if_neg h2,if_neg h2]
 ·rw [a3Y,a3Y,a3Y,a3Y]
 funext c;rw [a6z,a6z,a6z,a6z];by_cases h1:(acA P y).1=2/\c=(acA P y).2.1
 ·have h2 : ¬ ((acA P x).1=2/\c=(acA P x).2.1):=fun h=>ne3 ⟨h.1,h1.1,h.2.symm.trans h1.2⟩;rw [if_pos h1,if_neg h2,if_pos h1]
 rw [if_neg h1,if_neg h1]
end
theorem b8i {P:Pg} : ∀ (L:List Pt) (s:AS),(ex P s L).bf=s.bf
 | [],_=>rfl
 | x::L,s=>(b8i L (doA 3 P s x.1 x.2)).trans (a3Y x)
theorem b5o {P:Pg} (s:AS) (L M:List Pt):ex P s (L++M)=ex P (ex P s L) M:=by unfold ex;rw [List.foldl_append]
theorem b3d {P:Pg} {f:Pt} {l2:List Pt} : ∀ (l1:List Pt) (s:AS),(∀ t,s.bf t=[])->(∀ y∈l1,y≠f/\a6h (acA P y) (acA P f))->ex P s (l1++f::l2)=ex P s (f::(l1++l2))
 | [],_,_,_=>rfl
 | y::l1,s,hb,h=>by
   have hb' : ∀ t,(doA 3 P s y.1 y.2).bf t=[]:=fun t=>by rw [a3Y];exact hb t
   have ih:=b3d (f:=f) (l2:=l2) l1 (doA 3 P s y.1 y.2) hb' fun z hz=>h z (List.mem_cons_of_mem _ hz);obtain ⟨h1,h2⟩:=h y (List.mem_cons_self ..);show ex P (doA 3 P s y.1 y.2) (l1++f::l2)=_;rw [ih];show ex P (doA 3 P (doA 3 P s y.1 y.2) f.1 f.2) (l1++l2)=ex P (doA 3 P (doA 3 P s f.1 f.2) y.1 y.2) (l1++l2);rw [b4B hb h1 h2]
theorem b6F {P:Pg} (pos:Pt->Nat) (before:Pt->Pt->Prop) (A:Pt->Prop)
  (H : ∀ L:List Pt,L≠[]->L.Pairwise (fun x y=>pos x<pos y)->(∀ y∈L,A y) -> ∃ f∈L,(∀ y∈L,y≠f->before f y) /\ ∀ y∈L,pos y<pos f->a6h (acA P y) (acA P f)) :
  ∀ (n:Nat) (L:List Pt),L.length=n->L.Pairwise (fun x y=>pos x<pos y)->(∀ y∈L,A y) -> ∀ s:AS,(∀ t,s.bf t=[]) -> ∃ L',L'.Perm L/\L'.Pairwise before/\ex P s L'=ex P s L:=by
 intro n
 induction n with
 | zero =>
   intro L hL _ _ s _;obtain rfl:=List.length_eq_zero_iff.1 hL;exact ⟨[],.refl _,.nil,rfl⟩
 | succ n ih =>
   intro L hL hs hA s hb;obtain ⟨f,hf,h1,h2⟩:=H L (by intro e;rw [e] at hL;cases hL) hs hA;obtain ⟨l1,l2,rfl⟩:=List.append_of_mem hf;have hs':=hs;rw [List.pairwise_append] at hs;obtain ⟨p1,p2,p3⟩:=hs;rw [List.pairwise_cons] at p2;have hlt : ∀ y∈l1,pos y<pos f:=fun y hy=>p3 y hy f (by simp);have hsub:(l1++l2).Sublist (l1++f::l2):=List.Sublist.append (List.Sublist.refl _) (List.sublist_cons_self ..);have hbf : ∀ t,(doA 3 P s f.1 f.2).bf t=[]:=fun t=>by rw [a3Y];exact hb t
   obtain ⟨M,m1,m2,m3⟩:=ih (l1++l2) (by simp at hL ⊢;omega) (hs'.sublist hsub) (fun y hy=>hA y (hsub.subset hy)) _ hbf;refine ⟨f::M,(List.Perm.cons f m1).trans List.perm_middle.symm,List.pairwise_cons.2 ⟨fun y hy => ?_,m2⟩,?_⟩
   ·have hy:=m1.subset hy;refine h1 y (hsub.subset hy) fun e => ?_;subst e;rcases List.mem_append.1 hy with hy | hy
    ·exact Nat.lt_irrefl _ (hlt y hy)
    exact Nat.lt_irrefl _ (p2.1 y hy)
   rw [b3d l1 s hb fun y hy=>⟨fun e=>by subst e;exact Nat.lt_irrefl _ (hlt y hy),h2 y (List.mem_append_left _ hy) (hlt y hy)⟩];exact m3
inductive Trc (k:Nat) (P:Pg):List Pt->Prop
 | nil:Trc k P []
 | snoc {L:List Pt} {x:Pt} (h:Trc k P L) (h1:x.1<P.length) (h2:x.2<(thr P x.1).length) (h3:x∉L) (h4 : ∀ j,j<x.2->must k (acA P x) (acA P (x.1,j))->(x.1,j)∈L):Trc k P (L++[x])
theorem b8j {P:Pg} (y:Pt) : ∀ (L:List Pt) (s:AS),(ex P s L).dn y.1 y.2=true↔y∈L\/s.dn y.1 y.2=true
 | [],s=>by simp [ex]
 | x::L,s=>by
   have e:ex P s (x::L)=ex P (doA 3 P s x.1 x.2) L:=rfl;rw [e,b8j y L,b5n];by_cases h:y=x <;> simp [h]
theorem a6A {P:Pg} (y:Pt) (L:List Pt):(ex P AS.init L).dn y.1 y.2=true↔y∈L:=by
 rw [b8j];simp [AS.init]
theorem a9Y {k:Nat} (hk:k≠2) {P:Pg} {u:AS}:Stps k P AS.init u ↔ ∃ L,Trc k P L/\u=ex P AS.init L:=by
 constructor
 ·intro h
  induction h with
  | refl=>exact ⟨[],.nil,rfl⟩
  | tail h h' ih =>
    obtain ⟨L,hL,rfl⟩:=ih;cases h' with
    | out t ht hk2=>exact absurd hk2 hk
    | act t i ht hi hm =>
      refine ⟨L++[(t,i)],.snoc hL ht hi ?_ fun j hj hmu => ?_,?_⟩
      ·intro hx;have:=(a6A (P:=P) (t,i) L).2 hx;have h1:(ex P AS.init L).dn t i=false:=hm.1;simp only at this;rw [h1] at this;cases this
      ·exact (a6A (P:=P) (t,j) L).1 (hm.2.1 j hj hmu)
      rw [b5o,b6E hk];rfl
 rintro ⟨L,hL,rfl⟩
 induction hL with
 | nil=>exact .refl _
 | @snoc L x hL h1 h2 h3 h4 ih =>
   refine .tail ih ?_;rw [b5o];have:ex P (ex P AS.init L) [x]=doA k P (ex P AS.init L) x.1 x.2:=by rw [b6E hk];rfl
   rw [this];refine .act _ _ h1 h2 ⟨?_,fun j hj hmu => ?_,fun hk2=>absurd hk2 hk⟩
   ·show (ex P AS.init L).dn x.1 x.2=false;rw [Bool.eq_false_iff];exact fun h=>h3 ((a6A x L).1 h)
   exact (a6A (P:=P) (x.1,j) L).2 (h4 j hj hmu)
theorem Trc.pos {k:Nat} {P:Pg} {L:List Pt} (h:Trc k P L) : ∃ pos:Pt->Nat,L.Pairwise (fun x y=>pos x<pos y)/\(∀ y∈L,pos y<L.length) /\
  ∀ x∈L,∀ j,j<x.2->must k (acA P x) (acA P (x.1,j))->(x.1,j)∈L/\pos (x.1,j)<pos x:=by
 induction h with
 | nil=>exact ⟨fun _=>0,.nil,fun y hy=>(by cases hy),fun y hy=>(by cases hy)⟩
 | @snoc L x hL h1 h2 h3 h4 ih =>
   obtain ⟨pos,p1,p2,p3⟩:=ih;have hne : ∀ y∈L,y≠x:=fun y hy e=>h3 (e▸hy);have e : ∀ y∈L,(if y=x then L.length else pos y)=pos y:=fun y hy=>if_neg (hne y hy)
   refine ⟨fun y=>if y=x then L.length else pos y,?_,?_,?_⟩
   ·rw [List.pairwise_append];refine ⟨?_,by simp,fun y hy z hz => ?_⟩
    ·refine (List.Pairwise.imp_of_mem ?_ p1);intro a b ha hb hab;show (if a=x then L.length else pos a)<(if b=x then L.length else pos b)
     rw [e a ha,e b hb];exact hab
    rw [List.mem_singleton] at hz;subst hz;show (if y=z then L.length else pos y)<(if z=z then L.length else pos z)
    rw [e y hy,if_pos rfl];exact p2 y hy
   ·intro y hy;rw [List.length_append,List.length_singleton];rcases List.mem_append.1 hy with hy | hy
    ·simp only [e y hy];have:=p2 y hy;omega
    rw [List.mem_singleton] at hy;subst hy;simp
   intro y hy j hj hmu;rcases List.mem_append.1 hy with hy | hy
   ·obtain ⟨q1,q2⟩:=p3 y hy j hj hmu;simp only [e y hy,e _ q1];exact ⟨List.mem_append_left _ q1,q2⟩
   rw [List.mem_singleton] at hy;subst hy;have q1:=h4 j hj hmu;simp only [e _ q1,if_true];exact ⟨List.mem_append_left _ q1,p2 _ q1⟩
theorem Trc.dom {k:Nat} {P:Pg} {L:List Pt} (h:Trc k P L) : ∀ x∈L,x.1<P.length/\x.2<(thr P x.1).length:=by
 induction h with
 | nil=>exact fun y hy=>(by cases hy)
 | snoc hL h1 h2 h3 h4 ih =>
   intro y hy;rcases List.mem_append.1 hy with hy | hy
   ·exact ih y hy
   rw [List.mem_singleton] at hy;subst hy;exact ⟨h1,h2⟩
def Whole (P:Pg) (L:List Pt):Prop := ∀ t i,t<P.length->i<(thr P t).length->(t,i)∈L
theorem a6B {P:Pg} {L:List Pt}:b6d P (ex P AS.init L)↔Whole P L:=by
 constructor
 ·intro h t i ht hi;exact (a6A (P:=P) (t,i) L).1 ((h t ht).1 i hi)
 intro h t ht;exact ⟨fun i hi=>(a6A (P:=P) (t,i) L).2 (h t i ht hi),by rw [b8i];rfl⟩
theorem b3e {k:Nat} (hk:k≠2) {P:Pg} {o:List Int}:Can k P o ↔ ∃ L,Trc k P L/\Whole P L/\b3v P (ex P AS.init L)=o:=by
 constructor
 ·rintro ⟨s,h1,h2,h3⟩;obtain ⟨L,hL,rfl⟩:=(a9Y hk).1 h1;exact ⟨L,hL,a6B.1 h2,h3⟩
 rintro ⟨L,h1,h2,h3⟩;exact ⟨_,(a9Y hk).2 ⟨L,h1,rfl⟩,a6B.2 h2,h3⟩
theorem least {α:Type} (f:α->Nat) (p:α->Prop) (h : ∃ a,p a) : ∃ a,p a /\ ∀ b,p b->f a<=f b:=by
 have key : ∀ (n:Nat) (a:α),f a<n->p a -> ∃ a,p a /\ ∀ b,p b->f a<=f b:=by
  intro n
  induction n with
  | zero=>intro a h;omega
  | succ n ih =>
    intro a ha hp;by_cases hb : ∃ b,p b/\f b<f a
    ·obtain ⟨b,h1,h2⟩:=hb;exact ih b (by omega) h1
    exact ⟨a,hp,fun b hb'=>Nat.le_of_not_lt fun hlt=>hb ⟨b,hb',hlt⟩⟩
 obtain ⟨a,ha⟩:=h;exact key _ a (Nat.lt_succ_self _) ha
def cfl (P:Pg) (x y:Pt):Prop:=x.1≠y.1 /\ ¬ a6h (acA P x) (acA P y)
def inP (P:Pg) (x:Pt):Prop:=x.1<P.length/\x.2<(thr P x.1).length
def stn (P:Pg) (t a b:Nat):Prop:=inP P (t,a)/\inP P (t,b)/\(acA P (t,a)).1≠3/\(acA P (t,b)).1≠3/\(a=b\/(a<b/\(acA P (t,a)).2.1≠(acA P (t,b)).2.1))
def b3f (P:Pg) (t a b:Nat):Prop := ∃ c,a<c/\c<b/\(acA P (t,c)).1=3
structure NC (P:Pg):Prop where
 n2 : ∀ t a b u c d,stn P t a b->stn P u c d->cfl P (t,b) (u,c)->cfl P (u,d) (t,a)->(a<b->b3f P t a b)/\(c<d->b3f P u c d)
 n3 : ∀ t a b u c d v e f,t≠v->stn P t a b->stn P u c d->stn P v e f->cfl P (t,b) (u,c)->cfl P (u,d) (v,e)->cfl P (v,f) (t,a)->(a<b->b3f P t a b)/\(c<d->b3f P u c d)/\(e<f->b3f P v e f)
def b3g (P:Pg):Prop := ∀ x y,inP P x->inP P y->x.1≠y.1->a6h (acA P x) (acA P y)
def lexB (x y:Pt):Prop:=x.1<y.1\/(x.1=y.1/\x.2<y.2)
theorem b3h {L:List Pt} (h:L≠[]) : ∃ f∈L,∀ y∈L,y≠f->lexB f y:=by
 obtain ⟨x,hx⟩:=List.exists_mem_of_ne_nil L h;obtain ⟨t,⟨i,hi⟩,h2⟩:=least (fun t=>t) (fun t => ∃ i,(t,i)∈L) ⟨x.1,x.2,hx⟩;obtain ⟨f,hf,h4⟩:=least (fun i=>i) (fun i=>(t,i)∈L) ⟨i,hi⟩;refine ⟨(t,f),hf,fun y hy hne => ?_⟩;obtain ⟨u,j⟩:=y;have h5:t<=u:=h2 u ⟨j,hy⟩;unfold lexB;simp only;rcases Nat.lt_or_eq_of_le h5 with g | g
 ·exact .inl g
 subst g;have h6:f<=j:=h4 j hy;rcases Nat.lt_or_eq_of_le h6 with g | g
 ·exact .inr ⟨rfl,g⟩
 subst g;exact absurd rfl hne
theorem a8D {P:Pg} (hn:b3g P) {L:List Pt} (hL:Trc 3 P L) : ∃ L',L'.Perm L/\L'.Pairwise lexB/\ex P AS.init L'=ex P AS.init L:=by
 obtain ⟨pos,p1,_,p3⟩:=hL.pos;have hdom:=hL.dom;refine b6F (P:=P) pos lexB (fun x=>x∈L) ?_ L.length L rfl p1 (fun y hy=>hy) AS.init (fun _=>rfl);intro M hne hs hsub;obtain ⟨f,hf,h1⟩:=b3h hne;refine ⟨f,hf,h1,fun y hy hlt => ?_⟩;by_cases ht:y.1=f.1
 ·obtain ⟨u,j⟩:=y;obtain ⟨t,i⟩:=f;simp only at ht;subst ht;refine Classical.byContradiction fun hi => ?_;obtain ⟨n1,n2,n3,_⟩:=b3c hi;have hne2:(u,j)≠(u,i):=fun e=>by rw [e] at hlt;omega
  have hj:i<j:=by
   rcases h1 _ hy hne2 with g | ⟨_,g⟩
   ·simp at g
   exact g
  have:pos (u,i)<pos (u,j):=(p3 (u,j) (hsub _ hy) i hj (.inr (.inr (.inr n3)))).2;omega
 exact hn y f (hdom _ (hsub _ hy)) (hdom _ (hsub _ hf)) ht
theorem b4C : ∀ {L M:List Pt},L.Perm M->L.Pairwise lexB->M.Pairwise lexB->L=M:=by
 intro L M hp h1 h2;refine hp.eq_of_pairwise (fun a b _ _ hab hba => ?_) h1 h2;unfold lexB at hab hba;omega
theorem a7m {P:Pg} (hn:b3g P) {o o':List Int} (h:Can 3 P o) (h':Can 3 P o'):o=o':=by
 obtain ⟨L,hL,hw,ho⟩:=(b3e (by decide)).1 h;obtain ⟨M,hM,hw',ho'⟩:=(b3e (by decide)).1 h';obtain ⟨L1,a1,a2,a3⟩:=a8D hn hL;obtain ⟨M1,b1,b2,b3⟩:=a8D hn hM;have hnd : ∀ {K:List Pt},K.Pairwise lexB->K.Nodup:=fun hk=>hk.imp fun hab e=>by
  subst e;unfold lexB at hab;omega
 have hp:L1.Perm M1:=by
  refine (List.perm_ext_iff_of_nodup (hnd a2) (hnd b2)).2 fun x => ?_;constructor
  ·intro hx;have:=hL.dom x (a1.mem_iff.1 hx);exact b1.mem_iff.2 (hw' x.1 x.2 this.1 this.2)
  intro hx;have:=hM.dom x (b1.mem_iff.1 hx);exact a1.mem_iff.2 (hw x.1 x.2 this.1 this.2)
 have:=b4C hp a2 b2;subst this;rw [<-ho,<-ho',<-a3,b3]
def fenced (P:Pg):Prop := ∀ t i,i+1<(thr P t).length->(acA P (t,i)).1=3\/(acA P (t,i+1)).1=3
structure SP (P:Pg) (s:Sta) (n:Nat->Nat):Prop where
 k:WfK 1 P s
 b : ∀ t,t<3 -> ∀ j,btI (s t) j=decide (j<n t)
 l : ∀ t,n t<=(thr P t).length
theorem SP.init (P:Pg):SP P s0 (fun _=>0):=⟨WfK.init 1 P,fun t ht j=>by unfold btI s0;simp,fun t=>Nat.zero_le _⟩
theorem b3i (P:Pg) (s:Sta) (t i:Nat) {u:Nat} (hu:u<3):doS P s t i u=dS s t i u:=by
 unfold doS;split
 ·rw [a0c _ _ _ (by omega)]
 split
 ·rw [a0c _ _ _ (by omega)]
 rfl
section
variable {P:Pg} (hv:VP P) {s:Sta} {n:Nat->Nat} (h:SP P s n)
include hv h
theorem SP.nxe {t:Nat} (ht:t<3):nx s t=n t:=by
 obtain ⟨h1,h2,_⟩:=a7a hv h.k.wf ht;have hb:=h.b t ht;rcases Nat.lt_trichotomy (nx s t) (n t) with g | g | g
 ·rw [hb,decide_eq_true g] at h2;cases h2
 ·exact g
 have:=h1 _ g;rw [hb,decide_eq_false (Nat.lt_irrefl _)] at this;cases this
theorem SP.step {t:Nat} (ht:t<P.length) (hi:n t<(thr P t).length):SP P (doS P s t (n t)) (fup n t (n t+1)):=by
 have ht3:=lt3 hv ht;have hb:btI (s t) (n t)=false:=by rw [h.b t ht3];simp
 have hw:=b5c hv h.k ht hi hb;have e:a3C 1 P s t (n t)=doS P s t (n t):=by unfold a3C;simp
 rw [e] at hw;refine ⟨hw,fun u hu j => ?_,fun u => ?_⟩
 ·rw [b3i P s t _ hu];unfold dS;by_cases hut:u=t
  ·subst hut;rw [a0g,a0g,a5D,h.b u hu];rw [Bool.eq_iff_iff];simp;omega
  rw [a0c _ _ _ hut,a0c _ _ _ hut];exact h.b u hu j
 by_cases hut:u=t
 ·subst hut;rw [a0g];omega
 rw [a0c _ _ _ hut];exact h.l u
theorem SP.over:a2B P s=true ↔ ∀ t,t<P.length->n t=(thr P t).length:=by
 unfold a2B;rw [List.all_eq_true];constructor
 ·intro hh t ht;have:=hh t (List.mem_range.2 ht);rw [zp4,decide_eq_true_eq] at this;obtain ⟨d0,d1⟩:=h.k.wf.d t (lt3 hv ht);have hl:=h.l t;rcases Nat.lt_or_eq_of_le hl with g | g
  ·have:=(a6Z d0 d1).1 this.1 _ g;rw [h.b t (lt3 hv ht)] at this;simp at this
  exact g
 intro hh t ht;have ht:=List.mem_range.1 ht;obtain ⟨d0,d1⟩:=h.k.wf.d t (lt3 hv ht);rw [zp4,decide_eq_true_eq];refine ⟨(a6Z d0 d1).2 fun i hi => ?_,?_⟩
 ·rw [h.b t (lt3 hv ht),hh t ht];simpa using hi
 rw [h.k.nb (by decide) t (lt3 hv ht)];rfl
end
def run (P:Pg):Sta->List Nat->Option Sta
 | s,[]=>some s
 | s,t::w=>if t<P.length/\nx s t<(thr P t).length then run P (doS P s t (nx s t)) w else none
def Gd (P:Pg) (s:Sta) (o:List Int) (w:List Nat):Prop := ∃ s',run P s w=some s'/\a2B P s'=true/\a2P P s'=o
theorem b3j {P:Pg} : ∀ {w w':List Nat} {s s':Sta},run P s w=some s'->run P s (w++w')=run P s' w'
 | [],_,s,s',h=>by cases h;rfl
 | t::w,w',s,s',h=>by
   unfold run at h;by_cases hc:t<P.length/\nx s t<(thr P t).length
   ·rw [if_pos hc] at h;rw [List.cons_append,run,if_pos hc];exact b3j h
   rw [if_neg hc] at h;cases h
theorem b5p {P:Pg} (hv:VP P) : ∀ {w:List Nat} {s s':Sta} {n:Nat->Nat},SP P s n->run P s w=some s'->(∃ n',SP P s' n')/\Stps 1 P (vw P s) (vw P s')
 | [],s,s',n,h,hr=>by cases hr;exact ⟨⟨n,h⟩,.refl _⟩
 | t::w,s,s',n,h,hr=>by
   unfold run at hr;by_cases hc:t<P.length/\nx s t<(thr P t).length
   ·rw [if_pos hc] at hr;have ht3:=lt3 hv hc.1;have e:=SP.nxe hv h ht3;have hs:=SP.step hv h hc.1 (e▸hc.2);rw [<-e] at hs;obtain ⟨h1,h2⟩:=b5p hv hs hr;refine ⟨h1,Stps.trans (Stps.one ?_) h2⟩;have hm:a8F 1 (thr P t) ((vw P s).t t) (nx s t):=(a4I hv h.k hc.1 (by decide) hc.2).2 ⟨rfl,fun hk=>by cases hk⟩;have ea:=b2H hv h.k hc.1 hc.2 (a5F (.inl rfl) hv h.k hc.1 hm);have e2:a3C 1 P s t (nx s t)=doS P s t (nx s t):=by unfold a3C;simp
    rw [e2] at ea;rw [ea];exact .act t _ hc.1 hc.2 hm
   rw [if_neg hc] at hr;cases hr
theorem b3k {P:Pg} (hv:VP P) {u:Sta} (h:Reach (scs 1 P) s0 u) : ∃ w,run P s0 w=some u:=by
 induction h with
 | init=>exact ⟨[],rfl⟩
 | @step s u hs hn ih =>
   obtain ⟨w,hw⟩:=ih;have hk:=(a1d (.inl rfl) hv hs).1;rcases (a2K (.inl rfl) hv hk).1 hn with ⟨t,i,ht,hi,hm,rfl⟩ | ⟨_,_,h2,_⟩
   ·refine ⟨w++[t],?_⟩;rw [b3j hw];have e:=((a4I hv hk ht (by decide) hi).1 hm).1;subst e;have e2:a3C 1 P s t (nx s t)=doS P s t (nx s t):=by unfold a3C;simp
    rw [run,if_pos ⟨ht,hi⟩,e2];rfl
   cases h2
theorem b5q {P:Pg} (hv:VP P) {o:List Int}:Can 1 P o ↔ ∃ w,Gd P s0 o w:=by
 constructor
 ·rintro ⟨a,h1,h2,rfl⟩;obtain ⟨u,hu,rfl⟩:=a4v (.inl rfl) hv h1;obtain ⟨w,hw⟩:=b3k hv hu;have hk:=(a1d (.inl rfl) hv hu).1;exact ⟨w,u,hw,(a3V hv hk.wf).2 h2,(a4w u).symm⟩
 rintro ⟨w,u,h1,h2,rfl⟩;obtain ⟨⟨n,hn⟩,h3⟩:=b5p hv (SP.init P) h1;rw [a9f] at h3;exact ⟨_,h3,(a3V hv hn.k.wf).1 h2,a4w u⟩
def und (P:Pg) (n:Nat->Nat):Nat:=((thr P 0).length-n 0)+((thr P 1).length-n 1)+((thr P 2).length-n 2)
theorem a3Z {P:Pg} {n:Nat->Nat} {t:Nat} (ht:t<3) (hi:n t<(thr P t).length):und P (fup n t (n t+1))+1=und P n:=by
 unfold und;rcases (show t=0\/t=1\/t=2 by omega) with rfl | rfl | rfl
 ·rw [a0g,a0c _ _ _ (by decide),a0c _ _ _ (by decide)];omega
 ·rw [a0g,a0c _ _ _ (by decide),a0c _ _ _ (by decide)];omega
 rw [a0g,a0c _ _ _ (by decide),a0c _ _ _ (by decide)];omega
theorem b3l {P:Pg} (hv:VP P) : ∀ {w:List Nat} {s s':Sta} {n:Nat->Nat},SP P s n->run P s w=some s' -> ∃ n',SP P s' n'/\w.length+und P n'=und P n
 | [],s,s',n,h,hr=>by cases hr;exact ⟨n,h,by simp⟩
 | t::w,s,s',n,h,hr=>by
   unfold run at hr;by_cases hc:t<P.length/\nx s t<(thr P t).length
   ·rw [if_pos hc] at hr;have ht3:=lt3 hv hc.1;have e:=SP.nxe hv h ht3;have hs:=SP.step hv h hc.1 (e▸hc.2);have hu:=a3Z ht3 (e▸hc.2);rw [<-e] at hs hu;obtain ⟨n',h1,h2⟩:=b3l hv hs hr;refine ⟨n',h1,?_⟩;simp only [List.length_cons];omega
   rw [if_neg hc] at hr;cases hr
theorem a4Y {P:Pg} (hv:VP P) {s:Sta} {n:Nat->Nat} (h:SP P s n):a2B P s=true↔und P n=0:=by
 rw [SP.over hv h];have h0:=h.l 0;have h1:=h.l 1;have h2:=h.l 2;unfold und;constructor
 ·intro hh;have key : ∀ t,(thr P t).length-n t=0:=fun t=>by
   by_cases ht:t<P.length
   ·rw [hh t ht];omega
   rw [a1U (by omega)];simp
  rw [key 0,key 1,key 2]
 intro hh t ht;rcases (show t=0\/t=1\/t=2 by have:=lt3 hv ht;omega) with rfl | rfl | rfl <;> omega
theorem a9Z {P:Pg} (hv:VP P) {s:Sta} {n:Nat->Nat} (h:SP P s n) {o:List Int} {w:List Nat} (hg:Gd P s o w):w.length=und P n:=by
 obtain ⟨s',h1,h2,_⟩:=hg;obtain ⟨n',g1,g2⟩:=b3l hv h h1;have:=(a4Y hv g1).1 h2;omega
abbrev iW (w:List Nat):List Int:=w.map fun t:Nat=>(t:Int)
def eMB (L:List Sta):List (D×D):=L.map fun s=>(.agg (eS s),.bool true)
theorem b9J {n:Sta} (hn : ∀ i,41<=i->n i=0) : ∀ {L:List Sta},ZL L->lk Ar.std cB (eMB L) (.agg (eS n))=some (if n∈L then some true else none):=by
 have key : ∀ {L:List Sta},ZL L->Am.mget (eMB L) (.agg (eS n))=if n∈L then some (.bool true) else none:=by
  intro L
  induction L with
  | nil=>intro _;simp [eMB,Am.mget]
  | cons s L ih =>
    intro hL;have ih:=ih (fun u hu=>hL u (by simp [hu]));unfold eMB at ih ⊢;simp only [List.map_cons,Am.mget];by_cases h:s=n
    ·subst h;simp
    have : ¬ (D.agg (eS s)=D.agg (eS n)):=fun e=>h (a9M (by injection e) (hL s (by simp)) hn);rw [if_neg this,ih];by_cases hm:n∈L
    ·rw [if_pos hm,if_pos (by simp [hm])]
    rw [if_neg hm,if_neg (by simp [hm];exact fun e=>h e.symm)]
 intro L hL;unfold lk;have e:Ar.std.mget (eMB L) (.agg (eS n))=Am.mget (eMB L) (.agg (eS n)):=rfl;rw [e,key hL];by_cases hm:n∈L
 ·rw [if_pos hm,if_pos hm];rfl
 rw [if_neg hm,if_neg hm];rfl
theorem b8k {n:Sta} (hn : ∀ i,41<=i->n i=0) : ∀ {L:List Sta},ZL L -> ∃ L',Ar.std.mput (eMB L) (.agg (eS n)) (.bool true)=eMB L' /\ ∀ u∈L',u∈L\/u=n
 | [],_=>⟨[n],rfl,fun u hu => .inr (List.mem_singleton.1 hu)⟩
 | s::L,hL=>by
   obtain ⟨L',h1,h2⟩:=b8k hn (L:=L) (fun u hu=>hL u (by simp [hu]));by_cases h:s=n
   ·subst h;refine ⟨s::L,?_,fun u hu => .inl hu⟩;show Am.mput _ _ _=_;unfold eMB;simp [Am.mput]
   refine ⟨s::L',?_,fun u hu => ?_⟩
   ·have : ¬ (D.agg (eS s)=D.agg (eS n)):=fun e=>h (a9M (by injection e) (hL s (by simp)) hn);have h1':Am.mput (eMB L) (.agg (eS n)) (.bool true)=eMB L':=h1;show Am.mput _ _ _=_;unfold eMB at h1' ⊢;simp only [List.map_cons,Am.mput];rw [if_neg this,h1']
   rcases List.mem_cons.1 hu with rfl | hu
   ·exact .inl (by simp)
   exact (h2 u hu).imp (fun h=>by simp [h]) id
def Bad (P:Pg) (o:List Int) (L:List Sta):Prop:=ZL L /\ ∀ u∈L,∀ w,¬ Gd P u o w
def First (P:Pg) (s:Sta) (o:List Int) (w:List Nat):Prop:=Gd P s o w /\ ∀ w',Gd P s o w'->b0W (iW w) (iW w')<=0
def c0f (P:Pg) (o:List Int) (s:Sta) (r:Option (List D×Bool×List (D×D))):Prop :=
 (∃ w m,r=some (a0i (iW w),true,m)/\First P s o w)\/(∃ L,Bad P o L/\r=some ([],false,eMB L) /\ ∀ w,¬ Gd P s o w)
theorem a2t {P:Pg} {s:Sta} {o:List Int} {t:Nat} {w:List Nat}:Gd P s o (t::w)↔(t<P.length/\nx s t<(thr P t).length)/\Gd P (doS P s t (nx s t)) o w:=by
 unfold Gd;rw [run];by_cases hc:t<P.length/\nx s t<(thr P t).length
 ·rw [if_pos hc];exact ⟨fun h=>⟨hc,h⟩,fun h=>h.2⟩
 rw [if_neg hc];constructor
 ·rintro ⟨_,h,_⟩;cases h
 rintro ⟨h,_⟩;exact absurd h hc
theorem b3m {P:Pg} (hv:VP P) {o:List Int} (ho:GH o) : ∀ (f:Nat) {s:Sta} {n:Nat->Nat},SP P s n->und P n<f->f<=1000000 -> ∀ {L:List Sta},Bad P o L->c0f P o s (b6R Ar.std f (eP P) (a0i o) (eS s) (eMB L)):=by
 intro f
 induction f with
 | zero=>intro s n _ hf;omega
 | succ f ih =>
   intro s n h hf hfm L hL;have hwf:=h.k.wf;unfold b6R b8x;have ga1:ga Ar.std (eS s) (Ar.std.zadd 0 (Int.ofNat 0)) (Int.ofNat 41)=some (eS s):=gaS s (by simp);have c41:Ar.std.zeq (Ar.std.len (eS s)) (Int.ofNat 41)=true:=by rw [a4R];rfl
   cases hov:a2B P s with
   | true =>
     have hu:=(a4Y hv h).1 hov;have only : ∀ w,Gd P s o w->w=[]:=fun w hg=>by
      have:=a9Z hv h hg;exact List.length_eq_zero_iff.1 (by omega)
     have e:=b2y hv hwf;rw [hov] at e;have hlen:(a2P P s).length<4294967296:=by
      have:=a4J hv hwf;unfold a2P;simp;omega
     have val : ∀ (r:Option (List D×Bool×List (D×D))),some (([]:List D),decide (a2P P s=o),eMB L)=r->c0f P o s r:=by
      rintro r rfl;by_cases heq:a2P P s=o
      ·refine .inl ⟨[],eMB L,by rw [decide_eq_true heq];rfl,⟨s,rfl,hov,heq⟩,fun w' hg => ?_⟩;rw [only w' hg];decide
      refine .inr ⟨L,hL,by rw [decide_eq_false heq],fun w hg => ?_⟩;have:=only w hg;subst this;obtain ⟨s',h1,h2,h3⟩:=hg;cases h1;exact heq h3
     refine val _ (Eq.symm ?_);exact bck c41 (bt ga1 (bt e (cnT rfl (bt (b5f hv hwf) (bt (a9k hlen ho) rfl)))))
   | false =>
     have e:=b2y hv hwf;rw [hov] at e;have nov : ∀ w,Gd P s o w->w≠[]:=fun w hg hw=>by
      subst hw;obtain ⟨s',h1,h2,h3⟩:=hg;cases h1;rw [hov] at h2;cases h2
     by_cases hin:s∈L
     ·refine .inr ⟨L,hL,?_,hL.2 s hin⟩;refine bck c41 (bt ga1 (bt e (cnF rfl (bt (v:=true) (bck (a7f s) (bt (b9J hwf.z hL.1) ?_)) (cnT rfl rfl)))));rw [if_pos hin];rfl
     have key:=a1G (step:=a8K Ar.std (eP P) (a0i o) (eS s) (b6R Ar.std f)) P.length (fun (L:List Sta) i=>((i:Int),eMB L))
      (fun i L=>Bad P o L /\ ∀ t,t<i->nx s t<(thr P t).length -> ∀ w,¬ Gd P (doS P s t (nx s t)) o w) (fun i x => ∃ w m,x = .inr (a0i (iW w),m)/\First P s o w) (fun L => .inl (eMB L))
      (fun t L ht hR=>by
       obtain ⟨hB,hno⟩:=hR;have ht3:=lt3 hv ht;have hn3:=hv.n3;have en:=SP.nxe hv h ht3;have ew:Ar.std.wrp .i64 (Ar.std.zadd (t:Int) 1)=((t+1:Nat):Int):=by simp only [a0m,a0q];exact a2i (n:=10) (by omega) (by omega)
       by_cases hc:nx s t<(thr P t).length
       ·have hs:=SP.step hv h ht (en▸hc);have hu:=a3Z ht3 (en▸hc);rw [<-en] at hs hu;rcases ih hs (by omega) (by omega) hB with ⟨w,m,e1,hg,hf1⟩ | ⟨L',hB',e1,hng⟩
        ·have hwl:=a9Z hv hs hg;refine .inr ⟨_,⟨t::w,m,rfl,a2t.2 ⟨⟨ht,hc⟩,hg⟩,fun w' hg' => ?_⟩,?_⟩
         ·cases w' with
          | nil=>exact absurd rfl (nov _ hg')
          | cons t' w' =>
            obtain ⟨hc',hg2⟩:=a2t.1 hg';show b0W ((t:Int)::iW w) ((t':Int)::iW w')<=0;rw [b0W];rcases Nat.lt_trichotomy t' t with g | g | g
            ·exact absurd hg2 (hno t' g hc'.2 w')
            ·subst g;rw [if_pos rfl];exact hf1 w' hg2
            rw [if_neg (by omega)];omega
         unfold a8K;refine cnT (by simp;omega) (bt (a8r hv hwf ht3) (bt (a2r (a0O ht)) ?_));unfold jn;refine cnT (by simp;exact hc) (bt (a6y hv hwf ht hc) (bt e1 (cnT rfl ?_)));have ea:ap Ar.std [D.int .i64 (t:Int)] (a0i (iW w))=some (a0i (iW (t::w))):=by
          rw [a4E (by simp;omega)];rfl
         exact bt ea rfl
        refine .inl ⟨L',⟨hB',fun t' ht' hc' => ?_⟩,?_⟩
        ·rcases Nat.lt_or_eq_of_le (Nat.le_of_lt_succ ht') with g | g
         ·exact hno t' g hc'
         subst g;exact hng
        unfold a8K;refine cnT (by simp;omega) (bt (a8r hv hwf ht3) (bt (a2r (a0O ht)) ?_));unfold jn;refine cnT (by simp;exact hc) (bt (a6y hv hwf ht hc) (bt e1 (cnF rfl ?_)));rw [ew]
       refine .inl ⟨L,⟨hB,fun t' ht' hc' => ?_⟩,?_⟩
       ·rcases Nat.lt_or_eq_of_le (Nat.le_of_lt_succ ht') with g | g
        ·exact hno t' g hc'
        subst g;exact absurd hc' hc
       unfold a8K;refine cnT (by simp;omega) (bt (a8r hv hwf ht3) (bt (a2r (a0O ht)) ?_));unfold jn;refine cnF (by simp;omega) ?_;rw [ew])
      (fun L _=>by
       unfold a8K;exact cnF (by simp) rfl) L ⟨hL,fun t ht=>by omega⟩
     rcases key with ⟨L',⟨hB',hno⟩,hit⟩ | ⟨i,x,_,⟨w,m,rfl,hF⟩,hit⟩
     ·have hng : ∀ w,¬ Gd P s o w:=fun w hg=>by
       cases w with
       | nil=>exact nov _ hg rfl
       | cons t w =>
         obtain ⟨hc,hg2⟩:=a2t.1 hg;exact hno t hc.1 hc.2 w hg2
      obtain ⟨L2,hp,hm⟩:=b8k hwf.z hB'.1;refine .inr ⟨L2,⟨fun u hu => ?_,fun u hu => ?_⟩,?_,hng⟩
      ·rcases hm u hu with g | g
       ·exact hB'.1 u g
       subst g;exact hwf.z
      ·rcases hm u hu with g | g
       ·exact hB'.2 u g
       subst g;exact hng
      refine bck c41 (bt ga1 (bt e (cnF rfl (bt (v:=false) (bck (a7f s) (bt (b9J hwf.z hL.1) ?_)) (cnF rfl (bt hit ?_))))))
      ·rw [if_neg hin];rfl
      rw [Sum.elim_inl];refine bck (a7f s) ?_;rw [hp]
     refine .inl ⟨w,m,?_,hF⟩;refine bck c41 (bt ga1 (bt e (cnF rfl (bt (v:=false) (bck (a7f s) (bt (b9J hwf.z hL.1) ?_)) (cnF rfl (bt hit rfl))))));rw [if_neg hin];rfl
theorem b8l {P:Pg} (hv:VP P) {o:List Int} (ho:GH o) (hc:Can 1 P o) : ∃ w,First P s0 o w/\M28 Ar.std (eP P) (a0i o)=some (a0i (iW w),0):=by
 have e:=a9L (VP.short hv);rw [VP.to hv] at e;have hu:und P (fun _=>0)<fuel:=by
  have:=hv.l7 0;have:=hv.l7 1;have:=hv.l7 2;unfold und fuel;omega
 have hf:fuel<=1000000:=by unfold fuel;omega
 obtain ⟨w0,hw0⟩:=(b5q hv).1 hc;rcases b3m hv ho fuel (SP.init P) hu hf (L:=[]) ⟨fun u hu=>(by cases hu),fun u hu=>(by cases hu)⟩ with ⟨w,m,e1,hF⟩ | ⟨L,_,_,hng⟩
 ·refine ⟨w,hF,?_⟩;unfold M28;refine bt e (cnT rfl (bt (v:=(a0i (iW w),true,m)) ?_ (cnT rfl rfl)));unfold M70;exact e1
 exact absurd hw0 (hng w0)
def eF (f:Nat->Nat) (m:Nat):List D:=enc (cI .i64) ((List.range m).map fun i=>(f i:Int))
theorem a8E (f:Nat->Nat) {m i:Nat} (h:i<m):(eF f m)[i]?=some (.int .i64 (f i:Int)):=by
 unfold eF enc;rw [List.getElem?_map,List.getElem?_map,List.getElem?_range h];rfl
theorem b9K (f:Nat->Nat) {m i:Nat} (h:i<m) (v:Nat) {z:Int} (hz:z=v):Ar.std.lset (eF f m) (Ar.std.nat (Ar.std.zadd 0 (i:Int))) (.int .i64 z)=eF (fup f i v) m:=by
 subst hz;have e:Ar.std.nat (Ar.std.zadd 0 (i:Int))=i:=b6f (by simp);rw [e];show (eF f m).set i _=_;apply List.ext_getElem?;intro j;by_cases hj:j<m
 ·by_cases hij:i=j
  ·subst hij;rw [List.getElem?_set_self (by simp [eF];exact h),a8E _ h,a0g]
  rw [List.getElem?_set_ne hij,a8E _ hj,a8E _ hj,a0c _ _ _ (fun h=>hij h.symm)]
 rw [List.getElem?_eq_none (by simp [eF];omega),List.getElem?_eq_none (by simp [eF];omega)]
theorem b6G (m:Nat):Ar.std.rep (m:Int) (.int .i64 0)=eF (fun _=>0) m:=by
 show List.replicate ((m:Int)).toNat _=_;apply List.ext_getElem?;intro j;rw [Int.toNat_natCast];by_cases hj:j<m
 ·rw [a8E _ hj,List.getElem?_replicate,if_pos hj];rfl
 rw [List.getElem?_eq_none (by simp;omega),List.getElem?_eq_none (by simp [eF];omega)]
def ren (m t:Nat):Nat:=if t<m then m-1-t else t
section
variable (a b:Int)
end
theorem b8m {P:Pg} (hv:VP P) {z:Int} (hk:a2Q z=true) : ∃ O,IsO z.toNat P O/\M19 Ar.std (eP P) z=some (a1J O,0):=by
 rcases b5j (VP.short hv) z with ⟨h1,_⟩ | ⟨_,h1,_⟩ | ⟨_,_,h⟩
 ·rw [VP.to hv] at h1;cases h1
 ·rw [hk] at h1;cases h1
 exact h
def gI:List (Int×Int)->Int->Option Int
 | [],_=>none
 | p::l,k=>if p.1=k then some p.2 else gI l k
def pI:List (Int×Int)->Int->Int->List (Int×Int)
 | [],k,m=>[(k,m)]
 | p::l,k,m=>if p.1=k then (k,m)::l else p::pI l k m
theorem b8n (l:List (Int×Int)) (k m v:Int):gI (pI l k m) v=if k=v then some m else gI l v:=by
 induction l with
 | nil=>rfl
 | cons p l ih =>
   simp only [pI];by_cases h:p.1=k
   ·rw [if_pos h];simp only [gI];by_cases hv:k=v
    ·rw [if_pos hv,if_pos hv]
    rw [if_neg hv,if_neg hv,if_neg (by rw [h];exact hv)]
   rw [if_neg h];simp only [gI,ih];by_cases hv:p.1=v
   ·rw [if_pos hv,if_neg (fun e=>h (hv.trans e.symm)),if_pos hv]
   rw [if_neg hv,if_neg hv]
theorem b6H (l:List (Int×Int)) (k m:Int):(pI l k m).map (·.1)=if k∈l.map (·.1) then l.map (·.1) else l.map (·.1)++[k]:=by
 induction l with
 | nil=>rfl
 | cons p l ih =>
   simp only [pI];by_cases h:p.1=k
   ·rw [if_pos h];simp [h]
   rw [if_neg h];simp only [List.map_cons,ih];by_cases hk:k∈l.map (·.1)
   ·rw [if_pos hk,if_pos (List.mem_cons_of_mem _ hk)]
   rw [if_neg hk,if_neg (by rw [List.mem_cons];rintro (e | e);exact h e.symm;exact hk e)];rfl
theorem or8 : ∀ (a:Fin 8) (t:Fin 3),(a.val ||| 2 ^ t.val)<8:=by decide +kernel
structure Cov (P:Pg) (Pr:Nat->Nat->Prop) (q:Ac->Prop) (l:List (Int×Int)):Prop where
 nd:(l.map (·.1)).Nodup
 no : ∀ v,gI l v=none -> ∀ t i,Pr t i->q (acA P (t,i))->(acA P (t,i)).2.1≠v
 ye : ∀ v m,gI l v=some m->0<=v/\v<=2/\(∃ t i,Pr t i/\q (acA P (t,i))/\(acA P (t,i)).2.1=v) /\ ∃ a:Nat,m=a/\a<8 /\ ∀ t,t<3->(a.testBit t=true ↔ ∃ i,Pr t i/\q (acA P (t,i))/\(acA P (t,i)).2.1=v)
theorem Cov.nil (P:Pg) (q:Ac->Prop) {Pr:Nat->Nat->Prop} (h : ∀ t i,¬ Pr t i):Cov P Pr q [] :=
 ⟨.nil,fun v _ t i hp=>absurd hp (h t i),fun v m h=>by cases h⟩
theorem Cov.put {P:Pg} {Pr Pr':Nat->Nat->Prop} {q:Ac->Prop} {l:List (Int×Int)} (h:Cov P Pr q l) {t i:Nat} (ht:t<3) (hq:q (acA P (t,i))) {c:Int} (hc:(acA P (t,i)).2.1=c) (c0:0<=c) (c2:c<=2)
  (hp : ∀ u j,Pr' u j↔Pr u j\/(u=t/\j=i)) : ∃ a:Nat,a<8/\(gI l c=none/\a=0\/gI l c=some (a:Int))/\Cov P Pr' q (pI l c ((a ||| 2 ^ t:Nat):Int)):=by
 have hor : ∀ {a u:Nat},(a ||| 2 ^ t).testBit u=true↔a.testBit u=true\/u=t:=fun {a u}=>by
  rw [Nat.testBit_or,Nat.testBit_two_pow,Bool.or_eq_true,decide_eq_true_eq];constructor
  ·rintro (h | h);exact .inl h;exact .inr h.symm
  rintro (h | h);exact .inl h;exact .inr h.symm
 have key : ∀ a:Nat,a<8->(∀ u,u<3->(a.testBit u=true ↔ ∃ j,Pr u j/\q (acA P (u,j))/\(acA P (u,j)).2.1=c))->Cov P Pr' q (pI l c ((a ||| 2 ^ t:Nat):Int)):=by
  intro a ha hb;refine ⟨?_,fun v hv u j hpr hqu => ?_,fun v m hm => ?_⟩
  ·rw [b6H];split
   ·exact h.nd
   rename_i hn;rw [List.nodup_append];exact ⟨h.nd,by simp,fun x hx y hy=>by simp at hy;subst hy;exact fun e=>hn (e▸hx)⟩
  ·rw [b8n] at hv;split at hv
   ·cases hv
   rename_i hne;rcases (hp u j).1 hpr with hpr | ⟨rfl,rfl⟩
   ·exact h.no v hv u j hpr hqu
   rw [hc];exact hne
  rw [b8n] at hm;split at hm
  ·rename_i hcv;subst hcv;cases hm;refine ⟨c0,c2,⟨t,i,(hp t i).2 (.inr ⟨rfl,rfl⟩),hq,hc⟩,_,rfl,or8 ⟨a,ha⟩ ⟨t,ht⟩,fun u hu => ?_⟩;rw [hor,hb u hu];constructor
   ·rintro (⟨j,g1,g2,g3⟩ | rfl)
    ·exact ⟨j,(hp u j).2 (.inl g1),g2,g3⟩
    exact ⟨i,(hp u i).2 (.inr ⟨rfl,rfl⟩),hq,hc⟩
   rintro ⟨j,g1,g2,g3⟩;rcases (hp u j).1 g1 with g1 | ⟨g1,_⟩
   ·exact .inl ⟨j,g1,g2,g3⟩
   exact .inr g1
  rename_i hne;obtain ⟨h1,h2,⟨t',i',h3,h4,h5⟩,b,h6,h7,h8⟩:=h.ye v m hm;refine ⟨h1,h2,⟨t',i',(hp t' i').2 (.inl h3),h4,h5⟩,b,h6,h7,fun u hu=>(h8 u hu).trans ?_⟩;constructor
  ·rintro ⟨j,g1,g2,g3⟩;exact ⟨j,(hp u j).2 (.inl g1),g2,g3⟩
  rintro ⟨j,g1,g2,g3⟩;rcases (hp u j).1 g1 with g1 | ⟨rfl,rfl⟩
  ·exact ⟨j,g1,g2,g3⟩
  exact absurd (hc.symm.trans g3) hne
 cases hg:gI l c with
 | none =>
   refine ⟨0,by omega,.inl ⟨rfl,rfl⟩,key 0 (by omega) fun u hu => ?_⟩;constructor
   ·intro h;simp at h
   rintro ⟨j,g1,g2,g3⟩;exact absurd g3 (h.no c hg u j g1 g2)
 | some m =>
   obtain ⟨_,_,_,a,rfl,h7,h8⟩:=h.ye c m hg;exact ⟨a,h7,.inr rfl,key a h7 h8⟩
theorem IsO.one {k:Nat} (hK:Kind k) {P:Pg} (hv:VP P) (hn:b3g P) {O:List (List Int)} (h:IsO k P O) {o:List Int} (ho:Can 3 P o):O=[o]:=by
 have up : ∀ o',Can k P o'->Can 3 P o':=fun o' h=>by
  rcases hK with rfl | rfl | rfl
  ·exact h.strict.loose
  ·exact h.loose
  exact h
 have hne:=h.ne hK hv
 match O,hne with
 | [x],_ =>
   have:=a7m hn (up x ((h.mem x).1 (by simp))) ho;rw [this]
 | x::y::r,_ =>
   exfalso;have h1:=a7m hn (up x ((h.mem x).1 (by simp))) ho;have h2:=a7m hn (up y ((h.mem y).1 (by simp))) ho;have:=List.nodup_cons.1 (SS.nodup h.ss);exact this.1 (by rw [h1,h2];simp)
def fnc:Ac:=(3,0,0)
theorem a4x (a:Ac) (l:List Ac) (f:Nat->Int):reads (a::l) f=(if a.1=1 then [f 0] else [])++reads l (fun i=>f (i+1)):=by
 unfold reads;rw [List.length_cons,List.range_succ_eq_map,List.filterMap_cons,List.filterMap_map];have e : ∀ i,aAt (a::l) (i+1)=aAt l i:=fun i=>rfl;have e0:aAt (a::l) 0=a:=rfl;have e2:((fun i=>if (aAt (a::l) i).1=1 then some (f i) else none)∘Nat.succ)=fun i=>if (aAt l i).1=1 then some (f (i+1)) else none:=by funext i;rfl
 rw [e2,e0];by_cases h:a.1=1 <;> simp [h]
theorem a5S : ∀ (l r:List Ac) (f:Nat->Int),reads (l++fnc::r) f=reads (l++r) (fun i=>f (if i<l.length then i else i+1))
 | [],r,f=>by
   rw [List.nil_append,List.nil_append,a4x]
   rfl
 | a::l,r,f=>by
   rw [List.cons_append,List.cons_append,a4x,a4x,a5S l r];congr 1;congr 1;funext i;by_cases h:i<l.length
   ·rw [if_pos h,if_pos (by simp;omega)]
   rw [if_neg h,if_neg (by simp;omega)]
structure More1 (P P':Pg) (t0 q:Nat):Prop where
 len:P'.length=P.length
 lt:t0<P.length
 oth : ∀ t,t≠t0->thr P' t=thr P t
 own : ∃ l r,l.length=q/\thr P t0=l++r/\thr P' t0=l++fnc::r
def shf (t0 q t i:Nat):Nat:=if t=t0/\q<=i then i+1 else i
theorem b3n {t0 q t i j:Nat} (h:shf t0 q t i=shf t0 q t j):i=j:=by unfold shf at h;split at h <;> split at h <;> omega
theorem b9L {t0 q i:Nat}:shf t0 q t0 i≠q:=by unfold shf;split <;> omega
section
variable {P P':Pg} {t0 q:Nat} (hM:More1 P P' t0 q)
include hM
theorem More1.at (t i:Nat):aAt (thr P' t) (shf t0 q t i)=aAt (thr P t) i:=by
 by_cases ht:t=t0
 ·subst ht;obtain ⟨l,r,h1,h2,h3⟩:=hM.own;rw [h2,h3];unfold aAt shf;rw [List.getD_eq_getElem?_getD,List.getD_eq_getElem?_getD];by_cases hi:q<=i
  ·rw [if_pos ⟨rfl,hi⟩,zp8 (by omega),zp8 (by omega),show i+1-l.length=(i-l.length)+1 by omega,List.getElem?_cons_succ]
  rw [if_neg (by omega),zp7 (by omega),zp7 (by omega)]
 unfold shf;rw [if_neg (by omega),hM.oth t ht]
theorem More1.atq:aAt (thr P' t0) q=fnc:=by
 obtain ⟨l,r,h1,h2,h3⟩:=hM.own;rw [h3];unfold aAt;rw [List.getD_eq_getElem?_getD,zp8 (by omega),h1,Nat.sub_self];rfl
theorem More1.lent (t:Nat):(thr P' t).length=if t=t0 then (thr P t).length+1 else (thr P t).length:=by
 by_cases ht:t=t0
 ·subst ht;obtain ⟨l,r,h1,h2,h3⟩:=hM.own;rw [if_pos rfl,h2,h3];simp;omega
 rw [if_neg ht,hM.oth t ht]
end
structure RF (t0 q:Nat) (s' s:AS):Prop where
 dn : ∀ t i,s.dn t i=s'.dn t (shf t0 q t i)
 rd : ∀ t i,s.rd t i=s'.rd t (shf t0 q t i)
 bf:s.bf=s'.bf
 ce:s.ce=s'.ce
theorem RF.init (t0 q:Nat):RF t0 q AS.init AS.init:=⟨fun _ _=>rfl,fun _ _=>rfl,rfl,rfl⟩
section
variable {P P':Pg} {t0 q:Nat} (hM:More1 P P' t0 q) {s' s:AS} (hR:RF t0 q s' s)
include hM hR
theorem RF.out:b3v P' s'=b3v P s:=by
 unfold b3v;rw [hM.len,hR.ce];congr 1;refine a4F fun t _ => ?_;by_cases ht:t=t0
 ·subst ht;obtain ⟨l,r,h1,h2,h3⟩:=hM.own;rw [h2,h3,a5S];congr 1;funext i;rw [hR.rd];unfold shf;rw [h1];by_cases hi:i<q
  ·rw [if_pos hi,if_neg (by omega)]
  rw [if_neg hi,if_pos (by omega)]
 rw [hM.oth t ht];congr 1;funext i;rw [hR.rd];unfold shf;rw [if_neg (by omega)]
theorem RF.fence (k:Nat):RF t0 q (doA k P' s' t0 q) s:=by
 have e:=hM.atq;refine ⟨fun t i => ?_,fun t i => ?_,?_,?_⟩
 ·rw [hR.dn];simp only [doA,fup];by_cases ht:t=t0
  ·subst ht;have:shf t q t i≠q:=b9L;simp [fup,this]
  simp [fup,ht]
 ·rw [hR.rd];simp only [doA,e,fnc]
  rfl
 ·rw [hR.bf];simp only [doA,e,fnc];rfl
 rw [hR.ce];simp only [doA,e,fnc];rfl
theorem RF.act (k:Nat) (t i:Nat):RF t0 q (doA k P' s' t (shf t0 q t i)) (doA k P s t i):=by
 have e:=hM.at t i;have hsn : ∀ c,sn s' t c=sn s t c:=fun c=>by unfold sn;rw [hR.bf,hR.ce]
 refine ⟨fun u j => ?_,fun u j => ?_,?_,?_⟩
 ·simp only [doA,fup];by_cases hu:u=t
  ·subst hu;by_cases hj:j=i
   ·subst hj;simp
   have:shf t0 q u j≠shf t0 q u i:=fun h=>hj (b3n h);simp [fup,hj,this,hR.dn]
  simp [fup,hu,hR.dn]
 ·simp only [doA,e,fup];by_cases h1:(aAt (thr P t) i).1=1
  ·rw [if_pos h1,if_pos h1];by_cases hu:u=t
   ·subst hu;by_cases hj:j=i
    ·subst hj;simp [hsn]
    have:shf t0 q u j≠shf t0 q u i:=fun h=>hj (b3n h);simp [fup,hj,this,hR.rd]
   simp [fup,hu,hR.rd]
  rw [if_neg h1,if_neg h1];exact hR.rd u j
 ·simp only [doA,e,hR.bf]
 simp only [doA,e,hR.ce]
theorem RF.outB (t:Nat):RF t0 q (outB s' t) (outB s t):=by
 unfold Go.Am.outB;rw [hR.bf];cases hb:s'.bf t with
 | nil=>exact hR
 | cons x r=>exact ⟨hR.dn,hR.rd,by simp only [hR.bf],by simp only [hR.ce]⟩
end
theorem a9q {α β:Type} {f g:α->Option β} : ∀ {l:List α},(∀ a∈l,f a=g a)->l.filterMap f=l.filterMap g
 | [],_=>rfl
 | a::l,h=>by
   rw [List.filterMap_cons,List.filterMap_cons,h a (List.mem_cons_self ..),a9q fun b hb=>h b (List.mem_cons_of_mem _ hb)]
theorem a2C {l:List Ac} {m:Nat} (hm:m<=l.length) (r:Nat->Int):reads (l.take m) r=(List.range m).filterMap fun i=>if (aAt l i).1=1 then some (r i) else none:=by
 unfold reads;rw [List.length_take,Nat.min_eq_left hm];refine a9q fun i hi => ?_;have hi:=List.mem_range.1 hi;have e:aAt (l.take m) i=aAt l i:=by
  unfold aAt;rw [List.getD_eq_getElem?_getD,List.getD_eq_getElem?_getD,List.getElem?_take_of_lt hi]
 rw [e]
theorem b0P {l:List Ac} {m:Nat} (hm:m<l.length) (r:Nat->Int):reads (l.take (m+1)) r=reads (l.take m) r++if (aAt l m).1=1 then [r m] else []:=by
 rw [a2C hm,a2C (Nat.le_of_lt hm),List.range_succ,List.filterMap_append];congr 1;by_cases h:(aAt l m).1=1 <;> simp [h]
theorem a6C {l:List Ac} {m:Nat} (hm:m<=l.length) {r r':Nat->Int} (h : ∀ i,i<m->r i=r' i):reads (l.take m) r=reads (l.take m) r':=by
 rw [a2C hm,a2C hm];refine a9q fun i hi => ?_;rw [h i (List.mem_range.1 hi)]
theorem b4D {l:List Ac} {m:Nat} (hm:m<=l.length) (r:Nat->Int):(reads (l.take m) r).length<=m:=by
 rw [a2C hm];have:=List.length_filterMap_le (fun i=>if (aAt l i).1=1 then some (r i) else none) (List.range m)
 rwa [List.length_range] at this
structure PR (P:Pg) (s:Sta) (n:Nat->Nat) (rd:Nat->List Int):Prop where
 sp:SP P s n
 rd : ∀ t,rd t=reads ((thr P t).take (n t)) ((vw P s).rd t)
theorem PR.init (P:Pg):PR P s0 (fun _=>0) (fun _=>[]):=⟨SP.init P,fun t=>by rw [List.take_zero];rfl⟩
def rd' (P:Pg) (s:Sta) (n:Nat->Nat) (rd:Nat->List Int) (t:Nat):Nat->List Int :=
 if (aAt (thr P t) (n t)).1=1 then fup rd t (rd t++[s (11+(aAt (thr P t) (n t)).2.1.toNat)]) else rd
section
variable {P:Pg} (hv:VP P) {s:Sta} {n:Nat->Nat} {rd:Nat->List Int} (h:PR P s n rd)
include hv h
theorem PR.nb : ∀ t,(vw P s).bf t=[]:=by
 intro t;show (if t<3 then a3d s t else [])=[]
 split
 ·rename_i ht;unfold a3d;rw [h.sp.k.nb (by decide) t ht];rfl
 rfl
theorem PR.len (t:Nat):(rd t).length<=7:=by
 rw [h.rd t];exact Nat.le_trans (b4D (h.sp.l t) _) (Nat.le_trans (h.sp.l t) (hv.l7 t))
theorem PR.step {t:Nat} (ht:t<P.length) (hi:n t<(thr P t).length):PR P (doS P s t (n t)) (fup n t (n t+1)) (rd' P s n rd t):=by
 have ht3:=lt3 hv ht;refine ⟨SP.step hv h.sp ht hi,fun u => ?_⟩;have hb:=PR.nb hv h;have e:vw P (doS P s t (n t))=doA 3 P (vw P s) t (n t):=by
  rw [b7O (k:=1) hv h.sp.k.wf ht hi (.inl (by decide)) (.inl (hb t)),b6E (by decide)]
 have hrd : ∀ u j,(vw P (doS P s t (n t))).rd u j=if (aAt (thr P t) (n t)).1=1/\(u,j)=(t,n t) then (vw P s).ce (aAt (thr P t) (n t)).2.1 else (vw P s).rd u j:=fun u j=>by
  rw [e];exact a8C hb (t,n t) (u,j)
 have old : ∀ u j,j<n u->(vw P (doS P s t (n t))).rd u j=(vw P s).rd u j:=fun u j hj=>by
  rw [hrd,if_neg];rintro ⟨_,hh⟩;rw [Prod.mk.injEq] at hh;obtain ⟨rfl,rfl⟩:=hh;omega
 have hl:=h.sp.l u;by_cases hut:u=t
 ·subst hut;rw [a0g,b0P hi,a6C hl (old u),<-h.rd u];unfold rd';by_cases h1:(aAt (thr P u) (n u)).1=1
  ·rw [if_pos h1,if_pos h1,a0g,hrd,if_pos ⟨h1,rfl⟩];obtain ⟨c0,c1,_⟩:=b0I hv h.sp.k.wf ht hi (.inl h1);congr 2;show _=(if 0<=(aAt (thr P u) (n u)).2.1/\(aAt (thr P u) (n u)).2.1<=2 then _ else _)
   rw [if_pos ⟨c0,c1⟩]
  rw [if_neg h1,if_neg h1,List.append_nil]
 rw [a0c _ _ _ hut,a6C hl (old u),<-h.rd u];unfold rd';split
 ·rw [a0c _ _ _ hut]
 rfl
end
def eRd (f:Nat->List Int) (m:Nat):List D:=enc (cL 1) ((List.range m).map fun i=>a0i (f i))
theorem a5T (f:Nat->List Int) {m i:Nat} (h:i<m):(eRd f m)[i]?=some (.list 1 (a0i (f i))):=by
 unfold eRd enc;rw [List.getElem?_map,List.getElem?_map,List.getElem?_range h];rfl
theorem a3F (f:Nat->List Int) (m:Nat):(eRd f m).length=m:=by simp [eRd]
theorem gcR (f:Nat->List Int) {m i:Nat} (h:i<m):gc Ar.std (cL 1) (eRd f m) (Ar.std.nat (i:Int))=some (a0i (f i)):=by
 unfold gc;have:Ar.std.lget (eRd f m) (Ar.std.nat (i:Int))=some (.list 1 (a0i (f i))):=a5T f h;rw [this];rfl
theorem b9M (f:Nat->List Int) {m i:Nat} (h:i<m) (v:List Int):Ar.std.lset (eRd f m) (Ar.std.nat (i:Int)) (.list 1 (a0i v))=eRd (fup f i v) m:=by
 show (eRd f m).set i _=_;apply List.ext_getElem?;intro j;by_cases hj:j<m
 ·by_cases hij:i=j
  ·subst hij;rw [List.getElem?_set_self (by rw [a3F];exact h),a5T _ h,a0g]
  rw [List.getElem?_set_ne hij,a5T _ hj,a5T _ hj,a0c _ _ _ (fun h=>hij h.symm)]
 rw [List.getElem?_eq_none (by rw [List.length_set,a3F];omega),List.getElem?_eq_none (by rw [a3F];omega)]
theorem b4E (m:Nat):Ar.std.rep (m:Int) (.list 1 [])=eRd (fun _=>[]) m:=by
 show List.replicate ((m:Int)).toNat _=_;apply List.ext_getElem?;intro j;rw [Int.toNat_natCast];by_cases hj:j<m
 ·rw [a5T _ hj,List.getElem?_replicate,if_pos hj];rfl
 rw [List.getElem?_eq_none (by simp;omega),List.getElem?_eq_none (by rw [a3F];omega)]
theorem b0a (f:Nat->Nat) (m:Nat):(eF f m).length=m:=by simp [eF]
theorem b6I (f:Nat->Nat) {m i:Nat} (h:i<m):gc Ar.std (cI .i64) (eF f m) (Ar.std.nat (i:Int))=some (f i:Int):=by
 unfold gc;have:Ar.std.lget (eF f m) (Ar.std.nat (i:Int))=some (.int .i64 (f i:Int)):=a8E f h;rw [this];rfl
theorem b5r (f:Nat->Nat) {m i:Nat} (h:i<m) (v:Nat) {z:Int} (hz:z=v):Ar.std.lset (eF f m) (Ar.std.nat (i:Int)) (.int .i64 z)=eF (fup f i v) m:=by
 have:=b9K f h v hz;rw [show Ar.std.nat (Ar.std.zadd 0 (i:Int))=i from b6f (by simp)] at this;exact this
def c3 (x y z c:Int):Int:=if c=0 then x else if c=1 then y else z
theorem gc3 (x y z:Int) {c:Int} (h0:0<=c) (h2:c<=2):gc Ar.std (cI .i64) [.int .i64 x,.int .i64 y,.int .i64 z] (Ar.std.nat c)=some (c3 x y z c):=by
 rcases (show c=0\/c=1\/c=2 by omega) with rfl | rfl | rfl <;> rfl
theorem s3 (s:Sta) {c:Int} (h0:0<=c) (h2:c<=2):c3 (s 11) (s 12) (s 13) c=s (11+c.toNat):=by
 rcases (show c=0\/c=1\/c=2 by omega) with rfl | rfl | rfl <;> rfl
section
variable {P:Pg} (hv:VP P) {s:Sta} {n:Nat->Nat} {rd:Nat->List Int} (h:PR P s n rd)
include hv h
theorem a7n {t:Nat} (ht:t<P.length) (hi:n t<(thr P t).length) :
  M74 Ar.std (t:Int) (eP P) (s 11) (s 12) (s 13) (eF n P.length) (eRd rd P.length) =
   some (true,doS P s t (n t) 11,doS P s t (n t) 12,doS P s t (n t) 13,eF (fup n t (n t+1)) P.length,eRd (rd' P s n rd t) P.length):=by
 have hact:=hv.act t _ hi;have hget:=a1S hi;have hl7:=hv.l7 t;have hrl:=PR.len hv h t;have hnum:(aAt (thr P t) (n t)).1=1->num P t (n t)<8:=b2B hv h.sp.k.wf ht hi;have e1:Ar.std.wrp .i64 (Ar.std.zadd ((n t:Nat):Int) 1)=((n t+1:Nat):Int):=by simp only [a0m,a0q];exact a2i (n:=10) (by omega) (by omega)
 have z1:Ar.std.zle 0 (t:Int)=true:=by simp
 have z2:Ar.std.zlt (t:Int) (Ar.std.len (eF n P.length))=true:=by rw [show Ar.std.len (eF n P.length)=((eF n P.length).length:Int) from rfl,b0a];simp;omega
 have z3:Ar.std.zlt (t:Int) (Ar.std.len (eRd rd P.length))=true:=by rw [show Ar.std.len (eRd rd P.length)=((eRd rd P.length).length:Int) from rfl,a3F];simp;omega
 unfold M74;refine bck z1 (bck z2 (bt (b6I n ht) (bt (a2r (a0O ht)) ?_)));refine cnF (by simp;omega) ?_;refine bck z1 (bck z2 (bt (a1c hget) ?_));rw [e1,b5r n ht _ rfl];unfold rd' doS;generalize aAt (thr P t) (n t)=a at hact hnum;obtain ⟨d,c,v⟩:=a;dsimp only;refine bck z1 (bck z2 (bck z1 (bck z2 ?_)));have lo : ∀ u i j,u<3->11<=j->j<14->dS s u i j=s j:=fun u i j h1 h2 h3=>by unfold dS;rw [a0c _ _ _ (by omega)]
 have ht3:=lt3 hv ht;rcases a3c hact with ⟨h1,c0,c2,h0⟩ | ⟨h1,c0,c2,v0,v3⟩ | hf
 ·simp only at h1 c0 c2;subst h1;have hn8 : ∀ j,11<=j->j<14->3+num P t (n t)≠j:=fun j h2 h3=>by have:=hnum rfl;omega
  ·refine bt (v:=eRd (fup rd t (rd t++[s (11+c.toNat)])) P.length) (cnT rfl ?_) (bt (v:=(s 11,s 12,s 13)) (cnF rfl rfl) ?_)
   ·have ea:ap Ar.std [] (a0i (rd t))=some (a0i (rd t)):=by rw [a4E (by simp;omega)];rfl
    have eb:ap Ar.std (a0i (rd t)) [D.int .i64 (s (11+c.toNat))]=some (a0i (rd t++[s (11+c.toNat)])):=by
     rw [a4E (by simp;omega)];simp [enc];rfl
    refine bck z1 (bck z3 (bt (gcR rd ht) (bt ea (bck (by simpa using c0) (bck (by simp;omega) (bt (gc3 _ _ _ c0 c2) ?_))))));rw [s3 s c0 c2];refine bt eb (bck z1 (bck z3 ?_));rw [b9M rd ht]
   rw [if_pos rfl,if_pos rfl];rw [a0c _ _ _ (fun e=>hn8 11 (by omega) (by omega) e.symm),a0c _ _ _ (fun e=>hn8 12 (by omega) (by omega) e.symm),a0c _ _ _ (fun e=>hn8 13 (by omega) (by omega) e.symm),lo t _ 11 ht3 (by omega) (by omega),lo t _ 12 ht3 (by omega) (by omega),lo t _ 13 ht3 (by omega) (by omega)]
 ·simp only at h1 c0 c2 v0 v3;subst h1;have k1 : ¬ ((2:Int)=1):=by decide
  have hF : ∀ j,11<=j->j<14->fup (dS s t (n t)) (11+c.toNat) v j=if j=11+c.toNat then v else s j:=fun j h2 h3=>by
   by_cases hj:j=11+c.toNat
   ·rw [if_pos hj,hj];exact a0g _ _ _
   rw [if_neg hj,a0c _ _ _ hj,lo t _ j ht3 h2 h3]
  refine bt (v:=eRd rd P.length) (cnF rfl rfl) (bt (v:=(fup (dS s t (n t)) (11+c.toNat) v 11,fup (dS s t (n t)) (11+c.toNat) v 12,fup (dS s t (n t)) (11+c.toNat) v 13)) (cnT rfl (bck (by simpa using c0) (bck (by simp;omega) ?_))) ?_)
  ·rw [hF 11 (by omega) (by omega),hF 12 (by omega) (by omega),hF 13 (by omega) (by omega)];simp only [a2g];rcases (show c=0\/c=1\/c=2 by omega) with rfl | rfl | rfl <;> rfl
  rw [if_neg k1,if_neg k1,if_pos (rfl:(2:Int)=2)]
 rw [Prod.mk.injEq,Prod.mk.injEq] at hf;obtain ⟨rfl,rfl,rfl⟩:=hf;refine bt (v:=eRd rd P.length) (cnF rfl rfl) (bt (v:=(s 11,s 12,s 13)) (cnF rfl rfl) ?_);have k1 : ¬ ((3:Int)=1):=by decide
 have k2 : ¬ ((3:Int)=2):=by decide
 rw [if_neg k1,if_neg k1,if_neg k2,lo t _ 11 ht3 (by omega) (by omega),lo t _ 12 ht3 (by omega) (by omega),lo t _ 13 ht3 (by omega) (by omega)]
end
theorem b5s {P:Pg} {n:Nat->Nat} {rd:Nat->List Int} {t:Nat} (ht:t<P.length) (hi : ¬ n t<(thr P t).length) (x y z:Int) :
  M74 Ar.std (t:Int) (eP P) x y z (eF n P.length) (eRd rd P.length)=some (false,x,y,z,eF n P.length,eRd rd P.length):=by
 have z1:Ar.std.zle 0 (t:Int)=true:=by simp
 have z2:Ar.std.zlt (t:Int) (Ar.std.len (eF n P.length))=true:=by rw [show Ar.std.len (eF n P.length)=((eF n P.length).length:Int) from rfl,b0a];simp;omega
 unfold M74;exact bck z1 (bck z2 (bt (b6I n ht) (bt (a2r (a0O ht)) (cnT (by simp;omega) rfl))))
theorem b8o {P:Pg} (hv:VP P) {s:Sta} {n:Nat->Nat} {rd:Nat->List Int} (h:PR P s n rd) :
  M79 Ar.std (eP P) (s 11) (s 12) (s 13) (eF n P.length) (eRd rd P.length)=some (a0i ((List.range P.length).flatMap rd++[s 11,s 12,s 13])):=by
 have hn3:=hv.n3;have hlen : ∀ t,((List.range t).flatMap rd).length<=7*t:=by
  intro t
  induction t with
  | zero=>simp
  | succ t ih =>
    have:=PR.len hv h t;rw [List.range_succ,List.flatMap_append];simp only [List.length_append,List.flatMap_cons,List.flatMap_nil,List.append_nil];omega
 have k0:=a3S (step:=b0i Ar.std (eP P) (eRd rd P.length)) P.length (fun (_:Unit) (t:Nat)=>(a0i ((List.range t).flatMap rd),(t:Int))) (fun _ _=>True) (fun _=>a0i ((List.range P.length).flatMap rd))
  (fun t _ ht _=>by
   refine ⟨(),trivial,?_⟩;unfold b0i;dsimp only;have h1:=hlen t;have h2:=PR.len hv h t;have ea:ap Ar.std (a0i ((List.range t).flatMap rd)) (a0i (rd t))=some (a0i ((List.range (t+1)).flatMap rd)):=by
    rw [a4E (by rw [a6u,a6u];omega),List.range_succ,List.flatMap_append];simp [enc]
   have e1:Ar.std.wrp .i64 (Ar.std.zadd (t:Int) 1)=((t+1:Nat):Int):=by simp only [a0m,a0q];exact a2i (n:=10) (by omega) (by omega)
   refine cnT (by simp;omega) (bck (by simp) (bck (by rw [show Ar.std.len (eRd rd P.length)=((eRd rd P.length).length:Int) from rfl,a3F];simp;omega) (bt (gcR rd ht) (bt ea ?_))));rw [e1])
  (fun _ _=>by
   unfold b0i;exact cnF (by simp) rfl) () trivial
 obtain ⟨_,_,k0⟩:=k0;have k0':iter (b0i Ar.std (eP P) (eRd rd P.length)) ([],0)=some (a0i ((List.range P.length).flatMap rd)):=k0;have hall:=hlen P.length;generalize (List.range P.length).flatMap rd=R at k0' hall;have st : ∀ (c:Nat) (l:List Int) (v:Int),c<3->l.length<=100->c3 (s 11) (s 12) (s 13) c=v->b0j Ar.std (s 11) (s 12) (s 13) (a0i l,(c:Int))=some (.inl (a0i (l++[v]),((c+1:Nat):Int))):=by
  intro c l v hc hl hcv;unfold b0j;dsimp only;have e1:Ar.std.wrp .i64 (Ar.std.zadd (c:Int) 1)=((c+1:Nat):Int):=by simp only [a0m,a0q];exact a2i (n:=10) (by omega) (by omega)
  have ea:ap Ar.std (a0i l) [D.int .i64 v]=some (a0i (l++[v])):=by
   rw [a4E (by simp;omega)];simp [enc];rfl
  refine cnT (by simp;omega) (bck (by simp) (bck (by simp;omega) (bt (gc3 _ _ _ (by omega) (by omega)) ?_)));rw [hcv];refine bt ea ?_;rw [e1]
 have k1:iter (b0j Ar.std (s 11) (s 12) (s 13)) (a0i R,0)=some (a0i (R++[s 11,s 12,s 13])):=by
  have a0:=st 0 R (s 11) (by omega) (by omega) rfl;have a1:=st 1 (R++[s 11]) (s 12) (by omega) (by simp;omega) rfl;have a2:=st 2 (R++[s 11]++[s 12]) (s 13) (by omega) (by simp;omega) rfl;refine (a0N a0).trans ((a0N a1).trans ((a0N a2).trans (a0E ?_)));unfold b0j;refine cnF (by simp) ?_;simp
 unfold M79;exact bt k0' (bt k1 rfl)
theorem PR.out {P:Pg} (hv:VP P) {s:Sta} {n:Nat->Nat} {rd:Nat->List Int} (h:PR P s n rd) (ho:a2B P s=true):(List.range P.length).flatMap rd++[s 11,s 12,s 13]=a2P P s:=by
 rw [<-a4w];unfold b3v;have h1:=(SP.over hv h.sp).1 ho;congr 1;refine a4F fun t ht => ?_;have ht:=List.mem_range.1 ht;rw [h.rd t,h1 t ht,List.take_length]
theorem b5t {P:Pg} (hv:VP P):M71 Ar.std (eP P)=some (eP P,eF (fun _=>0) P.length,eRd (fun _=>[]) P.length):=by
 have hn3:=hv.n3;have el:Ar.std.len (eP P)=(P.length:Int):=by simp
 have efit:Ar.std.fits (Ar.std.len (eP P))=true:=by
  rw [el,b4k,decide_eq_true_eq];omega
 have ezle:Ar.std.zle 0 (Ar.std.len (eP P))=true:=by
  rw [el,a5A,decide_eq_true_eq];omega
 have ezeq:Ar.std.zeq (Ar.std.len (eP P)) (Ar.std.len (eP P))=true:=by rw [a2g,decide_eq_true_eq]
 unfold M71;refine bck ezeq (bck ezle (bck efit (bck ezeq (bck ezle (bck efit ?_)))));rw [el,b6G,b4E]
theorem IsO.up {k k':Nat} {P:Pg} {O O':List (List Int)} (h:IsO k P O) (h':IsO k' P O') (hc : ∀ o,Can k P o->Can k' P o):b8e O' O=[]:=by
 unfold b8e;rw [List.filter_eq_nil_iff];intro x hx;have:=(h'.mem x).2 (hc x ((h.mem x).1 hx));simp [this]
structure Wl (P:Pg) (s:AS):Prop where
 len : ∀ t,(s.bf t).length<=((List.range (thr P t).length).filter fun i=>s.dn t i).length
 cell : ∀ t,∀ e∈s.bf t,0<=e.1/\e.1<=2
theorem Wl.init (P:Pg):Wl P AS.init:=⟨fun t=>by simp [AS.init],fun t e he=>by simp [AS.init] at he⟩
theorem b0Q {n i:Nat} (hi:i<n) {f:Nat->Bool} (hf:f i=false):((List.range n).filter fun j=>fup f i true j).length=((List.range n).filter fun j=>f j).length+1:=by
 rw [<-List.countP_eq_length_filter,<-List.countP_eq_length_filter];have key : ∀ l:List Nat,l.Nodup->(l.countP fun j=>fup f i true j)=(l.countP fun j=>f j)+(if i∈l then 1 else 0):=by
  intro l
  induction l with
  | nil=>intro _;rfl
  | cons x r ih =>
    intro hn;rw [List.nodup_cons] at hn;rw [List.countP_cons,List.countP_cons,ih hn.2];by_cases hx:x=i
    ·subst hx;simp [hf,hn.1]
    have h1:fup f i true x=f x:=a0c _ _ _ hx;have h2:(i∈x::r)=(i∈r):=by simp [Ne.symm hx]
    rw [h1];simp only [h2];omega
 rw [key _ List.nodup_range,if_pos (by simpa using hi)]
section
variable {k:Nat} {P:Pg}
theorem Wl.doA {s:AS} (hv:VP P) (hw:Wl P s) {t i:Nat} (hi:i<(thr P t).length) (hd:s.dn t i=false):Wl P (doA k P s t i):=by
 refine ⟨fun u => ?_,fun u e he => ?_⟩
 ·have h0:=hw.len u;by_cases hu:u=t
  ·subst hu;have e1:(Go.Am.doA k P s u i).dn u=fup (s.dn u) i true:=by simp [Go.Am.doA]
   rw [e1,b0Q hi hd];simp only [Go.Am.doA];split
   ·simp only [a0g,List.length_append,List.length_singleton];omega
   omega
  have e1:(Go.Am.doA k P s t i).dn u=s.dn u:=by simp [Go.Am.doA,fup,hu]
  rw [e1];simp only [Go.Am.doA];split
  ·rw [a0c _ _ _ hu];exact h0
  exact h0
 simp only [Go.Am.doA] at he;split at he
 ·rename_i h2;by_cases hu:u=t
  ·subst hu;rw [a0g] at he;rcases List.mem_append.1 he with he | he
   ·exact hw.cell u e he
   simp at he;subst he;have:=hv.act u i hi;rcases a3c this with h | h | h
   ·rw [h2.1] at h;omega
   ·exact ⟨h.2.1,h.2.2.1⟩
   rw [h] at h2;simp at h2
  rw [a0c _ _ _ hu] at he;exact hw.cell u e he
 exact hw.cell u e he
theorem Wl.outB {s:AS} (hw:Wl P s) (t:Nat):Wl P (outB s t):=by
 unfold Go.Am.outB;cases hb:s.bf t with
 | nil=>exact hw
 | cons x r =>
   refine ⟨fun u => ?_,fun u e he => ?_⟩
   ·have h0:=hw.len u;by_cases hu:u=t
    ·subst hu;simp only [a0g];rw [hb] at h0;simp at h0;omega
    simp only [a0c _ _ _ hu];exact h0
   by_cases hu:u=t
   ·subst hu;simp only [a0g] at he;exact hw.cell u e (by rw [hb];exact List.mem_cons_of_mem _ he)
   simp only [a0c _ _ _ hu] at he;exact hw.cell u e he
end
section
variable {P:Pg} (hv:VP P) {k:Nat} {s:AS}
include hv
end
structure Spot (l:List (List Int)) (x:List Int) (p:Nat):Prop where
 le:p<=l.length
 lo : ∀ j y,l[j]?=some y->j<p->ltL y x
 hi : ∀ j y,l[j]?=some y->p<=j -> ¬ ltL y x
section
variable {k:Nat} {P:Pg}
theorem RSts.head {s s1 u:AS} (h:RSt k P s s1) (h':RSts k P s1 u):RSts k P s u:=by
 induction h' with
 | refl=>exact .tail (.refl _) h
 | tail _ h2 ih=>exact .tail ih h2
structure SC (k:Nat) (P:Pg) (l:List (List Int)):Prop where
 ss:SS l
 can : ∀ x∈l,Can k P x
theorem SC.len (hv:VP P) (hK:Kind k) {l:List (List Int)} (h:SC k P l):l.length<=4194304:=by
 have kb:a2Q (k:Int)=true:=by unfold a2Q;unfold Kind at hK;simp;omega
 obtain ⟨O,hO,_⟩:=b8m hv kb;have h1:=a4V h.ss.nodup (fun x hx=>(hO.mem x).2 (h.can x hx));have h2:=hO.len;omega
end
theorem b3o {a b:Int} (ha : -9223372036854775808<=a/\a<9223372036854775808) (hb : -9223372036854775808<=b/\b<9223372036854775808) (h:Ar.std.wrp .i64 (Ar.std.zsub a b)=0):a=b:=by
 simp only [a0m,a0U,IntKind.wrap_i64] at h;omega
theorem b3p {a b:List Int} (ha:a.length<4294967296) (hb:b.length<4294967296) (va : ∀ x∈a,-9223372036854775808<=x/\x<9223372036854775808) (vb : ∀ x∈b,-9223372036854775808<=x/\x<9223372036854775808) :
  ∃ v,M30 Ar.std (a0i a) (a0i b)=some v/\(v=0↔a=b):=by
 have hend : ∀ i:Nat,i<=a.length->i<=b.length->(i=a.length\/i=b.length)->a7D Ar.std (a0i a) (a0i b) (i:Int)=some (.inr (.inl ())):=by
  intro i h1 h2 h3;unfold a7D;by_cases h4:i<a.length
  ·refine bt (v:=false) (cnT (by simp;omega) ?_) (cnF rfl rfl);congr 1;simp;omega
  exact bt (v:=false) (cnF (by simp;omega) rfl) (cnF rfl rfl)
 have key : ∀ d i:Nat,i+d=min a.length b.length->(∀ j:Nat,j<i->a[j]?=b[j]?) -> ∃ x,iter (a7D Ar.std (a0i a) (a0i b)) (i:Int)=some x /\
   ((x = .inl () /\ ∀ j:Nat,j<min a.length b.length->a[j]?=b[j]?) \/ ∃ v,x = .inr v/\v≠0/\a≠b):=by
  intro d
  induction d with
  | zero =>
    intro i hi hR;refine ⟨.inl (),a0E (hend i (by omega) (by omega) (by omega)),.inl ⟨rfl,fun j hj=>hR j (by omega)⟩⟩
  | succ d ih =>
    intro i hi hR;have h1:i<a.length:=by omega
    have h2:i<b.length:=by omega
    have g1:=zp1 h1;have g2:=zp1 h2;have m1:=va _ (zp6 h1);have m2:=vb _ (zp6 h2);generalize a[i]=x at g1 m1;generalize b[i]=y at g2 m2;have pre : ∀ {r},(bif Ar.std.zeq x y then some (.inl (Ar.std.wrp .i64 (Ar.std.zadd (i:Int) 1))) else some (.inr (.inr (Ar.std.wrp .i64 (Ar.std.zsub x y)))):Option (Int⊕(Unit⊕Int)))=r->a7D Ar.std (a0i a) (a0i b) (i:Int)=r:=by
     intro r hr;unfold a7D;exact bt (v:=true) (cnT (by simp;omega) (by congr 1;simp;omega)) (cnT rfl (bt (a1c g1) (bt (a1c g2) hr)))
    by_cases hxy:x=y
    ·subst hxy;obtain ⟨z,e,hz⟩:=ih (i+1) (by omega) (fun j hj=>by
      rcases Nat.lt_or_eq_of_le (Nat.le_of_lt_succ hj) with h | rfl
      ·exact hR j h
      rw [g1,g2])
     refine ⟨z,(a0N (pre (cnT (by simp) ?_))).trans e,hz⟩;have:Ar.std.wrp .i64 (Ar.std.zadd (i:Int) 1)=((i+1:Nat):Int):=by simp only [a0m,a0q];exact a2i (n:=4294967296) (by omega) (by omega)
     rw [this]
    refine ⟨.inr (Ar.std.wrp .i64 (Ar.std.zsub x y)),a0E (pre (cnF (by simp [hxy]) rfl)),.inr ⟨_,rfl,fun h=>hxy (b3o m1 m2 h),fun h => ?_⟩⟩;rw [h,g2] at g1;exact hxy (Option.some.inj g1).symm
 obtain ⟨x,e,hx⟩:=key (min a.length b.length) 0 (by omega) (fun j hj=>by omega);have e':iter (a7D Ar.std (a0i a) (a0i b)) 0=some x:=e;rcases hx with ⟨rfl,hall⟩ | ⟨v,rfl,hv,hne⟩
 ·refine ⟨(a.length:Int)-(b.length:Int),?_,⟨fun h => ?_,fun h=>by rw [h];omega⟩⟩
  ·unfold M30;refine bt e' ?_;rw [Sum.elim_inl];simp only [a0V,a0m,a0U];rw [a4d _ (by omega) (by omega)]
  apply List.ext_getElem?;intro j;by_cases hj:j<min a.length b.length
  ·exact hall j hj
  rw [List.getElem?_eq_none (by omega),List.getElem?_eq_none (by omega)]
 refine ⟨v,?_,⟨fun h=>absurd h hv,fun h=>absurd h hne⟩⟩;unfold M30;exact bt e' rfl
def Lf (P:Pg) (s:Sta) (o:List Int):Prop := ∃ w,Gd P s o w
theorem a7o {α β:Type} [DecidableEq α] (f:α->β) {a b:α} (x y:β) (h:a≠b):fup (fup f a x) b y=fup (fup f b y) a x:=by
 funext i;unfold fup;by_cases h1:i=b
 ·subst h1;rw [if_pos rfl,if_neg (fun e=>h e.symm),if_pos rfl]
 rw [if_neg h1];by_cases h2:i=a
 ·rw [if_pos h2,if_pos h2]
 rw [if_neg h2,if_neg h2,if_neg h1]
theorem b8p {P:Pg} {s:Sta} {t u i j:Nat} (ht:t<3) (hu:u<3) (h:t≠u):dS (doS P s u j) t i=doS P (dS s t i) u j:=by
 have e1:doS P s u j t=s t:=by
  rw [b3i P s u j ht];unfold dS;exact a0c _ _ _ h
 have e2:dS s t i u=s u:=by unfold dS;exact a0c _ _ _ (fun e=>h e.symm)
 have e3 : ∀ c,dS s t i (11+c)=s (11+c):=fun c=>by unfold dS;exact a0c _ _ _ (by omega)
 have e4:dS (dS s t i) u j=fup (dS s u j) t (a5C (s t) i):=by
  unfold dS;rw [a0c _ _ _ (fun e=>h e.symm)];exact a7o _ _ _ h
 have e5:dS (doS P s u j) t i=fup (doS P s u j) t (a5C (s t) i):=by
  conv=>lhs;unfold dS
  rw [e1]
 rw [e5];unfold doS;split
 ·rw [e3,e4,a7o _ _ _ (by omega)]
 split
 ·rw [e4,a7o _ _ _ (by omega)]
 rw [e4]
theorem a4a {P:Pg} {s:Sta} {t i:Nat} (hf:(aAt (thr P t) i).1=3):doS P s t i=dS s t i:=by
 unfold doS;rw [if_neg (by rw [hf];decide),if_neg (by rw [hf];decide)]
theorem a5U {P:Pg} (hv:VP P) {o:List Int} : ∀ {w:List Nat} {s:Sta} {n:Nat->Nat},SP P s n -> ∀ {t:Nat},t<P.length->n t<(thr P t).length->(aAt (thr P t) (n t)).1=3->Gd P s o w->Lf P (doS P s t (n t)) o
 | [],s,n,h,t,ht,hi,hf,hg=>by
   obtain ⟨s',h1,h2,h3⟩:=hg;cases h1;have:=(SP.over hv h).1 h2 t ht;omega
 | u::w,s,n,h,t,ht,hi,hf,hg=>by
   obtain ⟨hc,hg2⟩:=a2t.1 hg;have eu:=SP.nxe hv h (lt3 hv hc.1);rw [eu] at hc hg2;by_cases hut:t=u
   ·subst hut;exact ⟨w,hg2⟩
   have hs:=SP.step hv h hc.1 hc.2;have ht':fup n u (n u+1) t=n t:=a0c _ _ _ hut;have key:=a5U hv (w:=w) hs (t:=t) ht (by rw [ht'];exact hi) (by rw [ht'];exact hf) hg2;rw [ht',a4a hf,b8p (lt3 hv ht) (lt3 hv hc.1) hut] at key;obtain ⟨w',hw'⟩:=key;have hs2:=SP.step hv h ht hi;have eu2:=SP.nxe hv hs2 (lt3 hv hc.1);rw [a0c _ _ _ (fun e=>hut e.symm),a4a hf] at eu2;refine ⟨u::w',?_⟩;rw [a4a hf];refine a2t.2 ⟨⟨hc.1,by rw [eu2];exact hc.2⟩,?_⟩;rw [eu2];exact hw'
theorem b4F {P:Pg} (hv:VP P) {o:List Int} {s:Sta} {n:Nat->Nat} (h:SP P s n) {t:Nat} (ht:t<P.length) (hi:n t<(thr P t).length) (hf:(aAt (thr P t) (n t)).1=3):Lf P (doS P s t (n t)) o↔Lf P s o:=by
 constructor
 ·rintro ⟨w,hw⟩;refine ⟨t::w,a2t.2 ?_⟩;rw [SP.nxe hv h (lt3 hv ht)];exact ⟨⟨ht,hi⟩,hw⟩
 rintro ⟨w,hw⟩;exact a5U hv h ht hi hf hw
theorem a7p {P:Pg} (hv:VP P) {o:List Int} {s:Sta} {n:Nat->Nat} (h:SP P s n):Lf P s o↔(a2B P s=true/\a2P P s=o) \/ ∃ t,t<P.length/\n t<(thr P t).length/\Lf P (doS P s t (n t)) o:=by
 constructor
 ·rintro ⟨w,hw⟩;cases w with
  | nil =>
    obtain ⟨s',h1,h2,h3⟩:=hw;cases h1;exact .inl ⟨h2,h3⟩
  | cons t w =>
    obtain ⟨hc,hg⟩:=a2t.1 hw;rw [SP.nxe hv h (lt3 hv hc.1)] at hc hg;exact .inr ⟨t,hc.1,hc.2,w,hg⟩
 rintro (⟨h1,h2⟩ | ⟨t,ht,hi,w,hw⟩)
 ·exact ⟨[],s,rfl,h1,h2⟩
 refine ⟨t::w,a2t.2 ?_⟩;rw [SP.nxe hv h (lt3 hv ht)];exact ⟨⟨ht,hi⟩,hw⟩
theorem PR.fence {P:Pg} (hv:VP P) {s:Sta} {n:Nat->Nat} {rd:Nat->List Int} (h:PR P s n rd) {t:Nat} (ht:t<P.length) (hi:n t<(thr P t).length) (hf:(aAt (thr P t) (n t)).1=3) :
  PR P (doS P s t (n t)) (fup n t (n t+1)) rd/\doS P s t (n t) 11=s 11/\doS P s t (n t) 12=s 12/\doS P s t (n t) 13=s 13:=by
 have h1:=PR.step hv h ht hi;have e:rd' P s n rd t=rd:=by
  unfold rd';rw [if_neg (by rw [hf];decide)]
 rw [e] at h1;have ht3:=lt3 hv ht;refine ⟨h1,?_,?_,?_⟩
 all_goals
  rw [a4a hf];unfold dS;exact a0c _ _ _ (by omega)
theorem b4G {P:Pg} (hv:VP P) {o:List Int} {t:Nat} (ht:t<P.length) : ∀ (d:Nat) {s:Sta} {n:Nat->Nat} {rd:Nat->List Int},PR P s n rd->(thr P t).length-n t<=d ->
  ∃ s' n',PR P s' n' rd/\und P n'<=und P n/\(Lf P s' o↔Lf P s o)/\s' 11=s 11/\s' 12=s 12/\s' 13=s 13/\iter (a8L Ar.std (eP P) (t:Int)) (eF n P.length)=some (eF n' P.length):=by
 intro d;have hl7:=hv.l7 t;have ht3:=lt3 hv ht;have z1:Ar.std.zle 0 (t:Int)=true:=by simp
 have z2 : ∀ n:Nat->Nat,Ar.std.zlt (t:Int) (Ar.std.len (eF n P.length))=true:=fun n=>by rw [show Ar.std.len (eF n P.length)=((eF n P.length).length:Int) from rfl,b0a];simp;omega
 induction d with
 | zero =>
   intro s n rd h hd;refine ⟨s,n,h,Nat.le_refl _,Iff.rfl,rfl,rfl,rfl,a0E ?_⟩;unfold a8L;refine bt (v:=false) (bck z1 (bck (z2 n) (bt (b6I n ht) (bt (a2r (a0O ht)) (cnF (by simp;omega) rfl))))) (cnF rfl rfl)
 | succ d ih =>
   intro s n rd h hd;by_cases hi:n t<(thr P t).length
   ·by_cases hf:(aAt (thr P t) (n t)).1=3
    ·obtain ⟨h1,c1,c2,c3⟩:=PR.fence hv h ht hi hf;have hu:=a3Z (P:=P) (n:=n) ht3 hi;obtain ⟨s',n',g1,g2,g3,g4,g5,g6,g7⟩:=ih h1 (by rw [a0g];omega);refine ⟨s',n',g1,by omega,g3.trans (b4F hv h.sp ht hi hf),by rw [g4,c1],by rw [g5,c2],by rw [g6,c3],(a0N ?_).trans g7⟩;have ew:Ar.std.wrp .i64 (Ar.std.zadd ((n t:Nat):Int) 1)=((n t+1:Nat):Int):=by simp only [a0m,a0q];exact a2i (n:=100) (by omega) (by omega)
     unfold a8L;refine bt (v:=true) (bck z1 (bck (z2 n) (bt (b6I n ht) (bt (a2r (a0O ht)) (cnT (by simp;omega) (bck z1 (bck (z2 n) (bt (a1c (a1S hi)) ?_)))))))) (cnT rfl (bck z1 (bck (z2 n) (bt (b6I n ht) (bck z1 (bck (z2 n) ?_))))))
     ·show some (Ar.std.zeq (aAt (thr P t) (n t)).1 3)=_;rw [hf];rfl
     rw [ew,b5r n ht (n t+1) rfl]
    refine ⟨s,n,h,Nat.le_refl _,Iff.rfl,rfl,rfl,rfl,a0E ?_⟩;unfold a8L;refine bt (v:=false) (bck z1 (bck (z2 n) (bt (b6I n ht) (bt (a2r (a0O ht)) (cnT (by simp;omega) (bck z1 (bck (z2 n) (bt (a1c (a1S hi)) ?_)))))))) (cnF rfl rfl);show some (Ar.std.zeq (aAt (thr P t) (n t)).1 3)=_;simp [hf]
   refine ⟨s,n,h,Nat.le_refl _,Iff.rfl,rfl,rfl,rfl,a0E ?_⟩;unfold a8L;refine bt (v:=false) (bck z1 (bck (z2 n) (bt (b6I n ht) (bt (a2r (a0O ht)) (cnF (by simp;omega) rfl))))) (cnF rfl rfl)
theorem b4H {P:Pg} (hv:VP P) {o:List Int} {s:Sta} {n:Nat->Nat} {rd:Nat->List Int} (h:PR P s n rd) :
  ∃ s' n',PR P s' n' rd/\und P n'<=und P n/\(Lf P s' o↔Lf P s o)/\s' 11=s 11/\s' 12=s 12/\s' 13=s 13/\iter (b0k Ar.std (eP P)) (0,eF n P.length)=some (eF n' P.length):=by
 have hn3:=hv.n3;have key:=a1G (step:=b0k Ar.std (eP P)) P.length (fun (m:Nat->Nat) (t:Nat)=>((t:Int),eF m P.length))
  (fun t m => ∃ s',PR P s' m rd/\und P m<=und P n/\(Lf P s' o↔Lf P s o)/\s' 11=s 11/\s' 12=s 12/\s' 13=s 13) (fun _ _=>False) (fun m=>eF m P.length)
  (fun t m ht hR=>by
   obtain ⟨s1,h1,h2,h3,h4,h5,h6⟩:=hR;obtain ⟨s2,n2,g1,g2,g3,g4,g5,g6,g7⟩:=b4G hv (o:=o) ht _ h1 (Nat.le_refl _);refine .inl ⟨n2,⟨s2,g1,by omega,g3.trans h3,by rw [g4,h4],by rw [g5,h5],by rw [g6,h6]⟩,?_⟩;have ew:Ar.std.wrp .i64 (Ar.std.zadd (t:Int) 1)=((t+1:Nat):Int):=by simp only [a0m,a0q];exact a2i (n:=10) (by omega) (by omega)
   unfold b0k;dsimp only;refine cnT (by simp;omega) (bt g7 ?_);rw [ew])
  (fun m _=>by
   unfold b0k;dsimp only;exact cnF (by simp) rfl) n ⟨s,h,Nat.le_refl _,Iff.rfl,rfl,rfl,rfl⟩
 rcases key with ⟨m,⟨s',h1,h2,h3,h4,h5,h6⟩,hit⟩ | ⟨_,_,_,hF,_⟩
 ·exact ⟨s',m,h1,h2,h3,h4,h5,h6,hit⟩
 exact hF.elim
theorem a4L {P:Pg} (hv:VP P) (n:Nat->Nat) (rd:Nat->List Int) (a b c:Int) :
  M73 Ar.std (eP P) a b c (eF n P.length) (eRd rd P.length)=some (eP P,a,b,c,eF n P.length,eRd rd P.length):=by
 have hn3:=hv.n3;unfold M73;refine bt (a4E (by rw [b0a];simp;omega)) (bt (a4E (by rw [a3F];simp;omega)) ?_)
 rfl
theorem b6J {P:Pg} (hv:VP P) {s:Sta} (hw:Wf P s):SmL (a2P P s):=by
 have h8:=a4J hv hw;refine ⟨by unfold a2P;simp;omega,fun y hy => ?_⟩;unfold a2P at hy;rcases List.mem_append.1 hy with hy | hy
 ·obtain ⟨n,hn,rfl⟩:=List.mem_map.1 hy;have hn:=List.mem_range.1 hn;have:=hw.r n (by omega);omega
 have h0:0<=s 11/\s 11<=3:=hw.c 0 (by omega);have h1:0<=s 12/\s 12<=3:=hw.c 1 (by omega);have h2:0<=s 13/\s 13<=3:=hw.c 2 (by omega);simp only [List.mem_cons,List.not_mem_nil,or_false] at hy;rcases hy with rfl | rfl | rfl
 ·omega
 ·omega
 omega
theorem b6K {P:Pg} (hv:VP P) {o:List Int} (ho:o.length<4294967296) (vo : ∀ y∈o,-9223372036854775808<=y/\y<9223372036854775808) : ∀ (f:Nat) {s:Sta} {n:Nat->Nat} {rd:Nat->List Int},PR P s n rd->und P n<f ->
  ∃ b,b3y Ar.std f (a0i o) (eP P) (s 11) (s 12) (s 13) (eF n P.length) (eRd rd P.length)=some b/\(b=true↔Lf P s o):=by
 intro f
 induction f with
 | zero=>intro s n rd _ h;omega
 | succ f ih =>
   intro s n rd h hu;have hn3:=hv.n3;obtain ⟨s',n',h1,h2,h3,h4,h5,h6,h7⟩:=b4H hv (o:=o) h;unfold b3y b8y;rw [<-h4,<-h5,<-h6,<-h3];have key:=a1G (step:=a5Z Ar.std (a0i o) (eP P) (s' 11) (s' 12) (s' 13) (eRd rd P.length) (eF n' P.length) (b3y Ar.std f)) P.length (fun (v:Bool) (t:Nat)=>(v,(t:Int)))
    (fun t v=>(v=true ↔ ∀ u,u<t->n' u=(thr P u).length) /\ ∀ u,u<t->n' u<(thr P u).length -> ¬ Lf P (doS P s' u (n' u)) o) (fun t x=>x = .inr ()/\Lf P s' o) (fun v => .inl v)
    (fun t v ht hR=>by
     obtain ⟨r1,r2⟩:=hR;have hl:=h1.sp.l t;have ew:Ar.std.wrp .i64 (Ar.std.zadd (t:Int) 1)=((t+1:Nat):Int):=by simp only [a0m,a0q];exact a2i (n:=10) (by omega) (by omega)
     by_cases hi:n' t<(thr P t).length
     ·have hs:=PR.step hv h1 ht hi;have hun:=a3Z (P:=P) (n:=n') (lt3 hv ht) hi;obtain ⟨b,e1,e2⟩:=ih hs (by omega);cases b with
      | true =>
        have hL:=e2.1 rfl;refine .inr ⟨.inr (),⟨rfl,(a7p hv h1.sp).2 (.inr ⟨t,ht,hi,hL⟩)⟩,?_⟩;unfold a5Z;dsimp only;refine cnT (by simp;omega) (bt (a4L hv n' rd _ _ _) (bt (a7n hv h1 ht hi) ?_));unfold jn;exact cnT rfl (bt e1 (cnT rfl rfl))
      | false =>
        have hL : ¬ Lf P (doS P s' t (n' t)) o:=fun hL=>by have:=e2.2 hL;cases this
        refine .inl ⟨false,⟨⟨(fun h=>by cases h),fun hall => ?_⟩,fun u hu' hi' => ?_⟩,?_⟩
        ·have:=hall t (by omega);omega
        ·rcases Nat.lt_or_eq_of_le (Nat.le_of_lt_succ hu') with g | rfl
         ·exact r2 u g hi'
         exact hL
        unfold a5Z;dsimp only;refine cnT (by simp;omega) (bt (a4L hv n' rd _ _ _) (bt (a7n hv h1 ht hi) ?_));unfold jn;refine cnT rfl (bt e1 (cnF rfl ?_));rw [ew]
     refine .inl ⟨v,⟨⟨fun hv' u hu' => ?_,fun hall=>r1.2 fun u hu'=>hall u (by omega)⟩,fun u hu' hi' => ?_⟩,?_⟩
     ·rcases Nat.lt_or_eq_of_le (Nat.le_of_lt_succ hu') with g | rfl
      ·exact r1.1 hv' u g
      omega
     ·rcases Nat.lt_or_eq_of_le (Nat.le_of_lt_succ hu') with g | rfl
      ·exact r2 u g hi'
      exact absurd hi' hi
     unfold a5Z;dsimp only;refine cnT (by simp;omega) (bt (a4L hv n' rd _ _ _) (bt (b5s ht hi _ _ _) ?_));unfold jn;refine cnF rfl ?_;rw [ew])
    (fun v _=>by
     unfold a5Z;dsimp only;exact cnF (by simp) rfl) true ⟨⟨fun _ u hu'=>by omega,fun _=>rfl⟩,fun u hu'=>by omega⟩
   rcases key with ⟨v,⟨r1,r2⟩,hit⟩ | ⟨t,x,ht,⟨rfl,hL⟩,hit⟩
   ·have hno : ¬ ∃ t,t<P.length/\n' t<(thr P t).length/\Lf P (doS P s' t (n' t)) o:=fun ⟨t,ht,hi,hL⟩=>r2 t ht hi hL;cases v with
    | true =>
      have hov:=(SP.over hv h1.sp).2 fun t ht=>r1.1 rfl t ht;have sm:=b6J hv h1.sp.k.wf;obtain ⟨x,e1,e2⟩:=b3p (a:=a2P P s') (b:=o) sm.1 ho (fun y hy=>by have:=sm.2 y hy;omega) vo;have e79:=b8o hv h1;rw [PR.out hv h1 hov] at e79;refine ⟨decide (x=0),bt (a4L hv n rd _ _ _) (bt h7 (bt (show iter (a5Z Ar.std (a0i o) (eP P) (s' 11) (s' 12) (s' 13) (eRd rd P.length) (eF n' P.length) (b3y Ar.std f)) (true,0)=_ from hit) ?_)),?_⟩
      ·rw [Sum.elim_inl];refine bt (v:=decide (x=0)) (cnT rfl (bt e79 (bt e1 ?_))) rfl;rw [a2g]
      rw [decide_eq_true_eq,e2,a7p hv h1.sp];constructor
      ·intro h;exact .inl ⟨hov,h⟩
      rintro (⟨_,h⟩ | h)
      ·exact h
      exact absurd h hno
    | false =>
      refine ⟨false,bt (a4L hv n rd _ _ _) (bt h7 (bt (show iter (a5Z Ar.std (a0i o) (eP P) (s' 11) (s' 12) (s' 13) (eRd rd P.length) (eF n' P.length) (b3y Ar.std f)) (true,0)=_ from hit) ?_)),?_⟩
      ·rw [Sum.elim_inl];exact bt (v:=false) (cnF rfl rfl) rfl
      constructor
      ·intro h;cases h
      intro hL;rcases (a7p hv h1.sp).1 hL with ⟨hov,_⟩ | h
      ·have:=r1.2 fun u hu'=>(SP.over hv h1.sp).1 hov u hu';cases this
      exact absurd h hno
   refine ⟨true,bt (a4L hv n rd _ _ _) (bt h7 (bt (show iter (a5Z Ar.std (a0i o) (eP P) (s' 11) (s' 12) (s' 13) (eRd rd P.length) (eF n' P.length) (b3y Ar.std f)) (true,0)=_ from hit) rfl)),⟨fun _=>hL,fun _=>rfl⟩⟩
theorem a5V {P:Pg} (hv:VP P) (n:Nat->Nat):und P n<fuel:=by
 have:=hv.l7 0;have:=hv.l7 1;have:=hv.l7 2;unfold und fuel;omega
theorem b8q {P:Pg} (hv:VP P) {o:List Int} (ho:GH o) (hc : ¬ Lf P s0 o):M28 Ar.std (eP P) (a0i o)=some ([],5):=by
 have e:=a9L (VP.short hv);rw [VP.to hv] at e;have hf:fuel<=1000000:=by unfold fuel;omega
 rcases b3m hv ho fuel (SP.init P) (a5V hv _) hf (L:=[]) ⟨fun u hu=>(by cases hu),fun u hu=>(by cases hu)⟩ with ⟨w,m,e1,hF⟩ | ⟨L,_,e1,hng⟩
 ·exact absurd ⟨w,hF.1⟩ hc
 unfold M28;refine bt e (cnT rfl (bt (v:=([],false,eMB L)) ?_ (cnF rfl rfl)));unfold M70;exact e1
theorem b8r {p:Nat->Prop} {m:Nat} (h : ∃ t,t<m/\p t) : ∃ t,t<m/\p t /\ ∀ u,u<t -> ¬ p u:=by
 induction m with
 | zero=>obtain ⟨t,ht,_⟩:=h;omega
 | succ m ih =>
   by_cases h2 : ∃ t,t<m/\p t
   ·obtain ⟨t,a,b,c⟩:=ih h2;exact ⟨t,by omega,b,c⟩
   obtain ⟨t,a,b⟩:=h;have:t=m:=by
    rcases Nat.lt_or_eq_of_le (Nat.le_of_lt_succ a) with g | g
    ·exact absurd ⟨t,g,b⟩ h2
    exact g
   subst this;exact ⟨t,a,b,fun u hu hp=>h2 ⟨u,hu,hp⟩⟩
def Go1 (P:Pg) (s:Sta) (n:Nat->Nat) (o:List Int) (t:Nat):Prop:=n t<(thr P t).length/\Lf P (doS P s t (n t)) o
section
variable {P:Pg} (hv:VP P) {o:List Int} (ho:o.length<4294967296) (vo : ∀ y∈o,-9223372036854775808<=y/\y<9223372036854775808)
include hv ho vo
theorem b0b {s:Sta} {n:Nat->Nat} {rd:Nat->List Int} (h:PR P s n rd) : ∃ b,M72 Ar.std (a0i o) (eP P) (s 11) (s 12) (s 13) (eF n P.length) (eRd rd P.length)=some b/\(b=true↔Lf P s o) :=
 b6K hv ho vo fuel h (a5V hv n)
theorem b6L {s:Sta} {n:Nat->Nat} {rd:Nat->List Int} (h:PR P s n rd) {out:List Int} (hl:out.length<=1000) {t:Nat} (ht:t<P.length) (hg:Go1 P s n o t) :
  a3G Ar.std (eP P) (a0i o) (a0i out,false,(t:Int),eP P,s 11,s 12,s 13,eF n P.length,eRd rd P.length) =
   some (.inl (a0i (out++[(t:Int)]),true,((t+1:Nat):Int),eP P,doS P s t (n t) 11,doS P s t (n t) 12,doS P s t (n t) 13,eF (fup n t (n t+1)) P.length,eRd (rd' P s n rd t) P.length)):=by
 have hn3:=hv.n3;have ew:Ar.std.wrp .i64 (Ar.std.zadd (t:Int) 1)=((t+1:Nat):Int):=by simp only [a0m,a0q];exact a2i (n:=10) (by omega) (by omega)
 obtain ⟨b,e1,e2⟩:=b0b hv ho vo (PR.step hv h ht hg.1);have hb:=e2.2 hg.2;subst hb;have ea:ap Ar.std (a0i out) [D.int .i64 (t:Int)]=some (a0i (out++[(t:Int)])):=by
  rw [a4E (by simp;omega)];simp [enc];rfl
 unfold a3G;dsimp only;refine bt (v:=true) (cnT (by simp;omega) rfl) (cnT rfl (bt (a4L hv n rd _ _ _) ?_));refine bt (v:=(true,doS P s t (n t) 11,doS P s t (n t) 12,doS P s t (n t) 13,eF (fup n t (n t+1)) P.length,eRd (rd' P s n rd t) P.length)) (bt (a7n hv h ht hg.1) (cnT rfl (bt e1 rfl))) ?_;refine bt (v:=(a0i (out++[(t:Int)]),true,eP P,doS P s t (n t) 11,doS P s t (n t) 12,doS P s t (n t) 13,eF (fup n t (n t+1)) P.length,eRd (rd' P s n rd t) P.length)) (cnT rfl (bt ea rfl)) ?_;dsimp only;rw [ew]
theorem b5u {s:Sta} {n:Nat->Nat} {rd:Nat->List Int} (h:PR P s n rd) {out:List Int} {t:Nat} (ht:t<P.length) (hg : ¬ Go1 P s n o t) :
  a3G Ar.std (eP P) (a0i o) (a0i out,false,(t:Int),eP P,s 11,s 12,s 13,eF n P.length,eRd rd P.length) =
   some (.inl (a0i out,false,((t+1:Nat):Int),eP P,s 11,s 12,s 13,eF n P.length,eRd rd P.length)):=by
 have hn3:=hv.n3;have ew:Ar.std.wrp .i64 (Ar.std.zadd (t:Int) 1)=((t+1:Nat):Int):=by simp only [a0m,a0q];exact a2i (n:=10) (by omega) (by omega)
 unfold a3G;dsimp only;refine bt (v:=true) (cnT (by simp;omega) rfl) (cnT rfl (bt (a4L hv n rd _ _ _) ?_));by_cases hi:n t<(thr P t).length
 ·obtain ⟨b,e1,e2⟩:=b0b hv ho vo (PR.step hv h ht hi);cases b with
  | true=>exact absurd ⟨hi,e2.1 rfl⟩ hg
  | false =>
    refine bt (v:=(false,doS P s t (n t) 11,doS P s t (n t) 12,doS P s t (n t) 13,eF (fup n t (n t+1)) P.length,eRd (rd' P s n rd t) P.length)) (bt (a7n hv h ht hi) (cnT rfl (bt e1 rfl))) ?_;refine bt (v:=(a0i out,false,eP P,s 11,s 12,s 13,eF n P.length,eRd rd P.length)) (cnF rfl rfl) ?_;dsimp only;rw [ew]
 refine bt (v:=(false,s 11,s 12,s 13,eF n P.length,eRd rd P.length)) (bt (b5s ht hi _ _ _) (cnF rfl rfl)) ?_;refine bt (v:=(a0i out,false,eP P,s 11,s 12,s 13,eF n P.length,eRd rd P.length)) (cnF rfl rfl) ?_;dsimp only;rw [ew]
theorem b6M {s:Sta} {n:Nat->Nat} {rd:Nat->List Int} {out:List Int} {t:Nat} (hg : ¬ t<P.length) :
  a3G Ar.std (eP P) (a0i o) (a0i out,false,(t:Int),eP P,s 11,s 12,s 13,eF n P.length,eRd rd P.length) =
   some (.inr (a0i out,false,eP P,s 11,s 12,s 13,eF n P.length,eRd rd P.length)):=by
 unfold a3G;dsimp only;exact bt (v:=false) (cnF (by simp;omega) rfl) (cnF rfl rfl)
theorem b4I {s:Sta} {n:Nat->Nat} {rd:Nat->List Int} {out:List Int} {t:Nat} :
  a3G Ar.std (eP P) (a0i o) (a0i out,true,(t:Int),eP P,s 11,s 12,s 13,eF n P.length,eRd rd P.length) =
   some (.inr (a0i out,true,eP P,s 11,s 12,s 13,eF n P.length,eRd rd P.length)):=by
 unfold a3G;dsimp only;refine bt (v:=false) ?_ (cnF rfl rfl);by_cases h:t<P.length
 ·exact cnT (by simp;omega) rfl
 exact cnF (by simp;omega) rfl
theorem a6D {s:Sta} {n:Nat->Nat} {rd:Nat->List Int} (h:PR P s n rd) {out:List Int} : ∀ (d i:Nat),i+d=P.length->(∀ u,i<=u->u<P.length -> ¬ Go1 P s n o u) ->
  iter (a3G Ar.std (eP P) (a0i o)) (a0i out,false,(i:Int),eP P,s 11,s 12,s 13,eF n P.length,eRd rd P.length)=some (a0i out,false,eP P,s 11,s 12,s 13,eF n P.length,eRd rd P.length)
 | 0,i,hi,_=>a0E (b6M hv ho vo (by omega))
 | d+1,i,hi,hno=>(a0N (b5u hv ho vo h (by omega) (hno i (Nat.le_refl _) (by omega)))).trans (a6D h d (i+1) (by omega) fun u hu=>hno u (by omega))
theorem a6E {s:Sta} {n:Nat->Nat} {rd:Nat->List Int} (h:PR P s n rd) {out:List Int} (hl:out.length<=1000) {t:Nat} (ht:t<P.length) (hg:Go1 P s n o t) : ∀ (d i:Nat),i+d=t->(∀ u,i<=u->u<t -> ¬ Go1 P s n o u) ->
  iter (a3G Ar.std (eP P) (a0i o)) (a0i out,false,(i:Int),eP P,s 11,s 12,s 13,eF n P.length,eRd rd P.length) =
   some (a0i (out++[(t:Int)]),true,eP P,doS P s t (n t) 11,doS P s t (n t) 12,doS P s t (n t) 13,eF (fup n t (n t+1)) P.length,eRd (rd' P s n rd t) P.length)
 | 0,i,hi,_=>by
   obtain rfl:i=t:=by omega
   exact (a0N (b6L hv ho vo h hl ht hg)).trans (a0E (b4I hv ho vo))
 | d+1,i,hi,hno=>(a0N (b5u hv ho vo h (by omega) (hno i (Nat.le_refl _) (by omega)))).trans (a6E h hl ht hg d (i+1) (by omega) fun u hu=>hno u (by omega))
theorem b4J : ∀ (k:Nat) {s:Sta} {n:Nat->Nat} {rd:Nat->List Int},PR P s n rd->und P n=k -> ∀ {out:List Int},out.length+k<=1000->Lf P s o ->
  ∃ w,First P s o w/\iter (a8M Ar.std (eP P) (a0i o)) (a0i out,true,eP P,s 11,s 12,s 13,eF n P.length,eRd rd P.length)=some (a0i (out++iW w)):=by
 intro k
 induction k with
 | zero =>
   intro s n rd h hk out hl hL;have hov:=(a4Y hv h.sp).2 hk;have hno : ∀ u,0<=u->u<P.length -> ¬ Go1 P s n o u:=fun u _ hu hg=>by
    have:=(SP.over hv h.sp).1 hov u hu;have:=hg.1;omega
   have hit:=a6D hv ho vo h (out:=out) P.length 0 (by omega) hno;obtain ⟨w,hw⟩:=hL;have hwl:=a9Z hv h.sp hw;obtain rfl:w=[]:=List.length_eq_zero_iff.1 (by omega);refine ⟨[],⟨hw,fun w' _ => ?_⟩,?_⟩
   ·show ((0:Nat):Int)-_<=0;omega
   refine (a0N (s':=(a0i out,false,eP P,s 11,s 12,s 13,eF n P.length,eRd rd P.length)) ?_).trans (a0E ?_)
   ·unfold a8M;dsimp only;exact cnT rfl (bt (show iter (a3G Ar.std (eP P) (a0i o)) (a0i out,false,0,eP P,s 11,s 12,s 13,eF n P.length,eRd rd P.length)=_ from hit) rfl)
   unfold a8M;dsimp only;refine cnF rfl ?_;simp
 | succ k ih =>
   intro s n rd h hk out hl hL;have hnov : ¬ a2B P s=true:=fun hov=>by
    have:=(a4Y hv h.sp).1 hov;omega
   have hex : ∃ t,t<P.length/\Go1 P s n o t:=by
    rcases (a7p hv h.sp).1 hL with ⟨hov,_⟩ | ⟨t,ht,hi,h2⟩
    ·exact absurd hov hnov
    exact ⟨t,ht,hi,h2⟩
   obtain ⟨t,ht,hg,hmin⟩:=b8r hex;have hs:=PR.step hv h ht hg.1;have hu:=a3Z (P:=P) (n:=n) (lt3 hv ht) hg.1;obtain ⟨w,hF,e⟩:=ih hs (by omega) (out:=out++[(t:Int)]) (by rw [List.length_append,List.length_singleton];omega) hg.2;have en:=SP.nxe hv h.sp (lt3 hv ht);refine ⟨t::w,⟨?_,fun w' hw' => ?_⟩,?_⟩
   ·refine a2t.2 ?_;rw [en];exact ⟨⟨ht,hg.1⟩,hF.1⟩
   ·cases w' with
    | nil =>
      obtain ⟨s',h1,h2,_⟩:=hw';cases h1;exact absurd h2 hnov
    | cons t' w' =>
      obtain ⟨hc',hg2⟩:=a2t.1 hw';rw [SP.nxe hv h.sp (lt3 hv hc'.1)] at hc' hg2;show b0W ((t:Int)::iW w) ((t':Int)::iW w')<=0;rw [b0W];rcases Nat.lt_trichotomy t' t with g | g | g
      ·exact absurd ⟨hc'.2,w',hg2⟩ (hmin t' g)
      ·subst g;rw [if_pos rfl];exact hF.2 w' hg2
      rw [if_neg (by omega)];omega
   have hit:=a6E hv ho vo h (out:=out) (by omega) ht hg t 0 (by omega) (fun u _ hu=>hmin u hu);refine (a0N (s':=(a0i (out++[(t:Int)]),true,eP P,doS P s t (n t) 11,doS P s t (n t) 12,doS P s t (n t) 13,eF (fup n t (n t+1)) P.length,eRd (rd' P s n rd t) P.length)) ?_).trans ?_
   ·unfold a8M;dsimp only;exact cnT rfl (bt (show iter (a3G Ar.std (eP P) (a0i o)) (a0i out,false,0,eP P,s 11,s 12,s 13,eF n P.length,eRd rd P.length)=_ from hit) rfl)
   rw [e,List.append_assoc];rfl
theorem b6N (hL:Lf P s0 o) : ∃ w,First P s0 o w/\M29 Ar.std (eP P) (a0i o)=some (a0i (iW w),0):=by
 have e:=b2V (VP.short hv);rw [VP.to hv] at e;have hu:und P (fun _=>0)<=900:=by
  have:=hv.l7 0;have:=hv.l7 1;have:=hv.l7 2;unfold und;omega
 obtain ⟨b,e1,e2⟩:=b0b hv ho vo (PR.init P);have hb:=e2.2 hL;subst hb;obtain ⟨w,hF,e3⟩:=b4J hv ho vo _ (PR.init P) rfl (out:=[]) (by simp;omega) hL;refine ⟨w,hF,?_⟩;unfold M29;exact bt e (cnT rfl (bt (b5t hv) (bt e1 (cnT rfl (bt (show iter (a8M Ar.std (eP P) (a0i o)) ([],true,eP P,0,0,0,eF (fun _=>0) P.length,eRd (fun _=>[]) P.length)=_ from e3) rfl)))))
theorem b8s (hL : ¬ Lf P s0 o):M29 Ar.std (eP P) (a0i o)=some ([],5):=by
 have e:=b2V (VP.short hv);rw [VP.to hv] at e;obtain ⟨b,e1,e2⟩:=b0b hv ho vo (PR.init P);cases b with
 | true=>exact absurd (e2.1 rfl) hL
 | false =>
   unfold M29;exact bt e (cnT rfl (bt (b5t hv) (bt e1 (cnF rfl rfl))))
end
theorem b3q {P:Pg} {s:Sta} {o:List Int} {w w':List Nat} (h:First P s o w) (h':First P s o w'):w=w':=by
 have a:=h.2 w' h'.1;have b:=h'.2 w h.1;have inj:iW w=iW w'->w=w':=fun e=>by
  have:=congrArg (List.map Int.toNat) e;simpa [iW,List.map_map,Function.comp_def] using this
 apply inj;rcases Int.lt_or_eq_of_le a with g | g
 ·rcases Int.lt_or_eq_of_le b with g' | g'
  ·exact absurd ((a5K.1.1 g)) (fun h1=>a3D _ (a5H h1 (a5K.1.1 g')))
  exact (a5K.2.1 g').symm
 exact a5K.2.1 g
open Classical in
theorem b9N (P:Pg) (hP:P.length<9223372036854775808) (hl : ∀ t∈P,t.length<9223372036854775808) (x:List Int) (hx:x.length<9223372036854775808) (vx : ∀ y∈x,-9223372036854775808<=y/\y<9223372036854775808):M5 Ar.std (eP P) (a0i x)=some true:=by
 obtain ⟨q,e,hq⟩:=b7I P hP hl;have hxl:Ar.std.len (a0i x)=(x.length:Int):=by simp
 unfold M5;cases q with
 | true=>exact bt (v:=true) (bt e rfl) (cnT rfl (bt b2U rfl))
 | false =>
   have hS:=hq rfl;by_cases h60:60<x.length
   ·exact bt (v:=true) (bt e (cnF rfl (by rw [hxl];simp;omega))) (cnT rfl (bt b2U rfl))
   refine bt (v:=false) (bt e (cnF rfl (by rw [hxl];simp;omega))) (cnF rfl ?_);have e2:=b2V hS;have e3:=a9L hS;have hgh:GH x:=by show x.length<_;omega
   have fin : ∀ (l:List Int) (c:Int),l.length<4294967296->(∀ y∈l,-9223372036854775808<=y/\y<9223372036854775808)->M28 Ar.std (eP P) (a0i x)=some (a0i l,c)->M29 Ar.std (eP P) (a0i x)=some (a0i l,c) ->
     ((M28 Ar.std (eP P) (a0i x)).bind fun (r12,r13)=>(M29 Ar.std (eP P) (a0i x)).bind fun (r15,r16) =>
       (((M30 Ar.std r12 r15).bind fun r18=>bif (Ar.std.zeq r18 0) then bif (Ar.std.zeq r13 r16) then (M18 Ar.std).bind fun r22=>some r22 else some false else some false:Option (Bool))).bind fun v23=>some v23)=some true:=by
    intro l c h1 h2 f1 f2;obtain ⟨v,g1,g2⟩:=b3p h1 h1 h2 h2;have hv0:=g2.2 rfl;subst hv0;exact bt f1 (bt f2 (bt (v:=true) (bt g1 (cnT rfl (cnT (by simp) (bt b2U rfl)))) rfl))
   cases hp:a6f P with
   | false =>
     rw [hp] at e2 e3;refine fin [] 40 (by simp) (by simp) ?_ ?_
     ·unfold M28;exact bt e3 (cnF rfl rfl)
     unfold M29;exact bt e2 (cnF rfl rfl)
   | true =>
     have hv:=VP.of hp;by_cases hL:Lf P s0 x
     ·obtain ⟨w,hF,f1⟩:=b8l hv hgh ((b5q hv).2 hL);obtain ⟨w',hF',f2⟩:=b6N hv (by omega) vx hL;have:=b3q hF hF';subst this;have hwl:=a9Z hv (SP.init P) hF.1;have hu:und P (fun _=>0)<=900:=by
       have:=hv.l7 0;have:=hv.l7 1;have:=hv.l7 2;unfold und;omega
      have hw3 : ∀ (w:List Nat) {s:Sta},(∃ s',run P s w=some s') -> ∀ t∈w,t<P.length:=by
       intro w
       induction w with
       | nil=>intro s _ t ht;cases ht
       | cons a w ih =>
         rintro s ⟨s',h⟩ t ht;unfold run at h;by_cases hc:a<P.length/\nx s a<(thr P a).length
         ·rw [if_pos hc] at h;rcases List.mem_cons.1 ht with rfl | ht
          ·exact hc.1
          exact ih ⟨s',h⟩ t ht
         rw [if_neg hc] at h;cases h
      obtain ⟨s',hr,_⟩:=hF.1;refine fin _ 0 (by simp;omega) (fun y hy => ?_) f1 f2;obtain ⟨t,ht,rfl⟩:=List.mem_map.1 hy;have:=hw3 w ⟨s',hr⟩ t ht;have:=hv.n3;show _<=(t:Int)/\(t:Int)<_;omega
     exact fin [] 5 (by simp) (by simp) (b8q hv hgh hL) (b8s hv (by omega) vx hL)
end Go.Am
