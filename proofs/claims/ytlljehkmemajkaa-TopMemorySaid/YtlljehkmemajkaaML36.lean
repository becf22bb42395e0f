import Derived.Test.YtlljehkmemajkaaML13
import Derived.Test.YtlljehkmemajkaaML15
import Derived.Test.YtlljehkmemajkaaGenp1
set_option maxRecDepth 100000
set_option maxHeartbeats 2000000
set_option linter.unusedVariables false
set_option linter.unusedSimpArgs false
set_option linter.unusedSectionVars false
namespace Go.Am
open Go
abbrev Pt:=Nat×Nat
def acA (P:Pg) (x:Pt):Ac:=aAt (thr P x.1) x.2
def a5H (a b:Ac):Prop:=a.1=3\/b.1=3\/a.2.1≠b.2.1\/(a.1≠2/\b.1≠2)
theorem a5H.symm {a b:Ac} (h:a5H a b):a5H b a:=by
 rcases h with h | h | h | h
 ·exact .inr (.inl h)
 ·exact .inl h
 ·exact .inr (.inr (.inl fun e=>h e.symm))
 exact .inr (.inr (.inr ⟨h.2,h.1⟩))
theorem a8x {a b:Ac} (h : ¬ a5H a b):a.1≠3/\b.1≠3/\a.2.1=b.2.1/\(a.1=2\/b.1=2):=by
 unfold a5H at h;refine ⟨fun e=>h (.inl e),fun e=>h (.inr (.inl e)),?_,?_⟩
 ·exact Classical.byContradiction fun e=>h (.inr (.inr (.inl e)))
 exact Classical.byContradiction fun e=>h (.inr (.inr (.inr ⟨fun g=>e (.inl g),fun g=>e (.inr g)⟩)))
def ex (P:Pg) (s:AS) (L:List Pt):AS:=L.foldl (fun s x=>doA 3 P s x.1 x.2) s
theorem c0c {s u:AS} (h1:s.dn=u.dn) (h2:s.rd=u.rd) (h3:s.bf=u.bf) (h4:s.ce=u.ce):s=u:=by
 cases s;cases u;simp only at h1 h2 h3 h4;subst h1 h2 h3 h4
 rfl
section
variable {P:Pg} {s:AS}
theorem b6E {k:Nat} (hk:k≠2) (t i:Nat):doA k P s t i=doA 3 P s t i:=by simp [doA,hk]
theorem b5v (x:Pt) (y:Pt):(doA 3 P s x.1 x.2).dn y.1 y.2=if y=x then true else s.dn y.1 y.2:=by
 obtain ⟨t,i⟩:=x;obtain ⟨u,j⟩:=y;simp only [doA,fup,Prod.mk.injEq];by_cases h1:u=t
 ·subst h1;by_cases h2:j=i <;> simp [fup,h2]
 simp [fup,h1]
theorem a3R (x:Pt):(doA 3 P s x.1 x.2).bf=s.bf:=by simp [doA]
theorem a6n (x:Pt) (c:Int):(doA 3 P s x.1 x.2).ce c=if (acA P x).1=2/\c=(acA P x).2.1 then (acA P x).2.2 else s.ce c:=by
 simp only [doA,acA,fup];by_cases h:(aAt (thr P x.1) x.2).1=2
 ·simp [h,fup]
 simp [h]
theorem a8y (hb : ∀ t,s.bf t=[]) (x y:Pt):(doA 3 P s x.1 x.2).rd y.1 y.2=if (acA P x).1=1/\y=x then s.ce (acA P x).2.1 else s.rd y.1 y.2:=by
 obtain ⟨t,i⟩:=x;obtain ⟨u,j⟩:=y;simp only [doA,acA,fup,Prod.mk.injEq];by_cases h:(aAt (thr P t) i).1=1
 ·by_cases h1:u=t
  ·subst h1;by_cases h2:j=i <;> simp [fup,h,sn,hb,h2]
  simp [fup,h,h1]
 simp [h]
theorem b4D (hb : ∀ t,s.bf t=[]) {x y:Pt} (hxy:x≠y) (hi:a5H (acA P x) (acA P y)):doA 3 P (doA 3 P s x.1 x.2) y.1 y.2=doA 3 P (doA 3 P s y.1 y.2) x.1 x.2:=by
 have hbx : ∀ t,(doA 3 P s x.1 x.2).bf t=[]:=fun t=>by rw [a3R];exact hb t
 have hby : ∀ t,(doA 3 P s y.1 y.2).bf t=[]:=fun t=>by rw [a3R];exact hb t
 have ne1 : ¬ ((acA P y).1=1/\(acA P x).1=2/\(acA P y).2.1=(acA P x).2.1):=by
  rintro ⟨h1,h2,h3⟩;rcases hi with h | h | h | h
  ·omega
  ·omega
  ·exact h h3.symm
  exact h.1 h2
 have ne2 : ¬ ((acA P x).1=1/\(acA P y).1=2/\(acA P x).2.1=(acA P y).2.1):=by
  rintro ⟨h1,h2,h3⟩;rcases hi with h | h | h | h
  ·omega
  ·omega
  ·exact h h3
  exact h.2 h2
 have ne3 : ¬ ((acA P x).1=2/\(acA P y).1=2/\(acA P x).2.1=(acA P y).2.1):=by
  rintro ⟨h1,h2,h3⟩;rcases hi with h | h | h | h
  ·omega
  ·omega
  ·exact h h3
  exact h.2 h2
 refine c0c ?_ ?_ ?_ ?_
 ·funext t i;have:=fun (s:AS) (x:Pt)=>b5v (P:=P) (s:=s) x (t,i);simp only at this;rw [this,this,this,this];by_cases h1:(t,i)=x <;> by_cases h2:(t,i)=y <;> simp [h1,h2]
 ·funext t i;have e1:=a8y (P:=P) hbx y (t,i);have e2:=a8y (P:=P) hby x (t,i);have e3:=a8y (P:=P) hb x (t,i);have e4:=a8y (P:=P) hb y (t,i);simp only at e1 e2 e3 e4;rw [e1,e2,e3,e4,a6n,a6n];by_cases h1:(acA P y).1=1/\(t,i)=y
  ·have h2 : ¬ ((acA P x).1=1/\(t,i)=x):=fun h=>hxy (h.2.symm.trans h1.2);have h3 : ¬ ((acA P x).1=2/\(acA P y).2.1=(acA P x).2.1):=fun h=>ne1 ⟨h1.1,h⟩;rw [if_pos h1,if_neg h2,if_neg h3,if_pos h1]
  rw [if_neg h1,if_neg h1];by_cases h2:(acA P x).1=1/\(t,i)=x
  ·have h3 : ¬ ((acA P y).1=2/\(acA P x).2.1=(acA P y).2.1):=fun h=>ne2 ⟨h2.1,h⟩;rw [if_pos h2,if_pos h2,if_neg h3]
  rw [if_neg h2,if_neg h2]
 ·rw [a3R,a3R,a3R,a3R]
 funext c;rw [a6n,a6n,a6n,a6n];by_cases h1:(acA P y).1=2/\c=(acA P y).2.1
 ·have h2 : ¬ ((acA P x).1=2/\c=(acA P x).2.1):=fun h=>ne3 ⟨h.1,h1.1,h.2.symm.trans h1.2⟩;rw [if_pos h1,if_neg h2,if_pos h1]
 rw [if_neg h1,if_neg h1]
end
theorem b8l {P:Pg} : ∀ (L:List Pt) (s:AS),(ex P s L).bf=s.bf
 | [],_=>rfl
 | x::L,s=>(b8l L (doA 3 P s x.1 x.2)).trans (a3R x)
theorem b5w {P:Pg} (s:AS) (L M:List Pt):ex P s (L++M)=ex P (ex P s L) M:=by unfold ex;rw [List.foldl_append]
theorem b3i {P:Pg} {f:Pt} {l2:List Pt} : ∀ (l1:List Pt) (s:AS),(∀ t,s.bf t=[])->(∀ y∈l1,y≠f/\a5H (acA P y) (acA P f))->ex P s (l1++f::l2)=ex P s (f::(l1++l2))
 | [],_,_,_=>rfl
 | y::l1,s,hb,h=>by
   have hb' : ∀ t,(doA 3 P s y.1 y.2).bf t=[]:=fun t=>by rw [a3R];exact hb t
   have ih:=b3i (f:=f) (l2:=l2) l1 (doA 3 P s y.1 y.2) hb' fun z hz=>h z (List.mem_cons_of_mem _ hz);obtain ⟨h1,h2⟩:=h y (List.mem_cons_self ..);show ex P (doA 3 P s y.1 y.2) (l1++f::l2)=_;rw [ih];show ex P (doA 3 P (doA 3 P s y.1 y.2) f.1 f.2) (l1++l2)=ex P (doA 3 P (doA 3 P s f.1 f.2) y.1 y.2) (l1++l2);rw [b4D hb h1 h2]
theorem b6F {P:Pg} (pos:Pt->Nat) (before:Pt->Pt->Prop) (A:Pt->Prop)
  (H : ∀ L:List Pt,L≠[]->L.Pairwise (fun x y=>pos x<pos y)->(∀ y∈L,A y) -> ∃ f∈L,(∀ y∈L,y≠f->before f y) /\ ∀ y∈L,pos y<pos f->a5H (acA P y) (acA P f)) :
  ∀ (n:Nat) (L:List Pt),L.length=n->L.Pairwise (fun x y=>pos x<pos y)->(∀ y∈L,A y) -> ∀ s:AS,(∀ t,s.bf t=[]) -> ∃ L',L'.Perm L/\L'.Pairwise before/\ex P s L'=ex P s L:=by
 intro n
 induction n with
 | zero =>
   intro L hL _ _ s _;obtain rfl:=List.length_eq_zero_iff.1 hL;exact ⟨[],.refl _,.nil,rfl⟩
 | succ n ih =>
   intro L hL hs hA s hb;obtain ⟨f,hf,h1,h2⟩:=H L (by intro e;rw [e] at hL;cases hL) hs hA;obtain ⟨l1,l2,rfl⟩:=List.append_of_mem hf;have hs':=hs;rw [List.pairwise_append] at hs;obtain ⟨p1,p2,p3⟩:=hs;rw [List.pairwise_cons] at p2;have hlt : ∀ y∈l1,pos y<pos f:=fun y hy=>p3 y hy f (by simp);have hsub:(l1++l2).Sublist (l1++f::l2):=List.Sublist.append (List.Sublist.refl _) (List.sublist_cons_self ..);have hbf : ∀ t,(doA 3 P s f.1 f.2).bf t=[]:=fun t=>by rw [a3R];exact hb t
   obtain ⟨M,m1,m2,m3⟩:=ih (l1++l2) (by simp at hL ⊢;omega) (hs'.sublist hsub) (fun y hy=>hA y (hsub.subset hy)) _ hbf;refine ⟨f::M,(List.Perm.cons f m1).trans List.perm_middle.symm,List.pairwise_cons.2 ⟨fun y hy => ?_,m2⟩,?_⟩
   ·have hy:=m1.subset hy;refine h1 y (hsub.subset hy) fun e => ?_;subst e;rcases List.mem_append.1 hy with hy | hy
    ·exact Nat.lt_irrefl _ (hlt y hy)
    exact Nat.lt_irrefl _ (p2.1 y hy)
   rw [b3i l1 s hb fun y hy=>⟨fun e=>by subst e;exact Nat.lt_irrefl _ (hlt y hy),h2 y (List.mem_append_left _ hy) (hlt y hy)⟩];exact m3
inductive Trc (k:Nat) (P:Pg):List Pt->Prop
 | nil:Trc k P []
 | snoc {L:List Pt} {x:Pt} (h:Trc k P L) (h1:x.1<P.length) (h2:x.2<(thr P x.1).length) (h3:x∉L) (h4 : ∀ j,j<x.2->must k (acA P x) (acA P (x.1,j))->(x.1,j)∈L):Trc k P (L++[x])
theorem b8m {P:Pg} (y:Pt) : ∀ (L:List Pt) (s:AS),(ex P s L).dn y.1 y.2=true↔y∈L\/s.dn y.1 y.2=true
 | [],s=>by simp [ex]
 | x::L,s=>by
   have e:ex P s (x::L)=ex P (doA 3 P s x.1 x.2) L:=rfl;rw [e,b8m y L,b5v];by_cases h:y=x <;> simp [h]
theorem a6o {P:Pg} (y:Pt) (L:List Pt):(ex P AS.init L).dn y.1 y.2=true↔y∈L:=by
 rw [b8m];simp [AS.init]
theorem b0k {k:Nat} (hk:k≠2) {P:Pg} {u:AS}:Stps k P AS.init u ↔ ∃ L,Trc k P L/\u=ex P AS.init L:=by
 constructor
 ·intro h
  induction h with
  | refl=>exact ⟨[],.nil,rfl⟩
  | tail h h' ih =>
    obtain ⟨L,hL,rfl⟩:=ih;cases h' with
    | out t ht hk2=>exact absurd hk2 hk
    | act t i ht hi hm =>
      refine ⟨L++[(t,i)],.snoc hL ht hi ?_ fun j hj hmu => ?_,?_⟩
      ·intro hx;have:=(a6o (P:=P) (t,i) L).2 hx;have h1:(ex P AS.init L).dn t i=false:=hm.1;simp only at this;rw [h1] at this;cases this
      ·exact (a6o (P:=P) (t,j) L).1 (hm.2.1 j hj hmu)
      rw [b5w,b6E hk];rfl
 rintro ⟨L,hL,rfl⟩
 induction hL with
 | nil=>exact .refl _
 | @snoc L x hL h1 h2 h3 h4 ih =>
   refine .tail ih ?_;rw [b5w];have:ex P (ex P AS.init L) [x]=doA k P (ex P AS.init L) x.1 x.2:=by rw [b6E hk];rfl
   rw [this];refine .act _ _ h1 h2 ⟨?_,fun j hj hmu => ?_,fun hk2=>absurd hk2 hk⟩
   ·show (ex P AS.init L).dn x.1 x.2=false;rw [Bool.eq_false_iff];exact fun h=>h3 ((a6o x L).1 h)
   exact (a6o (P:=P) (x.1,j) L).2 (h4 j hj hmu)
theorem Trc.pos {k:Nat} {P:Pg} {L:List Pt} (h:Trc k P L) : ∃ pos:Pt->Nat,L.Pairwise (fun x y=>pos x<pos y)/\(∀ y∈L,pos y<L.length) /\
  ∀ x∈L,∀ j,j<x.2->must k (acA P x) (acA P (x.1,j))->(x.1,j)∈L/\pos (x.1,j)<pos x:=by
 induction h with
 | nil=>exact ⟨fun _=>0,.nil,fun y hy=>(by cases hy),fun y hy=>(by cases hy)⟩
 | @snoc L x hL h1 h2 h3 h4 ih =>
   obtain ⟨pos,p1,p2,p3⟩:=ih;have hne : ∀ y∈L,y≠x:=fun y hy e=>h3 (e▸hy);have e : ∀ y∈L,(if y=x then L.length else pos y)=pos y:=fun y hy=>if_neg (hne y hy)
   refine ⟨fun y=>if y=x then L.length else pos y,?_,?_,?_⟩
   ·rw [List.pairwise_append];refine ⟨?_,by simp,fun y hy z hz => ?_⟩
    ·refine (List.Pairwise.imp_of_mem ?_ p1);intro a b ha hb hab;show (if a=x then L.length else pos a)<(if b=x then L.length else pos b)
     rw [e a ha,e b hb];exact hab
    rw [List.mem_singleton] at hz;subst hz;show (if y=z then L.length else pos y)<(if z=z then L.length else pos z)
    rw [e y hy,if_pos rfl];exact p2 y hy
   ·intro y hy;rw [List.length_append,List.length_singleton];rcases List.mem_append.1 hy with hy | hy
    ·simp only [e y hy];have:=p2 y hy;omega
    rw [List.mem_singleton] at hy;subst hy;simp
   intro y hy j hj hmu;rcases List.mem_append.1 hy with hy | hy
   ·obtain ⟨q1,q2⟩:=p3 y hy j hj hmu;simp only [e y hy,e _ q1];exact ⟨List.mem_append_left _ q1,q2⟩
   rw [List.mem_singleton] at hy;subst hy;have q1:=h4 j hj hmu;simp only [e _ q1,if_true];exact ⟨List.mem_append_left _ q1,p2 _ q1⟩
theorem Trc.dom {k:Nat} {P:Pg} {L:List Pt} (h:Trc k P L) : ∀ x∈L,x.1<P.length/\x.2<(thr P x.1).length:=by
 induction h with
 | nil=>exact fun y hy=>(by cases hy)
 | snoc hL h1 h2 h3 h4 ih =>
   intro y hy;rcases List.mem_append.1 hy with hy | hy
   ·exact ih y hy
   rw [List.mem_singleton] at hy;subst hy;exact ⟨h1,h2⟩
def Whole (P:Pg) (L:List Pt):Prop := ∀ t i,t<P.length->i<(thr P t).length->(t,i)∈L
theorem a6p {P:Pg} {L:List Pt}:b6e P (ex P AS.init L)↔Whole P L:=by
 constructor
 ·intro h t i ht hi;exact (a6o (P:=P) (t,i) L).1 ((h t ht).1 i hi)
 intro h t ht;exact ⟨fun i hi=>(a6o (P:=P) (t,i) L).2 (h t i ht hi),by rw [b8l];rfl⟩
theorem a7g {k:Nat} (hk:k≠2) {P:Pg} {o:List Int}:Can k P o ↔ ∃ L,Trc k P L/\Whole P L/\b3D P (ex P AS.init L)=o:=by
 constructor
 ·rintro ⟨s,h1,h2,h3⟩;obtain ⟨L,hL,rfl⟩:=(b0k hk).1 h1;exact ⟨L,hL,a6p.1 h2,h3⟩
 rintro ⟨L,h1,h2,h3⟩;exact ⟨_,(b0k hk).2 ⟨L,h1,rfl⟩,a6p.2 h2,h3⟩
theorem least {α:Type} (f:α->Nat) (p:α->Prop) (h : ∃ a,p a) : ∃ a,p a /\ ∀ b,p b->f a<=f b:=by
 have key : ∀ (n:Nat) (a:α),f a<n->p a -> ∃ a,p a /\ ∀ b,p b->f a<=f b:=by
  intro n
  induction n with
  | zero=>intro a h;omega
  | succ n ih =>
    intro a ha hp;by_cases hb : ∃ b,p b/\f b<f a
    ·obtain ⟨b,h1,h2⟩:=hb;exact ih b (by omega) h1
    exact ⟨a,hp,fun b hb'=>Nat.le_of_not_lt fun hlt=>hb ⟨b,hb',hlt⟩⟩
 obtain ⟨a,ha⟩:=h;exact key _ a (Nat.lt_succ_self _) ha
def cfl (P:Pg) (x y:Pt):Prop:=x.1≠y.1 /\ ¬ a5H (acA P x) (acA P y)
def inP (P:Pg) (x:Pt):Prop:=x.1<P.length/\x.2<(thr P x.1).length
def stn (P:Pg) (t a b:Nat):Prop:=inP P (t,a)/\inP P (t,b)/\(acA P (t,a)).1≠3/\(acA P (t,b)).1≠3/\(a=b\/(a<b/\(acA P (t,a)).2.1≠(acA P (t,b)).2.1))
def b3j (P:Pg) (t a b:Nat):Prop := ∃ c,a<c/\c<b/\(acA P (t,c)).1=3
structure NC (P:Pg):Prop where
 n2 : ∀ t a b u c d,stn P t a b->stn P u c d->cfl P (t,b) (u,c)->cfl P (u,d) (t,a)->(a<b->b3j P t a b)/\(c<d->b3j P u c d)
 n3 : ∀ t a b u c d v e f,t≠v->stn P t a b->stn P u c d->stn P v e f->cfl P (t,b) (u,c)->cfl P (u,d) (v,e)->cfl P (v,f) (t,a)->(a<b->b3j P t a b)/\(c<d->b3j P u c d)/\(e<f->b3j P v e f)
def a8z (P:Pg):Prop := ∀ x y,inP P x->inP P y->x.1≠y.1->a5H (acA P x) (acA P y)
def lexB (x y:Pt):Prop:=x.1<y.1\/(x.1=y.1/\x.2<y.2)
theorem b3k {L:List Pt} (h:L≠[]) : ∃ f∈L,∀ y∈L,y≠f->lexB f y:=by
 obtain ⟨x,hx⟩:=List.exists_mem_of_ne_nil L h;obtain ⟨t,⟨i,hi⟩,h2⟩:=least (fun t=>t) (fun t => ∃ i,(t,i)∈L) ⟨x.1,x.2,hx⟩;obtain ⟨f,hf,h4⟩:=least (fun i=>i) (fun i=>(t,i)∈L) ⟨i,hi⟩;refine ⟨(t,f),hf,fun y hy hne => ?_⟩;obtain ⟨u,j⟩:=y;have h5:t<=u:=h2 u ⟨j,hy⟩;unfold lexB;simp only;rcases Nat.lt_or_eq_of_le h5 with g | g
 ·exact .inl g
 subst g;have h6:f<=j:=h4 j hy;rcases Nat.lt_or_eq_of_le h6 with g | g
 ·exact .inr ⟨rfl,g⟩
 subst g;exact absurd rfl hne
theorem a8A {P:Pg} (hn:a8z P) {L:List Pt} (hL:Trc 3 P L) : ∃ L',L'.Perm L/\L'.Pairwise lexB/\ex P AS.init L'=ex P AS.init L:=by
 obtain ⟨pos,p1,_,p3⟩:=hL.pos;have hdom:=hL.dom;refine b6F (P:=P) pos lexB (fun x=>x∈L) ?_ L.length L rfl p1 (fun y hy=>hy) AS.init (fun _=>rfl);intro M hne hs hsub;obtain ⟨f,hf,h1⟩:=b3k hne;refine ⟨f,hf,h1,fun y hy hlt => ?_⟩;by_cases ht:y.1=f.1
 ·obtain ⟨u,j⟩:=y;obtain ⟨t,i⟩:=f;simp only at ht;subst ht;refine Classical.byContradiction fun hi => ?_;obtain ⟨n1,n2,n3,_⟩:=a8x hi;have hne2:(u,j)≠(u,i):=fun e=>by rw [e] at hlt;omega
  have hj:i<j:=by
   rcases h1 _ hy hne2 with g | ⟨_,g⟩
   ·simp at g
   exact g
  have:pos (u,i)<pos (u,j):=(p3 (u,j) (hsub _ hy) i hj (.inr (.inr (.inr n3)))).2;omega
 exact hn y f (hdom _ (hsub _ hy)) (hdom _ (hsub _ hf)) ht
theorem b4E : ∀ {L M:List Pt},L.Perm M->L.Pairwise lexB->M.Pairwise lexB->L=M:=by
 intro L M hp h1 h2;refine hp.eq_of_pairwise (fun a b _ _ hab hba => ?_) h1 h2;unfold lexB at hab hba;omega
theorem a7h {P:Pg} (hn:a8z P) {o o':List Int} (h:Can 3 P o) (h':Can 3 P o'):o=o':=by
 obtain ⟨L,hL,hw,ho⟩:=(a7g (by decide)).1 h;obtain ⟨M,hM,hw',ho'⟩:=(a7g (by decide)).1 h';obtain ⟨L1,a1,a2,a3⟩:=a8A hn hL;obtain ⟨M1,b1,b2,b3⟩:=a8A hn hM;have hnd : ∀ {K:List Pt},K.Pairwise lexB->K.Nodup:=fun hk=>hk.imp fun hab e=>by
  subst e;unfold lexB at hab;omega
 have hp:L1.Perm M1:=by
  refine (List.perm_ext_iff_of_nodup (hnd a2) (hnd b2)).2 fun x => ?_;constructor
  ·intro hx;have:=hL.dom x (a1.mem_iff.1 hx);exact b1.mem_iff.2 (hw' x.1 x.2 this.1 this.2)
  intro hx;have:=hM.dom x (b1.mem_iff.1 hx);exact a1.mem_iff.2 (hw x.1 x.2 this.1 this.2)
 have:=b4E hp a2 b2;subst this;rw [<-ho,<-ho',<-a3,b3]
def fenced (P:Pg):Prop := ∀ t i,i+1<(thr P t).length->(acA P (t,i)).1=3\/(acA P (t,i+1)).1=3
theorem a6q {P:Pg} (hf:fenced P) {o:List Int} (h:Can 3 P o):Can 1 P o:=by
 obtain ⟨L,hL,hw,ho⟩:=(a7g (by decide)).1 h;refine (a7g (by decide)).2 ⟨L,?_,hw,ho⟩;clear hw ho h;have key:Trc 1 P L /\ ∀ t c,(t,c)∈L->(acA P (t,c)).1=3 -> ∀ j,j<c->(t,j)∈L:=by
  induction hL with
  | nil=>exact ⟨.nil,fun t c hc=>by cases hc⟩
  | @snoc L x hL h1 h2 h3 h4 ih =>
    obtain ⟨ih1,ih2⟩:=ih;have hall : ∀ j,j<x.2->(x.1,j)∈L:=by
     intro j hj;obtain ⟨t,i⟩:=x;simp only at h1 h2 h4 hj ⊢;by_cases hxf:(acA P (t,i)).1=3
     ·exact h4 j hj (.inr (.inl hxf))
     obtain ⟨m,rfl⟩ : ∃ m,i=m+1:=⟨i-1,by omega⟩;have hm:(acA P (t,m)).1=3:=(hf t m h2).resolve_right hxf;have hin:=h4 m (by omega) (.inr (.inr (.inl hm)));rcases Nat.lt_or_eq_of_le (Nat.le_of_lt_succ hj) with g | g
     ·exact ih2 t m hin hm j g
     subst g;exact hin
    refine ⟨.snoc ih1 h1 h2 h3 fun j hj _=>hall j hj,fun t c hc hcf j hj => ?_⟩;rcases List.mem_append.1 hc with hc | hc
    ·exact List.mem_append_left _ (ih2 t c hc hcf j hj)
    rw [List.mem_singleton] at hc;subst hc;exact List.mem_append_left _ (hall j hj)
 exact key.1
structure SP (P:Pg) (s:Sta) (n:Nat->Nat):Prop where
 k:WfK 1 P s
 b : ∀ t,t<3 -> ∀ j,btI (s t) j=decide (j<n t)
 l : ∀ t,n t<=(thr P t).length
theorem SP.init (P:Pg):SP P s0 (fun _=>0):=⟨WfK.init 1 P,fun t ht j=>by unfold btI s0;simp,fun t=>Nat.zero_le _⟩
theorem b6G (P:Pg) (s:Sta) (t i:Nat) {u:Nat} (hu:u<3):doS P s t i u=dS s t i u:=by
 unfold doS;split
 ·rw [a0c _ _ _ (by omega)]
 split
 ·rw [a0c _ _ _ (by omega)]
 rfl
section
variable {P:Pg} (hv:VP P) {s:Sta} {n:Nat->Nat} (h:SP P s n)
include hv h
theorem SP.nxe {t:Nat} (ht:t<3):nx s t=n t:=by
 obtain ⟨h1,h2,_⟩:=a6T hv h.k.wf ht;have hb:=h.b t ht;rcases Nat.lt_trichotomy (nx s t) (n t) with g | g | g
 ·rw [hb,decide_eq_true g] at h2;cases h2
 ·exact g
 have:=h1 _ g;rw [hb,decide_eq_false (Nat.lt_irrefl _)] at this;cases this
theorem SP.step {t:Nat} (ht:t<P.length) (hi:n t<(thr P t).length):SP P (doS P s t (n t)) (fup n t (n t+1)):=by
 have ht3:=lt3 hv ht;have hb:btI (s t) (n t)=false:=by rw [h.b t ht3];simp
 have hw:=b5j hv h.k ht hi hb;have e:a3x 1 P s t (n t)=doS P s t (n t):=by unfold a3x;simp
 rw [e] at hw;refine ⟨hw,fun u hu j => ?_,fun u => ?_⟩
 ·rw [b6G P s t _ hu];unfold dS;by_cases hut:u=t
  ·subst hut;rw [a0g,a0g,a5w,h.b u hu];rw [Bool.eq_iff_iff];simp;omega
  rw [a0c _ _ _ hut,a0c _ _ _ hut];exact h.b u hu j
 by_cases hut:u=t
 ·subst hut;rw [a0g];omega
 rw [a0c _ _ _ hut];exact h.l u
theorem SP.over:a2w P s=true ↔ ∀ t,t<P.length->n t=(thr P t).length:=by
 unfold a2w;rw [List.all_eq_true];constructor
 ·intro hh t ht;have:=hh t (List.mem_range.2 ht);rw [zp4,decide_eq_true_eq] at this;obtain ⟨d0,d1⟩:=h.k.wf.d t (lt3 hv ht);have hl:=h.l t;rcases Nat.lt_or_eq_of_le hl with g | g
  ·have:=(a6S d0 d1).1 this.1 _ g;rw [h.b t (lt3 hv ht)] at this;simp at this
  exact g
 intro hh t ht;have ht:=List.mem_range.1 ht;obtain ⟨d0,d1⟩:=h.k.wf.d t (lt3 hv ht);rw [zp4,decide_eq_true_eq];refine ⟨(a6S d0 d1).2 fun i hi => ?_,?_⟩
 ·rw [h.b t (lt3 hv ht),hh t ht];simpa using hi
 rw [h.k.nb (by decide) t (lt3 hv ht)];rfl
end
def run (P:Pg):Sta->List Nat->Option Sta
 | s,[]=>some s
 | s,t::w=>if t<P.length/\nx s t<(thr P t).length then run P (doS P s t (nx s t)) w else none
def Gd (P:Pg) (s:Sta) (o:List Int) (w:List Nat):Prop := ∃ s',run P s w=some s'/\a2w P s'=true/\a3l P s'=o
theorem b3l {P:Pg} : ∀ {w w':List Nat} {s s':Sta},run P s w=some s'->run P s (w++w')=run P s' w'
 | [],_,s,s',h=>by cases h;rfl
 | t::w,w',s,s',h=>by
   unfold run at h;by_cases hc:t<P.length/\nx s t<(thr P t).length
   ·rw [if_pos hc] at h;rw [List.cons_append,run,if_pos hc];exact b3l h
   rw [if_neg hc] at h;cases h
theorem b3m {P:Pg} (hv:VP P) : ∀ {w:List Nat} {s s':Sta} {n:Nat->Nat},SP P s n->run P s w=some s'->(∃ n',SP P s' n')/\Stps 1 P (vw P s) (vw P s')
 | [],s,s',n,h,hr=>by cases hr;exact ⟨⟨n,h⟩,.refl _⟩
 | t::w,s,s',n,h,hr=>by
   unfold run at hr;by_cases hc:t<P.length/\nx s t<(thr P t).length
   ·rw [if_pos hc] at hr;have ht3:=lt3 hv hc.1;have e:=SP.nxe hv h ht3;have hs:=SP.step hv h hc.1 (e▸hc.2);rw [<-e] at hs;obtain ⟨h1,h2⟩:=b3m hv hs hr;refine ⟨h1,Stps.trans (Stps.one ?_) h2⟩;have hm:a7o 1 (thr P t) ((vw P s).t t) (nx s t):=(a4B hv h.k hc.1 (by decide) hc.2).2 ⟨rfl,fun hk=>by cases hk⟩;have ea:=b2J hv h.k hc.1 hc.2 (a5y (.inl rfl) hv h.k hc.1 hm);have e2:a3x 1 P s t (nx s t)=doS P s t (nx s t):=by unfold a3x;simp
    rw [e2] at ea;rw [ea];exact .act t _ hc.1 hc.2 hm
   rw [if_neg hc] at hr;cases hr
theorem b3n {P:Pg} (hv:VP P) {u:Sta} (h:Reach (scs 1 P) s0 u) : ∃ w,run P s0 w=some u:=by
 induction h with
 | init=>exact ⟨[],rfl⟩
 | @step s u hs hn ih =>
   obtain ⟨w,hw⟩:=ih;have hk:=(a1f (.inl rfl) hv hs).1;rcases (a2J (.inl rfl) hv hk).1 hn with ⟨t,i,ht,hi,hm,rfl⟩ | ⟨_,_,h2,_⟩
   ·refine ⟨w++[t],?_⟩;rw [b3l hw];have e:=((a4B hv hk ht (by decide) hi).1 hm).1;subst e;have e2:a3x 1 P s t (nx s t)=doS P s t (nx s t):=by unfold a3x;simp
    rw [run,if_pos ⟨ht,hi⟩,e2];rfl
   cases h2
theorem b8n {P:Pg} (hv:VP P) {o:List Int}:Can 1 P o ↔ ∃ w,Gd P s0 o w:=by
 constructor
 ·rintro ⟨a,h1,h2,rfl⟩;obtain ⟨u,hu,rfl⟩:=a4l (.inl rfl) hv h1;obtain ⟨w,hw⟩:=b3n hv hu;have hk:=(a1f (.inl rfl) hv hu).1;exact ⟨w,u,hw,(a3N hv hk.wf).2 h2,(a4m u).symm⟩
 rintro ⟨w,u,h1,h2,rfl⟩;obtain ⟨⟨n,hn⟩,h3⟩:=b3m hv (SP.init P) h1;rw [a9f] at h3;exact ⟨_,h3,(a3N hv hn.k.wf).1 h2,a4m u⟩
def und (P:Pg) (n:Nat->Nat):Nat:=((thr P 0).length-n 0)+((thr P 1).length-n 1)+((thr P 2).length-n 2)
theorem b0l {P:Pg} {n:Nat->Nat} {t:Nat} (ht:t<3) (hi:n t<(thr P t).length):und P (fup n t (n t+1))+1=und P n:=by
 unfold und;rcases (show t=0\/t=1\/t=2 by omega) with rfl | rfl | rfl
 ·rw [a0g,a0c _ _ _ (by decide),a0c _ _ _ (by decide)];omega
 ·rw [a0g,a0c _ _ _ (by decide),a0c _ _ _ (by decide)];omega
 rw [a0g,a0c _ _ _ (by decide),a0c _ _ _ (by decide)];omega
theorem a9r {P:Pg} (hv:VP P) : ∀ {w:List Nat} {s s':Sta} {n:Nat->Nat},SP P s n->run P s w=some s' -> ∃ n',SP P s' n'/\w.length+und P n'=und P n
 | [],s,s',n,h,hr=>by cases hr;exact ⟨n,h,by simp⟩
 | t::w,s,s',n,h,hr=>by
   unfold run at hr;by_cases hc:t<P.length/\nx s t<(thr P t).length
   ·rw [if_pos hc] at hr;have ht3:=lt3 hv hc.1;have e:=SP.nxe hv h ht3;have hs:=SP.step hv h hc.1 (e▸hc.2);have hu:=b0l ht3 (e▸hc.2);rw [<-e] at hs hu;obtain ⟨n',h1,h2⟩:=a9r hv hs hr;refine ⟨n',h1,?_⟩;simp only [List.length_cons];omega
   rw [if_neg hc] at hr;cases hr
theorem a7i {P:Pg} (hv:VP P) {s:Sta} {n:Nat->Nat} (h:SP P s n):a2w P s=true↔und P n=0:=by
 rw [SP.over hv h];have h0:=h.l 0;have h1:=h.l 1;have h2:=h.l 2;unfold und;constructor
 ·intro hh;have key : ∀ t,(thr P t).length-n t=0:=fun t=>by
   by_cases ht:t<P.length
   ·rw [hh t ht];omega
   rw [a1H (by omega)];simp
  rw [key 0,key 1,key 2]
 intro hh t ht;rcases (show t=0\/t=1\/t=2 by have:=lt3 hv ht;omega) with rfl | rfl | rfl <;> omega
theorem b0m {P:Pg} (hv:VP P) {s:Sta} {n:Nat->Nat} (h:SP P s n) {o:List Int} {w:List Nat} (hg:Gd P s o w):w.length=und P n:=by
 obtain ⟨s',h1,h2,_⟩:=hg;obtain ⟨n',g1,g2⟩:=a9r hv h h1;have:=(a7i hv g1).1 h2;omega
abbrev iW (w:List Nat):List Int:=w.map fun t:Nat=>(t:Int)
theorem b4F {P:Pg} (hv:VP P) {W:List Nat} (hW:W.length<=1000) : ∀ (k i:Nat) {s s':Sta} {n:Nat->Nat},i+k=W.length->SP P s n->run P s (W.drop i)=some s' ->
  iter (a4E Ar.std (eP P) (a0n (iW W))) ((i:Int),eS s)=some (.inl (eS s')):=by
 intro k
 induction k with
 | zero =>
   intro i s s' n hi h hr;rw [List.drop_eq_nil_of_le (by omega)] at hr;cases hr;refine a0w ?_;unfold a4E;exact cnF (by simp;omega) rfl
 | succ k ih =>
   intro i s s' n hi h hr;have hil:i<W.length:=by omega
   rw [List.drop_eq_getElem_cons hil] at hr;have hget:(iW W)[i]?=some ((W[i]:Nat):Int):=by rw [List.getElem?_map,zp1 hil];rfl
   generalize W[i]=t at hr hget;rw [run] at hr;by_cases hc:t<P.length/\nx s t<(thr P t).length
   ·rw [if_pos hc] at hr;have ht3:=lt3 hv hc.1;have e:=SP.nxe hv h ht3;have hs:=SP.step hv h hc.1 (e▸hc.2);rw [<-e] at hs;have hst:a4E Ar.std (eP P) (a0n (iW W)) ((i:Int),eS s)=some (.inl (((i+1:Nat):Int),eS (doS P s t (nx s t)))):=by
     unfold a4E;dsimp only;have hn3:=hv.n3;have e1:Ar.std.wrp .i64 (Ar.std.zsub (Ar.std.len (eP P)) 1)=((P.length-1:Nat):Int):=by
      have el:Ar.std.len (eP P)=(P.length:Int):=by simp
      simp only [el,a0h,a0P];rw [a2P _ (by omega) (by omega)];omega
     have eb:btw 0 (t:Int) ((P.length-1:Nat):Int)=true:=by
      unfold btw;simp;omega
     refine cnT (by simp;omega) (bt (a0I hget) (bt (v:=false) ?_ (cnF rfl ?_)))
     ·rw [e1];refine bt (a5u _ _ _) ?_;rw [eb];refine cnT rfl (bt (gaS s (by simp)) (bt (a3s hv h.k.wf ht3) (bt (a2d (a0J hc.1)) ?_)));simp;omega
     refine bt (gaS s (by simp)) (bt (a3s hv h.k.wf ht3) (bt (a4z hv h.k.wf hc.1 hc.2) (bck (by rw [a3M];rfl) (bck (by rw [a3M];rfl) ?_))));rw [b0V _ _ (a2u s) (by simp)];simp only [a0h,a0k];rw [a2P _ (by omega) (by omega)];rfl
    rw [a0O hst];exact ih (i+1) (by omega) hs hr
   rw [if_neg hc] at hr;cases hr
theorem b8o {P:Pg} (hv:VP P) {W:List Nat} {o:List Int} (h:Gd P s0 o W):M33 Ar.std (eP P) (a0n (iW W))=some (a0n o,0):=by
 have hl:=b0m hv (SP.init P) h;have hP:=VP.short hv;obtain ⟨s',h1,h2,rfl⟩:=h;obtain ⟨⟨n,hn⟩,_⟩:=b3m hv (SP.init P) h1;have hW:W.length<=1000:=by
  rw [hl];unfold und;have:=hv.l7 0;have:=hv.l7 1;have:=hv.l7 2;omega
 have e:=a5v hP;rw [VP.to hv] at e;unfold M33;refine bt e (cnT rfl (bt (b4F hv hW W.length 0 (by omega) (SP.init P) h1) ?_));rw [Sum.elim_inl];refine bt (gaS s' (by simp)) (bt (a6k hv hn.k.wf) ?_);rw [h2];exact cnT rfl (bt (b0a hv hn.k.wf) rfl)
def eMB (L:List Sta):List (D×D):=L.map fun s=>(.agg (eS s),.bool true)
theorem c0d {n:Sta} (hn : ∀ i,41<=i->n i=0) : ∀ {L:List Sta},ZL L->lk Ar.std cB (eMB L) (.agg (eS n))=some (if n∈L then some true else none):=by
 have key : ∀ {L:List Sta},ZL L->Am.mget (eMB L) (.agg (eS n))=if n∈L then some (.bool true) else none:=by
  intro L
  induction L with
  | nil=>intro _;simp [eMB,Am.mget]
  | cons s L ih =>
    intro hL;have ih:=ih (fun u hu=>hL u (by simp [hu]));unfold eMB at ih ⊢;simp only [List.map_cons,Am.mget];by_cases h:s=n
    ·subst h;simp
    have : ¬ (D.agg (eS s)=D.agg (eS n)):=fun e=>h (a9U (by injection e) (hL s (by simp)) hn);rw [if_neg this,ih];by_cases hm:n∈L
    ·rw [if_pos hm,if_pos (by simp [hm])]
    rw [if_neg hm,if_neg (by simp [hm];exact fun e=>h e.symm)]
 intro L hL;unfold lk;have e:Ar.std.mget (eMB L) (.agg (eS n))=Am.mget (eMB L) (.agg (eS n)):=rfl;rw [e,key hL];by_cases hm:n∈L
 ·rw [if_pos hm,if_pos hm];rfl
 rw [if_neg hm,if_neg hm];rfl
theorem b8p {n:Sta} (hn : ∀ i,41<=i->n i=0) : ∀ {L:List Sta},ZL L -> ∃ L',Ar.std.mput (eMB L) (.agg (eS n)) (.bool true)=eMB L' /\ ∀ u∈L',u∈L\/u=n
 | [],_=>⟨[n],rfl,fun u hu => .inr (List.mem_singleton.1 hu)⟩
 | s::L,hL=>by
   obtain ⟨L',h1,h2⟩:=b8p hn (L:=L) (fun u hu=>hL u (by simp [hu]));by_cases h:s=n
   ·subst h;refine ⟨s::L,?_,fun u hu => .inl hu⟩;show Am.mput _ _ _=_;unfold eMB;simp [Am.mput]
   refine ⟨s::L',?_,fun u hu => ?_⟩
   ·have : ¬ (D.agg (eS s)=D.agg (eS n)):=fun e=>h (a9U (by injection e) (hL s (by simp)) hn);have h1':Am.mput (eMB L) (.agg (eS n)) (.bool true)=eMB L':=h1;show Am.mput _ _ _=_;unfold eMB at h1' ⊢;simp only [List.map_cons,Am.mput];rw [if_neg this,h1']
   rcases List.mem_cons.1 hu with rfl | hu
   ·exact .inl (by simp)
   exact (h2 u hu).imp (fun h=>by simp [h]) id
def Bad (P:Pg) (o:List Int) (L:List Sta):Prop:=ZL L /\ ∀ u∈L,∀ w,¬ Gd P u o w
def First (P:Pg) (s:Sta) (o:List Int) (w:List Nat):Prop:=Gd P s o w /\ ∀ w',Gd P s o w'->a8n (iW w) (iW w')<=0
def c0A (P:Pg) (o:List Int) (s:Sta) (r:Option (List D×Bool×List (D×D))):Prop :=
 (∃ w m,r=some (a0n (iW w),true,m)/\First P s o w)\/(∃ L,Bad P o L/\r=some ([],false,eMB L) /\ ∀ w,¬ Gd P s o w)
theorem a9s {P:Pg} {s:Sta} {o:List Int} {t:Nat} {w:List Nat}:Gd P s o (t::w)↔(t<P.length/\nx s t<(thr P t).length)/\Gd P (doS P s t (nx s t)) o w:=by
 unfold Gd;rw [run];by_cases hc:t<P.length/\nx s t<(thr P t).length
 ·rw [if_pos hc];exact ⟨fun h=>⟨hc,h⟩,fun h=>h.2⟩
 rw [if_neg hc];constructor
 ·rintro ⟨_,h,_⟩;cases h
 rintro ⟨h,_⟩;exact absurd h hc
theorem b6H {P:Pg} (hv:VP P) {o:List Int} (ho:GH o) : ∀ (f:Nat) {s:Sta} {n:Nat->Nat},SP P s n->und P n<f->f<=1000000 -> ∀ {L:List Sta},Bad P o L->c0A P o s (b6S Ar.std f (eP P) (a0n o) (eS s) (eMB L)):=by
 intro f
 induction f with
 | zero=>intro s n _ hf;omega
 | succ f ih =>
   intro s n h hf hfm L hL;have hwf:=h.k.wf;unfold b6S b8J;have ga1:ga Ar.std (eS s) (Ar.std.zadd 0 (Int.ofNat 0)) (Int.ofNat 41)=some (eS s):=gaS s (by simp);have c41:Ar.std.zeq (Ar.std.len (eS s)) (Int.ofNat 41)=true:=by rw [a3M];rfl
   cases hov:a2w P s with
   | true =>
     have hu:=(a7i hv h).1 hov;have only : ∀ w,Gd P s o w->w=[]:=fun w hg=>by
      have:=b0m hv h hg;exact List.length_eq_zero_iff.1 (by omega)
     have e:=a6k hv hwf;rw [hov] at e;have hlen:(a3l P s).length<4294967296:=by
      have:=a4C hv hwf;unfold a3l;simp;omega
     have val : ∀ (r:Option (List D×Bool×List (D×D))),some (([]:List D),decide (a3l P s=o),eMB L)=r->c0A P o s r:=by
      rintro r rfl;by_cases heq:a3l P s=o
      ·refine .inl ⟨[],eMB L,by rw [decide_eq_true heq];rfl,⟨s,rfl,hov,heq⟩,fun w' hg => ?_⟩;rw [only w' hg];decide
      refine .inr ⟨L,hL,by rw [decide_eq_false heq],fun w hg => ?_⟩;have:=only w hg;subst this;obtain ⟨s',h1,h2,h3⟩:=hg;cases h1;exact heq h3
     refine val _ (Eq.symm ?_);exact bck c41 (bt ga1 (bt e (cnT rfl (bt (b0a hv hwf) (bt (a9k hlen ho) rfl)))))
   | false =>
     have e:=a6k hv hwf;rw [hov] at e;have nov : ∀ w,Gd P s o w->w≠[]:=fun w hg hw=>by
      subst hw;obtain ⟨s',h1,h2,h3⟩:=hg;cases h1;rw [hov] at h2;cases h2
     by_cases hin:s∈L
     ·refine .inr ⟨L,hL,?_,hL.2 s hin⟩;refine bck c41 (bt ga1 (bt e (cnF rfl (bt (v:=true) (bck (a6Y s) (bt (c0d hwf.z hL.1) ?_)) (cnT rfl rfl)))));rw [if_pos hin];rfl
     have key:=a2c (step:=a8J Ar.std (eP P) (a0n o) (eS s) (b6S Ar.std f)) P.length (fun (L:List Sta) i=>((i:Int),eMB L))
      (fun i L=>Bad P o L /\ ∀ t,t<i->nx s t<(thr P t).length -> ∀ w,¬ Gd P (doS P s t (nx s t)) o w) (fun i x => ∃ w m,x = .inr (a0n (iW w),m)/\First P s o w) (fun L => .inl (eMB L))
      (fun t L ht hR=>by
       obtain ⟨hB,hno⟩:=hR;have ht3:=lt3 hv ht;have hn3:=hv.n3;have en:=SP.nxe hv h ht3;have ew:Ar.std.wrp .i64 (Ar.std.zadd (t:Int) 1)=((t+1:Nat):Int):=by simp only [a0h,a0k];exact a1D (n:=10) (by omega) (by omega)
       by_cases hc:nx s t<(thr P t).length
       ·have hs:=SP.step hv h ht (en▸hc);have hu:=b0l ht3 (en▸hc);rw [<-en] at hs hu;rcases ih hs (by omega) (by omega) hB with ⟨w,m,e1,hg,hf1⟩ | ⟨L',hB',e1,hng⟩
        ·have hwl:=b0m hv hs hg;refine .inr ⟨_,⟨t::w,m,rfl,a9s.2 ⟨⟨ht,hc⟩,hg⟩,fun w' hg' => ?_⟩,?_⟩
         ·cases w' with
          | nil=>exact absurd rfl (nov _ hg')
          | cons t' w' =>
            obtain ⟨hc',hg2⟩:=a9s.1 hg';show a8n ((t:Int)::iW w) ((t':Int)::iW w')<=0;rw [a8n];rcases Nat.lt_trichotomy t' t with g | g | g
            ·exact absurd hg2 (hno t' g hc'.2 w')
            ·subst g;rw [if_pos rfl];exact hf1 w' hg2
            rw [if_neg (by omega)];omega
         unfold a8J;refine cnT (by simp;omega) (bt (a3s hv hwf ht3) (bt (a2d (a0J ht)) ?_));unfold jn;refine cnT (by simp;exact hc) (bt (a4z hv hwf ht hc) (bt e1 (cnT rfl ?_)));have ea:ap Ar.std [D.int .i64 (t:Int)] (a0n (iW w))=some (a0n (iW (t::w))):=by
          rw [a5q (by simp;omega)];rfl
         exact bt ea rfl
        refine .inl ⟨L',⟨hB',fun t' ht' hc' => ?_⟩,?_⟩
        ·rcases Nat.lt_or_eq_of_le (Nat.le_of_lt_succ ht') with g | g
         ·exact hno t' g hc'
         subst g;exact hng
        unfold a8J;refine cnT (by simp;omega) (bt (a3s hv hwf ht3) (bt (a2d (a0J ht)) ?_));unfold jn;refine cnT (by simp;exact hc) (bt (a4z hv hwf ht hc) (bt e1 (cnF rfl ?_)));rw [ew]
       refine .inl ⟨L,⟨hB,fun t' ht' hc' => ?_⟩,?_⟩
       ·rcases Nat.lt_or_eq_of_le (Nat.le_of_lt_succ ht') with g | g
        ·exact hno t' g hc'
        subst g;exact absurd hc' hc
       unfold a8J;refine cnT (by simp;omega) (bt (a3s hv hwf ht3) (bt (a2d (a0J ht)) ?_));unfold jn;refine cnF (by simp;omega) ?_;rw [ew])
      (fun L _=>by
       unfold a8J;exact cnF (by simp) rfl) L ⟨hL,fun t ht=>by omega⟩
     rcases key with ⟨L',⟨hB',hno⟩,hit⟩ | ⟨i,x,_,⟨w,m,rfl,hF⟩,hit⟩
     ·have hng : ∀ w,¬ Gd P s o w:=fun w hg=>by
       cases w with
       | nil=>exact nov _ hg rfl
       | cons t w =>
         obtain ⟨hc,hg2⟩:=a9s.1 hg;exact hno t hc.1 hc.2 w hg2
      obtain ⟨L2,hp,hm⟩:=b8p hwf.z hB'.1;refine .inr ⟨L2,⟨fun u hu => ?_,fun u hu => ?_⟩,?_,hng⟩
      ·rcases hm u hu with g | g
       ·exact hB'.1 u g
       subst g;exact hwf.z
      ·rcases hm u hu with g | g
       ·exact hB'.2 u g
       subst g;exact hng
      refine bck c41 (bt ga1 (bt e (cnF rfl (bt (v:=false) (bck (a6Y s) (bt (c0d hwf.z hL.1) ?_)) (cnF rfl (bt hit ?_))))))
      ·rw [if_neg hin];rfl
      rw [Sum.elim_inl];refine bck (a6Y s) ?_;rw [hp]
     refine .inl ⟨w,m,?_,hF⟩;refine bck c41 (bt ga1 (bt e (cnF rfl (bt (v:=false) (bck (a6Y s) (bt (c0d hwf.z hL.1) ?_)) (cnF rfl (bt hit rfl))))));rw [if_neg hin];rfl
theorem b8q {P:Pg} (hv:VP P) {o:List Int} (ho:GH o) (hc:Can 1 P o) : ∃ w,First P s0 o w/\M28 Ar.std (eP P) (a0n o)=some (a0n (iW w),0):=by
 have e:=a5v (VP.short hv);rw [VP.to hv] at e;have hu:und P (fun _=>0)<fuel:=by
  have:=hv.l7 0;have:=hv.l7 1;have:=hv.l7 2;unfold und fuel;omega
 have hf:fuel<=1000000:=by unfold fuel;omega
 obtain ⟨w0,hw0⟩:=(b8n hv).1 hc;rcases b6H hv ho fuel (SP.init P) hu hf (L:=[]) ⟨fun u hu=>(by cases hu),fun u hu=>(by cases hu)⟩ with ⟨w,m,e1,hF⟩ | ⟨L,_,_,hng⟩
 ·refine ⟨w,hF,?_⟩;unfold M28;refine bt e (cnT rfl (bt (v:=(a0n (iW w),true,m)) ?_ (cnT rfl rfl)));unfold M70;exact e1
 exact absurd hw0 (hng w0)
def eF (f:Nat->Nat) (m:Nat):List D:=enc (cI .i64) ((List.range m).map fun i=>(f i:Int))
theorem a8B (f:Nat->Nat) {m i:Nat} (h:i<m):(eF f m)[i]?=some (.int .i64 (f i:Int)):=by
 unfold eF enc;rw [List.getElem?_map,List.getElem?_map,List.getElem?_range h];rfl
theorem c0e (f:Nat->Nat) {m i:Nat} (h:i<m) (v:Nat) {z:Int} (hz:z=v):Ar.std.lset (eF f m) (Ar.std.nat (Ar.std.zadd 0 (i:Int))) (.int .i64 z)=eF (fup f i v) m:=by
 subst hz;have e:Ar.std.nat (Ar.std.zadd 0 (i:Int))=i:=b6g (by simp);rw [e];show (eF f m).set i _=_;apply List.ext_getElem?;intro j;by_cases hj:j<m
 ·by_cases hij:i=j
  ·subst hij;rw [List.getElem?_set_self (by simp [eF];exact h),a8B _ h,a0g]
  rw [List.getElem?_set_ne hij,a8B _ hj,a8B _ hj,a0c _ _ _ (fun h=>hij h.symm)]
 rw [List.getElem?_eq_none (by simp [eF];omega),List.getElem?_eq_none (by simp [eF];omega)]
theorem b6I (m:Nat):Ar.std.rep (m:Int) (.int .i64 0)=eF (fun _=>0) m:=by
 show List.replicate ((m:Int)).toNat _=_;apply List.ext_getElem?;intro j;rw [Int.toNat_natCast];by_cases hj:j<m
 ·rw [a8B _ hj,List.getElem?_replicate,if_pos hj];rfl
 rw [List.getElem?_eq_none (by simp;omega),List.getElem?_eq_none (by simp [eF];omega)]
def lens (P:Pg) (t:Nat):Nat:=(thr P t).length
def ren (m t:Nat):Nat:=if t<m then m-1-t else t
section
variable (a b:Int)
end
theorem b8r {l:List Ac} (h:l.length<=1000000):M83 Ar.std (eT l)=some (eT l):=by
 have e:ap Ar.std [] (eT l)=some (eT l):=b2v (by omega);unfold M83;by_cases h0:0<l.length
 ·exact cnT (by simp;omega) (bt e rfl)
 obtain rfl:l=[]:=List.length_eq_zero_iff.1 (by omega);refine cnF (by simp) ?_;rw [show ap Ar.std [] (eT [])=some [] from e];simp [both]
theorem c0f (l:List Ac) {i:Nat} (h:i<l.length) (x:Ac) {z:Nat} (hz:z=i):Ar.std.lset (eT l) z (.agg [.int .i64 x.1,.int .i64 x.2.1,.int .i64 x.2.2])=eT (l.set i x):=by
 subst hz;show (eT l).set z _=_;unfold eT enc;rw [List.map_set];rfl
theorem gcT {l:List Ac} {i:Nat} {x:Ac} (h:l[i]?=some x) {z:Nat} (hz:z=i):gc Ar.std cA3 (eT l) z=some x:=by
 subst hz;have h2:(eT l)[z]?=some (cA3.en x):=by
  unfold eT enc;rw [List.getElem?_map,h];rfl
 unfold gc;have:Ar.std.lget (eT l) z=some (cA3.en x):=h2;rw [this];rfl
theorem c0g (l:List Ac):scalars (eT l)=true:=by
 unfold scalars eT enc;rw [List.all_eq_true];intro x hx;obtain ⟨y,_,rfl⟩:=List.mem_map.1 hx
 rfl
theorem b3o {P:Pg} (hv:VP P) {z:Int} (hk:a1s z=true) : ∃ O,IsO z.toNat P O/\M19 Ar.std (eP P) z=some (a0V O,0):=by
 rcases b5r (VP.short hv) z with ⟨h1,_⟩ | ⟨_,h1,_⟩ | ⟨_,_,h⟩
 ·rw [VP.to hv] at h1;cases h1
 ·rw [hk] at h1;cases h1
 exact h
def eMp (l:List (Int×Int)):List (D×D):=l.map fun p=>(.int .i64 p.1,.int .u64 p.2)
def gI:List (Int×Int)->Int->Option Int
 | [],_=>none
 | p::l,k=>if p.1=k then some p.2 else gI l k
def pI:List (Int×Int)->Int->Int->List (Int×Int)
 | [],k,m=>[(k,m)]
 | p::l,k,m=>if p.1=k then (k,m)::l else p::pI l k m
theorem lkM (l:List (Int×Int)) (k:Int):lk Ar.std (cI .u64) (eMp l) (.int .i64 k)=some (gI l k):=by
 have e:Ar.std.mget (eMp l) (.int .i64 k)=(gI l k).map (.int .u64):=by
  show Am.mget _ _=_
  induction l with
  | nil=>rfl
  | cons p l ih =>
    unfold eMp at ih ⊢;simp only [List.map_cons,Am.mget,gI];by_cases h:p.1=k
    ·subst h;simp
    have : ¬ (D.int .i64 p.1=D.int .i64 k):=fun e=>h (by injection e);rw [if_neg this,if_neg h,ih]
 unfold lk;rw [e];cases gI l k <;> rfl
theorem b8s (l:List (Int×Int)) (k m:Int):Ar.std.mput (eMp l) (.int .i64 k) (.int .u64 m)=eMp (pI l k m):=by
 show Am.mput _ _ _=_
 induction l with
 | nil=>rfl
 | cons p l ih =>
   unfold eMp at ih ⊢;simp only [List.map_cons,Am.mput,pI];by_cases h:p.1=k
   ·subst h;simp
   have : ¬ (D.int .i64 p.1=D.int .i64 k):=fun e=>h (by injection e);rw [if_neg this,if_neg h,ih];rfl
theorem b8t (l:List (Int×Int)) (k m v:Int):gI (pI l k m) v=if k=v then some m else gI l v:=by
 induction l with
 | nil=>rfl
 | cons p l ih =>
   simp only [pI];by_cases h:p.1=k
   ·rw [if_pos h];simp only [gI];by_cases hv:k=v
    ·rw [if_pos hv,if_pos hv]
    rw [if_neg hv,if_neg hv,if_neg (by rw [h];exact hv)]
   rw [if_neg h];simp only [gI,ih];by_cases hv:p.1=v
   ·rw [if_pos hv,if_neg (fun e=>h (hv.trans e.symm)),if_pos hv]
   rw [if_neg hv,if_neg hv]
theorem b6J (l:List (Int×Int)) (k m:Int):(pI l k m).map (·.1)=if k∈l.map (·.1) then l.map (·.1) else l.map (·.1)++[k]:=by
 induction l with
 | nil=>rfl
 | cons p l ih =>
   simp only [pI];by_cases h:p.1=k
   ·rw [if_pos h];simp [h]
   rw [if_neg h];simp only [List.map_cons,ih];by_cases hk:k∈l.map (·.1)
   ·rw [if_pos hk,if_pos (List.mem_cons_of_mem _ hk)]
   rw [if_neg hk,if_neg (by rw [List.mem_cons];rintro (e | e);exact h e.symm;exact hk e)];rfl
theorem b3p {l:List (Int×Int)} {v:Int}:v∈l.map (·.1) ↔ ∃ m,gI l v=some m:=by
 induction l with
 | nil=>simp [gI]
 | cons p l ih =>
   simp only [List.map_cons,List.mem_cons,gI];by_cases h:p.1=v
   ·rw [if_pos h];simp [h]
   rw [if_neg h,<-ih];constructor
   ·rintro (e | e)
    ·exact absurd e.symm h
    exact e
   exact .inr
theorem orF : ∀ (a:Fin 8) (t:Fin 3),a2n .or .u64 (a.val:Int) (IntKind.u64.wrap (1*2 ^ (min t.val IntKind.u64.bits)))=((a.val ||| 2 ^ t.val:Nat):Int):=by decide +kernel
theorem or8 : ∀ (a:Fin 8) (t:Fin 3),(a.val ||| 2 ^ t.val)<8:=by decide +kernel
theorem b8u : ∀ a:Fin 8,decide (a2n .and .u64 (a.val:Int) (IntKind.u64.wrap ((a.val:Int)-1))=0)=decide (∀ t u:Fin 3,a.val.testBit t.val=true->a.val.testBit u.val=true->t=u):=by decide +kernel
theorem orM {a:Nat} (ha:a<8) {t:Nat} (ht:t<3):Ar.std.bits .or .u64 (a:Int) (Ar.std.shl .u64 1 (t:Int))=((a ||| 2 ^ t:Nat):Int):=orF ⟨a,ha⟩ ⟨t,ht⟩
theorem b5x {a:Nat} (ha:a<8):M92 Ar.std (a:Int)=some (decide (∀ t u:Fin 3,a.testBit t.val=true->a.testBit u.val=true->t=u)):=by
 unfold M92;have:=b8u ⟨a,ha⟩;exact congrArg some this
structure Cov (P:Pg) (Pr:Nat->Nat->Prop) (q:Ac->Prop) (l:List (Int×Int)):Prop where
 nd:(l.map (·.1)).Nodup
 no : ∀ v,gI l v=none -> ∀ t i,Pr t i->q (acA P (t,i))->(acA P (t,i)).2.1≠v
 ye : ∀ v m,gI l v=some m->0<=v/\v<=2/\(∃ t i,Pr t i/\q (acA P (t,i))/\(acA P (t,i)).2.1=v) /\ ∃ a:Nat,m=a/\a<8 /\ ∀ t,t<3->(a.testBit t=true ↔ ∃ i,Pr t i/\q (acA P (t,i))/\(acA P (t,i)).2.1=v)
theorem Cov.nil (P:Pg) (q:Ac->Prop) {Pr:Nat->Nat->Prop} (h : ∀ t i,¬ Pr t i):Cov P Pr q [] :=
 ⟨.nil,fun v _ t i hp=>absurd hp (h t i),fun v m h=>by cases h⟩
theorem Cov.same {P:Pg} {Pr Pr':Nat->Nat->Prop} {q:Ac->Prop} {l:List (Int×Int)} (h:Cov P Pr q l) (hp : ∀ t i,Pr' t i/\q (acA P (t,i))↔Pr t i/\q (acA P (t,i))):Cov P Pr' q l:=by
 refine ⟨h.nd,fun v hv t i hpr hq=>h.no v hv t i ((hp t i).1 ⟨hpr,hq⟩).1 hq,fun v m hm => ?_⟩;obtain ⟨h1,h2,⟨t,i,h3,h4,h5⟩,a,h6,h7,h8⟩:=h.ye v m hm;refine ⟨h1,h2,⟨t,i,((hp t i).2 ⟨h3,h4⟩).1,h4,h5⟩,a,h6,h7,fun u hu=>(h8 u hu).trans ?_⟩;constructor
 ·rintro ⟨j,g1,g2,g3⟩;exact ⟨j,((hp u j).2 ⟨g1,g2⟩).1,g2,g3⟩
 rintro ⟨j,g1,g2,g3⟩;exact ⟨j,((hp u j).1 ⟨g1,g2⟩).1,g2,g3⟩
theorem Cov.put {P:Pg} {Pr Pr':Nat->Nat->Prop} {q:Ac->Prop} {l:List (Int×Int)} (h:Cov P Pr q l) {t i:Nat} (ht:t<3) (hq:q (acA P (t,i))) {c:Int} (hc:(acA P (t,i)).2.1=c) (c0:0<=c) (c2:c<=2)
  (hp : ∀ u j,Pr' u j↔Pr u j\/(u=t/\j=i)) : ∃ a:Nat,a<8/\(gI l c=none/\a=0\/gI l c=some (a:Int))/\Cov P Pr' q (pI l c ((a ||| 2 ^ t:Nat):Int)):=by
 have hor : ∀ {a u:Nat},(a ||| 2 ^ t).testBit u=true↔a.testBit u=true\/u=t:=fun {a u}=>by
  rw [Nat.testBit_or,Nat.testBit_two_pow,Bool.or_eq_true,decide_eq_true_eq];constructor
  ·rintro (h | h);exact .inl h;exact .inr h.symm
  rintro (h | h);exact .inl h;exact .inr h.symm
 have key : ∀ a:Nat,a<8->(∀ u,u<3->(a.testBit u=true ↔ ∃ j,Pr u j/\q (acA P (u,j))/\(acA P (u,j)).2.1=c))->Cov P Pr' q (pI l c ((a ||| 2 ^ t:Nat):Int)):=by
  intro a ha hb;refine ⟨?_,fun v hv u j hpr hqu => ?_,fun v m hm => ?_⟩
  ·rw [b6J];split
   ·exact h.nd
   rename_i hn;rw [List.nodup_append];exact ⟨h.nd,by simp,fun x hx y hy=>by simp at hy;subst hy;exact fun e=>hn (e▸hx)⟩
  ·rw [b8t] at hv;split at hv
   ·cases hv
   rename_i hne;rcases (hp u j).1 hpr with hpr | ⟨rfl,rfl⟩
   ·exact h.no v hv u j hpr hqu
   rw [hc];exact hne
  rw [b8t] at hm;split at hm
  ·rename_i hcv;subst hcv;cases hm;refine ⟨c0,c2,⟨t,i,(hp t i).2 (.inr ⟨rfl,rfl⟩),hq,hc⟩,_,rfl,or8 ⟨a,ha⟩ ⟨t,ht⟩,fun u hu => ?_⟩;rw [hor,hb u hu];constructor
   ·rintro (⟨j,g1,g2,g3⟩ | rfl)
    ·exact ⟨j,(hp u j).2 (.inl g1),g2,g3⟩
    exact ⟨i,(hp u i).2 (.inr ⟨rfl,rfl⟩),hq,hc⟩
   rintro ⟨j,g1,g2,g3⟩;rcases (hp u j).1 g1 with g1 | ⟨g1,_⟩
   ·exact .inl ⟨j,g1,g2,g3⟩
   exact .inr g1
  rename_i hne;obtain ⟨h1,h2,⟨t',i',h3,h4,h5⟩,b,h6,h7,h8⟩:=h.ye v m hm;refine ⟨h1,h2,⟨t',i',(hp t' i').2 (.inl h3),h4,h5⟩,b,h6,h7,fun u hu=>(h8 u hu).trans ?_⟩;constructor
  ·rintro ⟨j,g1,g2,g3⟩;exact ⟨j,(hp u j).2 (.inl g1),g2,g3⟩
  rintro ⟨j,g1,g2,g3⟩;rcases (hp u j).1 g1 with g1 | ⟨rfl,rfl⟩
  ·exact ⟨j,g1,g2,g3⟩
  exact absurd (hc.symm.trans g3) hne
 cases hg:gI l c with
 | none =>
   refine ⟨0,by omega,.inl ⟨rfl,rfl⟩,key 0 (by omega) fun u hu => ?_⟩;constructor
   ·intro h;simp at h
   rintro ⟨j,g1,g2,g3⟩;exact absurd g3 (h.no c hg u j g1 g2)
 | some m =>
   obtain ⟨_,_,_,a,rfl,h7,h8⟩:=h.ye c m hg;exact ⟨a,h7,.inr rfl,key a h7 h8⟩
def qW (a:Ac):Prop:=a.1≠3
def qS (a:Ac):Prop:=a.1=2
def a4J (t i:Nat):Nat->Nat->Prop:=fun u j=>u<t\/(u=t/\j<i)
theorem b3q {t i u j:Nat}:a4J t (i+1) u j↔a4J t i u j\/(u=t/\j=i):=by unfold a4J;omega
theorem b4G {P:Pg} (hv:VP P) {t:Nat} (ht:t<P.length) {U S:List (Int×Int)} (hU:Cov P (fun u j=>inP P (u,j)/\a4J t 0 u j) qW U) (hS:Cov P (fun u j=>inP P (u,j)/\a4J t 0 u j) qS S) :
  ∃ U' S',Cov P (fun u j=>inP P (u,j)/\a4J (t+1) 0 u j) qW U'/\Cov P (fun u j=>inP P (u,j)/\a4J (t+1) 0 u j) qS S'/\iter (a7z Ar.std (t:Int) (eT (thr P t))) (0,eMp U,eMp S)=some (eMp U',eMp S'):=by
 have ht3:=lt3 hv ht;have hl7:=hv.l7 t;have key:=a1o (step:=a7z Ar.std (t:Int) (eT (thr P t))) (thr P t).length (fun (s:List (Int×Int)×List (Int×Int)) (i:Nat)=>((i:Int),eMp s.1,eMp s.2))
  (fun i s=>Cov P (fun u j=>inP P (u,j)/\a4J t i u j) qW s.1/\Cov P (fun u j=>inP P (u,j)/\a4J t i u j) qS s.2) (fun s=>(eMp s.1,eMp s.2))
  (fun i s hi hR=>by
   obtain ⟨U,S⟩:=s;obtain ⟨hU,hS⟩:=hR;simp only at hU hS;have hget:=a2f hi;have hact:=hv.act t i hi;have hin:inP P (t,i):=⟨ht,hi⟩;have ew:Ar.std.wrp .i64 (Ar.std.zadd (i:Int) 1)=((i+1:Nat):Int):=by simp only [a0h,a0k];exact a1D (n:=10) (by omega) (by omega)
   have hp : ∀ u j,(inP P (u,j)/\a4J t (i+1) u j)↔(inP P (u,j)/\a4J t i u j)\/(u=t/\j=i):=fun u j=>by
    rw [b3q];constructor
    ·rintro ⟨h1,h2 | h2⟩
     ·exact .inl ⟨h1,h2⟩
     exact .inr h2
    rintro (⟨h1,h2⟩ | ⟨rfl,rfl⟩)
    ·exact ⟨h1,.inl h2⟩
    exact ⟨hin,.inr ⟨rfl,rfl⟩⟩
   have same : ∀ {q:Ac->Prop} {l:List (Int×Int)},Cov P (fun u j=>inP P (u,j)/\a4J t i u j) q l -> ¬ q (acA P (t,i))->Cov P (fun u j=>inP P (u,j)/\a4J t (i+1) u j) q l:=fun {q l} h hn =>
    h.same fun u j=>by
     rw [hp];constructor
     ·rintro ⟨h1 | ⟨rfl,rfl⟩,h2⟩
      ·exact ⟨h1,h2⟩
      exact absurd h2 hn
     rintro ⟨h1,h2⟩;exact ⟨.inl h1,h2⟩
   have hz:Ar.std.zlt (t:Int) 0=false:=by simp
   have ea:acA P (t,i)=aAt (thr P t) i:=rfl;have put : ∀ {q:Ac->Prop} {l:List (Int×Int)},Cov P (fun u j=>inP P (u,j)/\a4J t i u j) q l->q (acA P (t,i))->0<=(acA P (t,i)).2.1->(acA P (t,i)).2.1<=2 -> ∃ l',Cov P (fun u j=>inP P (u,j)/\a4J t (i+1) u j) q l' /\
     ((lk Ar.std (cI .u64) (eMp l) (.int .i64 (acA P (t,i)).2.1)).bind fun o170=>o170.elim (
       (nk (Ar.std.zlt (t:Int) 0)).bind fun _ =>
       some (Ar.std.mput (eMp l) (.int .i64 (acA P (t,i)).2.1) (.int .u64 (Ar.std.bits .or .u64 0 (Ar.std.shl .u64 1 (t:Int)))))) fun a167 =>
     (nk (Ar.std.zlt (t:Int) 0)).bind fun _ =>
     some (Ar.std.mput (eMp l) (.int .i64 (acA P (t,i)).2.1) (.int .u64 (Ar.std.bits .or .u64 a167 (Ar.std.shl .u64 1 (t:Int))))):Option (List (D×D)))=some (eMp l'):=by
    intro q l h hq h0 h2;obtain ⟨a,a1,a2,a3⟩:=h.put ht3 hq rfl h0 h2 hp;refine ⟨_,a3,bt (lkM l _) ?_⟩;rcases a2 with ⟨a2,rfl⟩ | a2
    ·rw [a2,Option.elim_none,hz];refine bnk rfl ?_;have:=orM (a:=0) (by omega) ht3;rw [show ((0:Nat):Int)=0 from rfl] at this;rw [this,b8s]
    rw [a2,Option.elim_some,hz];refine bnk rfl ?_;rw [orM a1 ht3,b8s]
   rcases a2v hact with ⟨h1,c0,c2,_⟩ | ⟨h1,c0,c2,_⟩ | hf
   ·
    obtain ⟨U',u1,u2⟩:=put hU (by rw [ea];unfold qW;omega) (by rw [ea];exact c0) (by rw [ea];exact c2);have k2 : ¬ (aAt (thr P t) i).1=2:=by omega
    rw [ea] at u2;refine ⟨(U',S),⟨u1,same hS (by rw [ea];unfold qS;omega)⟩,?_⟩;unfold a7z;refine cnT (by simp;omega) (bt (a0I hget) (bt (v:=(eMp U',eMp S)) (cnF (decide_eq_false k2) (bt (v:=eMp U') (cnT (decide_eq_true h1) (bt u2 rfl)) rfl)) ?_));dsimp only;rw [ew]
   ·
    obtain ⟨U',u1,u2⟩:=put hU (by rw [ea];unfold qW;omega) (by rw [ea];exact c0) (by rw [ea];exact c2);obtain ⟨S',s1,s2⟩:=put hS (by rw [ea];exact h1) (by rw [ea];exact c0) (by rw [ea];exact c2);rw [ea] at u2 s2;refine ⟨(U',S'),⟨u1,s1⟩,?_⟩;unfold a7z;refine cnT (by simp;omega) (bt (a0I hget) (bt (v:=(eMp U',eMp S')) (cnT (decide_eq_true h1) (bt s2 (bt u2 rfl))) ?_));dsimp only;rw [ew]
   
   have k1 : ¬ (aAt (thr P t) i).1=1:=by rw [hf];decide
   have k2 : ¬ (aAt (thr P t) i).1=2:=by rw [hf];decide
   refine ⟨(U,S),⟨same hU (by rw [ea,hf];unfold qW;simp),same hS (by rw [ea,hf];unfold qS;simp)⟩,?_⟩;unfold a7z;refine cnT (by simp;omega) (bt (a0I hget) (bt (v:=(eMp U,eMp S)) (cnF (decide_eq_false k2) (bt (v:=eMp U) (cnF (decide_eq_false k1) rfl) rfl)) ?_));dsimp only;rw [ew])
  (fun s _=>by
   unfold a7z;exact cnF (by simp) rfl) (U,S) ⟨hU,hS⟩
 obtain ⟨⟨U',S'⟩,⟨h1,h2⟩,h3⟩:=key;have hp : ∀ u j,(inP P (u,j)/\a4J (t+1) 0 u j)↔(inP P (u,j)/\a4J t (thr P t).length u j):=fun u j=>by
  constructor
  ·rintro ⟨g1,g2⟩;refine ⟨g1,?_⟩;unfold a4J at *;by_cases hu:u=t
   ·subst hu;exact .inr ⟨rfl,g1.2⟩
   omega
  rintro ⟨g1,g2⟩;refine ⟨g1,?_⟩;unfold a4J at *;omega
 exact ⟨U',S',h1.same fun u j=>by rw [hp],h2.same fun u j=>by rw [hp],h3⟩
theorem b8v {P:Pg} (hv:VP P) : ∃ b,M51 Ar.std (eP P)=some (b,0)/\(b=true ↔ ¬ a8z P):=by
 have e:=a5v (VP.short hv);rw [VP.to hv] at e;have hn3:=hv.n3;have key:=a1o (step:=b0x Ar.std (eP P)) P.length (fun (s:List (Int×Int)×List (Int×Int)) (t:Nat)=>((t:Int),eMp s.1,eMp s.2))
  (fun t s=>Cov P (fun u j=>inP P (u,j)/\a4J t 0 u j) qW s.1/\Cov P (fun u j=>inP P (u,j)/\a4J t 0 u j) qS s.2) (fun s=>(eMp s.1,eMp s.2))
  (fun t s ht hR=>by
   obtain ⟨U',S',h1,h2,h3⟩:=b4G hv ht hR.1 hR.2;refine ⟨(U',S'),⟨h1,h2⟩,?_⟩;unfold b0x;have ew:Ar.std.wrp .i64 (Ar.std.zadd (t:Int) 1)=((t+1:Nat):Int):=by simp only [a0h,a0k];exact a1D (n:=10) (by omega) (by omega)
   refine cnT (by simp;omega) (bt (a2d (a0J ht)) (bt h3 ?_));dsimp only;rw [ew])
  (fun s _=>by
   unfold b0x;exact cnF (by simp) rfl) ([],[]) ⟨Cov.nil P qW (fun t i h=>by unfold a4J at h;omega),Cov.nil P qS (fun t i h=>by unfold a4J at h;omega)⟩
 obtain ⟨⟨U,S⟩,⟨hU,hS⟩,h⟩:=key;have h':iter (b0x Ar.std (eP P)) (0,[],[])=some (eMp U,eMp S):=h;have hall : ∀ u j,(inP P (u,j)/\a4J P.length 0 u j)↔inP P (u,j):=fun u j=>⟨fun g=>g.1,fun g=>⟨g,by unfold a4J;exact .inl g.1⟩⟩;have hU:Cov P (fun u j=>inP P (u,j)) qW U:=hU.same fun u j=>by rw [hall]
 have hS:Cov P (fun u j=>inP P (u,j)) qS S:=hS.same fun u j=>by rw [hall]

 have hks:(eMp S).map (fun p=>a2h p.1)=S.map (·.1):=by unfold eMp;rw [List.map_map];rfl
 have hrange : ∀ v∈S.map (·.1),0<=v/\v<=2:=fun v hv'=>by
  obtain ⟨m,hm⟩:=b3p.1 hv';have:=hS.ye v m hm;exact ⟨this.1,this.2.1⟩
 have hlen:S.length<=3:=by
  have:=a4P (m:=[(0:Int),1,2]) hS.nd (fun v hv'=>by have:=hrange v hv';simp;omega);simpa using this
 have hkf:b3h (eMp S)=some (((S.map (·.1)).mergeSort fun x y=>decide (x<=y)).map (.int .i64)):=by
  unfold b3h;rw [hks,if_pos];refine ⟨by unfold eMp;simp;omega,?_,hS.nd⟩;rw [List.all_eq_true];intro p hp;obtain ⟨q,hq,rfl⟩:=List.mem_map.1 hp;have:=hrange q.1 (List.mem_map.2 ⟨q,hq,rfl⟩);unfold b3g;simp;omega
 have hperm:((S.map (·.1)).mergeSort fun x y=>decide (x<=y)).Perm (S.map (·.1)):=List.mergeSort_perm _ _;generalize ((S.map (·.1)).mergeSort fun x y=>decide (x<=y))=zs at hkf hperm;have hzl:zs.length<=3:=by rw [hperm.length_eq,List.length_map];exact hlen
 let p:Int->Bool:=fun v => !(decide (∀ t u:Fin 3,((gI U v).getD 0).toNat.testBit t.val=true->((gI U v).getD 0).toNat.testBit u.val=true->t=u));have hloop:iter (b1s Ar.std (eMp U) (enc (cI .i64) zs)) 0=some (bif zs.any p then .inr () else .inl ()):=by
  refine a3K zs p (Sum.inr ()) (Sum.inl ()) (fun i v hg hi => ?_) ?_
  ·have ew:Ar.std.wrp .i64 (Ar.std.zadd (i:Int) 1)=((i+1:Nat):Int):=by simp only [a0h,a0k];exact a1D (n:=10) (by omega) (by omega)
   unfold b1s;refine cnT (by simp;omega) (bt (a0I hg) (bt (v:=p v) (bt (lkM U v) ?_) ?_))
   ·cases hgu:gI U v with
    | none =>
      rw [Option.elim_none];refine bt (b5x (a:=0) (by omega)) ?_;show some _=some (!decide _);rw [hgu];rfl
    | some m =>
      obtain ⟨_,_,_,a,rfl,ha,_⟩:=hU.ye v m hgu;rw [Option.elim_some];refine bt (b5x ha) ?_;show some _=some (!decide _);rw [hgu];rfl
   rw [ew];cases p v <;> rfl
  unfold b1s;exact cnF (by simp) rfl
 refine ⟨zs.any p,?_,?_⟩
 ·unfold M51;refine bt e (cnT rfl (bt h' ?_));dsimp only;refine bt (v:=()) rfl (bt (show M93 Ar.std (eMp U) (eMp S)=some (enc (cI .i64) zs) from hkf) (bt hloop ?_));cases zs.any p <;> rfl
 rw [List.any_eq_true];constructor
 ·rintro ⟨v,hvz,hp⟩ hn;obtain ⟨m,hm⟩:=b3p.1 (hperm.mem_iff.1 hvz);obtain ⟨_,_,⟨s,i,s1,s2,s3⟩,_⟩:=hS.ye v m hm;have hp : ¬ (∀ t u:Fin 3,((gI U v).getD 0).toNat.testBit t.val=true->((gI U v).getD 0).toNat.testBit u.val=true->t=u):=by
   have:(!(decide (∀ t u:Fin 3,((gI U v).getD 0).toNat.testBit t.val=true->((gI U v).getD 0).toNat.testBit u.val=true->t=u)))=true:=hp;simpa using this
  cases hgu:gI U v with
  | none=>exact hU.no v hgu s i s1 (by unfold qS at s2;unfold qW;omega) s3
  | some k =>
    obtain ⟨_,_,_,a,rfl,ha,hb⟩:=hU.ye v k hgu;apply hp;intro t u h1 h2;rw [hgu] at h1 h2;obtain ⟨j,j1,j2,j3⟩:=(hb t.val t.2).1 h1;obtain ⟨j',k1,k2,k3⟩:=(hb u.val u.2).1 h2;have no : ∀ (w:Nat) (x:Nat),inP P (w,x)->qW (acA P (w,x))->(acA P (w,x)).2.1=v->w=s:=fun w x g1 g2 g3=>by
     refine Classical.byContradiction fun hne => ?_;have hi:=hn (s,i) (w,x) s1 g1 (fun e=>hne e.symm);unfold qS at s2;unfold qW at g2;rcases hi with hi | hi | hi | hi
     ·omega
     ·exact g2 hi
     ·exact hi (s3.trans g3.symm)
     exact hi.1 s2
    have e1:=no t.val j j1 j2 j3;have e2:=no u.val j' k1 k2 k3;exact Fin.ext (e1.trans e2.symm)
 intro hn;have : ∃ x y,inP P x/\inP P y/\x.1≠y.1 /\ ¬ a5H (acA P x) (acA P y):=by
  refine Classical.byContradiction fun hno=>hn fun x y hx hy hxy=>Classical.byContradiction fun hi=>hno ⟨x,y,hx,hy,hxy,hi⟩
 obtain ⟨x,y,hx,hy,hxy,hi⟩:=this;obtain ⟨n1,n2,n3,n4⟩:=a8x hi;have two : ∀ x y:Pt,inP P x->inP P y->x.1≠y.1->(acA P x).1=2->(acA P y).1≠3->(acA P x).2.1=(acA P y).2.1 -> ∃ v∈zs,p v=true:=by
  intro x y hx hy hxy h1 h2 h3;refine ⟨(acA P x).2.1,?_,?_⟩
  ·refine hperm.mem_iff.2 (b3p.2 ?_);cases hg:gI S (acA P x).2.1 with
   | none=>exact absurd rfl (hS.no _ hg x.1 x.2 hx h1)
   | some m=>exact ⟨m,rfl⟩
  have : ¬ (∀ t u:Fin 3,((gI U (acA P x).2.1).getD 0).toNat.testBit t.val=true->((gI U (acA P x).2.1).getD 0).toNat.testBit u.val=true->t=u):=by
   intro hall';have hwx:qW (acA P x):=by unfold qW;omega
   cases hgu:gI U (acA P x).2.1 with
   | none=>exact hU.no _ hgu x.1 x.2 hx hwx rfl
   | some k =>
     obtain ⟨_,_,_,a,rfl,ha,hb⟩:=hU.ye _ k hgu;have b1:=(hb x.1 (lt3 hv hx.1)).2 ⟨x.2,hx,hwx,rfl⟩;have b2:=(hb y.1 (lt3 hv hy.1)).2 ⟨y.2,hy,h2,h3.symm⟩;rw [hgu] at hall';have:=hall' ⟨x.1,lt3 hv hx.1⟩ ⟨y.1,lt3 hv hy.1⟩ b1 b2;exact hxy (congrArg Fin.val this)
  show (!(decide _))=true;rw [decide_eq_false this];rfl
 rcases n4 with n4 | n4
 ·exact two x y hx hy hxy n4 n2 n3
 exact two y x hy hx (fun e=>hxy e.symm) n4 n1 n3.symm
theorem IsO.one {k:Nat} (hK:Kind k) {P:Pg} (hv:VP P) (hn:a8z P) {O:List (List Int)} (h:IsO k P O) {o:List Int} (ho:Can 3 P o):O=[o]:=by
 have up : ∀ o',Can k P o'->Can 3 P o':=fun o' h=>by
  rcases hK with rfl | rfl | rfl
  ·exact h.strict.loose
  ·exact h.loose
  exact h
 have hne:=h.ne hK hv
 match O,hne with
 | [x],_ =>
   have:=a7h hn (up x ((h.mem x).1 (by simp))) ho;rw [this]
 | x::y::r,_ =>
   exfalso;have h1:=a7h hn (up x ((h.mem x).1 (by simp))) ho;have h2:=a7h hn (up y ((h.mem y).1 (by simp))) ho;have:=List.nodup_cons.1 (SS.nodup h.ss);exact this.1 (by rw [h1,h2];simp)
theorem b4H {O:List (List Int)} (hO : ∀ x∈O,SmL x) (hl:O.length<4294967296):M25 Ar.std (a0V O) (a0V O)=some true:=by
 unfold M25;refine cnT (by simp) (bt (v := .inl ()) ?_ rfl);have:=a3K (step:=b1t Ar.std (a0V O) (a0V O)) O (fun _=>false) (.inr ()) (.inl ()) (fun i x hx hi=>by
  have sm:=hO x (List.mem_of_getElem? hx);have ew:Ar.std.wrp .i64 (Ar.std.zadd (i:Int) 1)=((i+1:Nat):Int):=by simp only [a0h,a0k];exact a1D (n:=4294967296) (by omega) (by omega)
  unfold b1t;refine cnT (by simp [hi]) (bt (a3w hx) (bt (a3w hx) (bt (b2W sm.1 sm.1 sm.2 sm.2) ?_)));rw [a7d.2.2 rfl];refine cnT (by simp) ?_;rw [ew];rfl) (by
  unfold b1t;exact cnF (by simp) rfl)
 rw [this];have:(O.any fun _=>false)=false:=by simp
 rw [this];rfl
def fnc:Ac:=(3,0,0)
theorem a4o (a:Ac) (l:List Ac) (f:Nat->Int):reads (a::l) f=(if a.1=1 then [f 0] else [])++reads l (fun i=>f (i+1)):=by
 unfold reads;rw [List.length_cons,List.range_succ_eq_map,List.filterMap_cons,List.filterMap_map];have e : ∀ i,aAt (a::l) (i+1)=aAt l i:=fun i=>rfl;have e0:aAt (a::l) 0=a:=rfl;have e2:((fun i=>if (aAt (a::l) i).1=1 then some (f i) else none)∘Nat.succ)=fun i=>if (aAt l i).1=1 then some (f (i+1)) else none:=by funext i;rfl
 rw [e2,e0];by_cases h:a.1=1 <;> simp [h]
theorem a5I : ∀ (l r:List Ac) (f:Nat->Int),reads (l++fnc::r) f=reads (l++r) (fun i=>f (if i<l.length then i else i+1))
 | [],r,f=>by
   rw [List.nil_append,List.nil_append,a4o]
   rfl
 | a::l,r,f=>by
   rw [List.cons_append,List.cons_append,a4o,a4o,a5I l r];congr 1;congr 1;funext i;by_cases h:i<l.length
   ·rw [if_pos h,if_pos (by simp;omega)]
   rw [if_neg h,if_neg (by simp;omega)]
structure More1 (P P':Pg) (t0 q:Nat):Prop where
 len:P'.length=P.length
 lt:t0<P.length
 oth : ∀ t,t≠t0->thr P' t=thr P t
 own : ∃ l r,l.length=q/\thr P t0=l++r/\thr P' t0=l++fnc::r
def shf (t0 q t i:Nat):Nat:=if t=t0/\q<=i then i+1 else i
theorem b5y {t0 q t i j:Nat} (h:j<i):shf t0 q t j<shf t0 q t i:=by unfold shf;split <;> split <;> omega
theorem b3r {t0 q t i j:Nat} (h:shf t0 q t i=shf t0 q t j):i=j:=by unfold shf at h;split at h <;> split at h <;> omega
theorem c0h {t0 q i:Nat}:shf t0 q t0 i≠q:=by unfold shf;split <;> omega
theorem b3s {t0 q t i:Nat} (h : ¬ (t=t0/\i=q)) : ∃ j,i=shf t0 q t j:=by
 by_cases ht:t=t0/\q<i
 ·exact ⟨i-1,by unfold shf;rw [if_pos (by omega)];omega⟩
 exact ⟨i,by unfold shf;rw [if_neg (by omega)]⟩
section
variable {P P':Pg} {t0 q:Nat} (hM:More1 P P' t0 q)
include hM
theorem More1.at (t i:Nat):aAt (thr P' t) (shf t0 q t i)=aAt (thr P t) i:=by
 by_cases ht:t=t0
 ·subst ht;obtain ⟨l,r,h1,h2,h3⟩:=hM.own;rw [h2,h3];unfold aAt shf;rw [List.getD_eq_getElem?_getD,List.getD_eq_getElem?_getD];by_cases hi:q<=i
  ·rw [if_pos ⟨rfl,hi⟩,zp8 (by omega),zp8 (by omega),show i+1-l.length=(i-l.length)+1 by omega,List.getElem?_cons_succ]
  rw [if_neg (by omega),zp7 (by omega),zp7 (by omega)]
 unfold shf;rw [if_neg (by omega),hM.oth t ht]
theorem More1.atq:aAt (thr P' t0) q=fnc:=by
 obtain ⟨l,r,h1,h2,h3⟩:=hM.own;rw [h3];unfold aAt;rw [List.getD_eq_getElem?_getD,zp8 (by omega),h1,Nat.sub_self];rfl
theorem More1.lent (t:Nat):(thr P' t).length=if t=t0 then (thr P t).length+1 else (thr P t).length:=by
 by_cases ht:t=t0
 ·subst ht;obtain ⟨l,r,h1,h2,h3⟩:=hM.own;rw [if_pos rfl,h2,h3];simp;omega
 rw [if_neg ht,hM.oth t ht]
theorem More1.qle:q<=(thr P t0).length:=by
 obtain ⟨l,r,h1,h2,h3⟩:=hM.own;rw [h2];simp;omega
theorem More1.shf_len {t i:Nat}:shf t0 q t i<(thr P' t).length↔i<(thr P t).length:=by
 rw [hM.lent];have:=hM.qle;by_cases ht:t=t0
 ·subst ht;rw [if_pos rfl];unfold shf;split <;> omega
 rw [if_neg ht];unfold shf;rw [if_neg (by omega)]
end
structure RF (t0 q:Nat) (s' s:AS):Prop where
 dn : ∀ t i,s.dn t i=s'.dn t (shf t0 q t i)
 rd : ∀ t i,s.rd t i=s'.rd t (shf t0 q t i)
 bf:s.bf=s'.bf
 ce:s.ce=s'.ce
theorem RF.init (t0 q:Nat):RF t0 q AS.init AS.init:=⟨fun _ _=>rfl,fun _ _=>rfl,rfl,rfl⟩
section
variable {P P':Pg} {t0 q:Nat} (hM:More1 P P' t0 q) {s' s:AS} (hR:RF t0 q s' s)
include hM hR
theorem RF.out:b3D P' s'=b3D P s:=by
 unfold b3D;rw [hM.len,hR.ce];congr 1;refine a4x fun t _ => ?_;by_cases ht:t=t0
 ·subst ht;obtain ⟨l,r,h1,h2,h3⟩:=hM.own;rw [h2,h3,a5I];congr 1;funext i;rw [hR.rd];unfold shf;rw [h1];by_cases hi:i<q
  ·rw [if_pos hi,if_neg (by omega)]
  rw [if_neg hi,if_pos (by omega)]
 rw [hM.oth t ht];congr 1;funext i;rw [hR.rd];unfold shf;rw [if_neg (by omega)]
theorem RF.fence (k:Nat):RF t0 q (doA k P' s' t0 q) s:=by
 have e:=hM.atq;refine ⟨fun t i => ?_,fun t i => ?_,?_,?_⟩
 ·rw [hR.dn];simp only [doA,fup];by_cases ht:t=t0
  ·subst ht;have:shf t q t i≠q:=c0h;simp [fup,this]
  simp [fup,ht]
 ·rw [hR.rd];simp only [doA,e,fnc]
  rfl
 ·rw [hR.bf];simp only [doA,e,fnc];rfl
 rw [hR.ce];simp only [doA,e,fnc];rfl
theorem RF.act (k:Nat) (t i:Nat):RF t0 q (doA k P' s' t (shf t0 q t i)) (doA k P s t i):=by
 have e:=hM.at t i;have hsn : ∀ c,sn s' t c=sn s t c:=fun c=>by unfold sn;rw [hR.bf,hR.ce]
 refine ⟨fun u j => ?_,fun u j => ?_,?_,?_⟩
 ·simp only [doA,fup];by_cases hu:u=t
  ·subst hu;by_cases hj:j=i
   ·subst hj;simp
   have:shf t0 q u j≠shf t0 q u i:=fun h=>hj (b3r h);simp [fup,hj,this,hR.dn]
  simp [fup,hu,hR.dn]
 ·simp only [doA,e,fup];by_cases h1:(aAt (thr P t) i).1=1
  ·rw [if_pos h1,if_pos h1];by_cases hu:u=t
   ·subst hu;by_cases hj:j=i
    ·subst hj;simp [hsn]
    have:shf t0 q u j≠shf t0 q u i:=fun h=>hj (b3r h);simp [fup,hj,this,hR.rd]
   simp [fup,hu,hR.rd]
  rw [if_neg h1,if_neg h1];exact hR.rd u j
 ·simp only [doA,e,hR.bf]
 simp only [doA,e,hR.ce]
theorem RF.outB (t:Nat):RF t0 q (outB s' t) (outB s t):=by
 unfold Go.Am.outB;rw [hR.bf];cases hb:s'.bf t with
 | nil=>exact hR
 | cons x r=>exact ⟨hR.dn,hR.rd,by simp only [hR.bf],by simp only [hR.ce]⟩
theorem RF.may {k t i:Nat} (h:a7o k (thr P' t) (s'.t t) (shf t0 q t i)):a7o k (thr P t) (s.t t) i:=by
 obtain ⟨h1,h2,h3⟩:=h;refine ⟨(hR.dn t i).trans h1,fun j hj hm=>(hR.dn t j).trans (h2 _ (b5y hj) ?_),fun hk hf => ?_⟩
 ·rw [hM.at,hM.at];exact hm
 have:=h3 hk (by rw [hM.at];exact hf);show s.bf t=[];rw [hR.bf];exact this
end
theorem b4I {P P':Pg} {t0 q:Nat} (hM:More1 P P' t0 q) {k:Nat} {o:List Int} (h:Can k P' o):Can k P o:=by
 obtain ⟨s',h1,h2,h3⟩:=h;have key : ∃ s,Stps k P AS.init s/\RF t0 q s' s:=by
  clear h2 h3
  induction h1 with
  | refl=>exact ⟨_,.refl _,RF.init t0 q⟩
  | tail _ h ih =>
    obtain ⟨s,i1,i2⟩:=ih;cases h with
    | act t i ht hi hm =>
      by_cases hq:t=t0/\i=q
      ·obtain ⟨rfl,rfl⟩:=hq;exact ⟨s,i1,i2.fence hM k⟩
      obtain ⟨j,rfl⟩:=b3s hq;exact ⟨_,.tail i1 (.act t j (hM.len▸ht) (hM.shf_len.1 hi) (i2.may hM hm)),i2.act hM k t j⟩
    | out t ht hk hb=>exact ⟨_,.tail i1 (.out t (hM.len▸ht) hk (by rw [i2.bf];exact hb)),i2.outB hM t⟩
 obtain ⟨s,i1,i2⟩:=key;refine ⟨s,i1,fun t ht=>⟨fun i hi => ?_,?_⟩,by rw [<-h3];exact (i2.out hM).symm⟩
 ·rw [i2.dn];exact (h2 t (hM.len▸ht)).1 _ (hM.shf_len.2 hi)
 rw [i2.bf];exact (h2 t (hM.len▸ht)).2
theorem a9t {P P':Pg} {t0 q:Nat} (hM:More1 P P' t0 q) {o:List Int} (h:Can 1 P o):Can 1 P' o:=by
 obtain ⟨s,h1,h2,h3⟩:=h;have hqlen:q<(thr P' t0).length:=by have:=hM.qle;rw [hM.lent,if_pos rfl];omega

 have fence : ∀ {s':AS},Stps 1 P' AS.init s'->RF t0 q s' s->True:=fun _ _=>trivial;have doF : ∀ {s' s:AS},Stps 1 P' AS.init s'->RF t0 q s' s->(∀ j,j<q->s.dn t0 j=true) -> ∃ s'',Stps 1 P' AS.init s''/\RF t0 q s'' s/\s''.dn t0 q=true:=by
  intro s' s g1 g2 g3;cases hd:s'.dn t0 q with
  | true=>exact ⟨s',g1,g2,hd⟩
  | false =>
    refine ⟨_,.tail g1 (.act t0 q (hM.len▸hM.lt) hqlen ⟨hd,fun j hj _ => ?_,fun hk=>by cases hk⟩),g2.fence hM 1,by simp [doA]⟩;have:=g2.dn t0 j;unfold shf at this;rw [if_neg (by omega),g3 j hj] at this;exact this.symm
 have key : ∃ s',Stps 1 P' AS.init s'/\RF t0 q s' s:=by
  clear h2 h3 fence
  induction h1 with
  | refl=>exact ⟨_,.refl _,RF.init t0 q⟩
  | @tail u v _ h ih =>
    obtain ⟨s',i1,i2⟩:=ih;cases h with
    | out t ht hk hb=>cases hk
    | act t i ht hi hm =>
      have hall : ∀ j,j<i->u.dn t j=true:=fun j hj=>hm.2.1 j hj (.inl (by decide));by_cases hq:t=t0/\q<=i
      ·obtain ⟨rfl,hqi⟩:=hq;obtain ⟨s'',j1,j2,j3⟩:=doF i1 i2 (fun j hj=>hall j (by omega));refine ⟨_,.tail j1 (.act t (shf t q t i) (hM.len▸ht) (hM.shf_len.2 hi) ⟨(j2.dn t i).symm.trans hm.1,fun j hj _ => ?_,fun hk=>by cases hk⟩),j2.act hM 1 t i⟩;by_cases hjq:j=q
       ·subst hjq;exact j3
       obtain ⟨j',rfl⟩:=b3s (t0:=t) (q:=q) (t:=t) (i:=j) (by omega);have hlt:j'<i:=by
        refine Classical.byContradiction fun hn => ?_;rcases Nat.lt_or_eq_of_le (Nat.le_of_not_lt hn) with g | g
        ·have:=b5y (t0:=t) (q:=q) (t:=t) g;omega
        subst g;omega
       exact (j2.dn t j').symm.trans (hall j' hlt)
      refine ⟨_,.tail i1 (.act t (shf t0 q t i) (hM.len▸ht) (hM.shf_len.2 hi) ⟨(i2.dn t i).symm.trans hm.1,fun j hj _ => ?_,fun hk=>by cases hk⟩),i2.act hM 1 t i⟩;have e:shf t0 q t i=i:=by unfold shf;rw [if_neg hq]
      rw [e] at hj;have e2:shf t0 q t j=j:=by unfold shf;rw [if_neg (by omega)]
      have:=i2.dn t j;rw [e2] at this;exact this.symm.trans (hall j hj)
 obtain ⟨s',i1,i2⟩:=key;obtain ⟨s'',j1,j2,j3⟩:=doF i1 i2 (fun j hj=>(h2 t0 hM.lt).1 j (by have:=hM.qle;omega));refine ⟨s'',j1,fun t ht=>⟨fun i hi => ?_,?_⟩,by rw [<-h3];exact j2.out hM⟩
 ·by_cases hq:t=t0/\i=q
  ·rw [hq.1,hq.2];exact j3
  obtain ⟨j,rfl⟩:=b3s hq;rw [<-j2.dn];exact (h2 t (hM.len▸ht)).1 j (hM.shf_len.1 hi)
 rw [<-j2.bf];exact (h2 t (hM.len▸ht)).2
theorem b4J {P P':Pg} {t0 q:Nat} (hM:More1 P P' t0 q) {o:List Int}:Can 1 P' o↔Can 1 P o:=⟨b4I hM,a9t hM⟩
theorem a9u {P:Pg} {t0:Nat} (h:t0<P.length) (l:List Ac) (t:Nat):thr (P.set t0 l) t=if t=t0 then l else thr P t:=by
 unfold thr;rw [List.getD_eq_getElem?_getD,List.getD_eq_getElem?_getD,List.getElem?_set];by_cases ht:t0=t
 ·subst ht;simp [h]
 rw [if_neg ht,if_neg (fun e=>ht e.symm)]
theorem b4K {P:Pg} {t0:Nat} (h:t0<P.length) {l r:List Ac} (e:thr P t0=l++r):More1 P (P.set t0 (l++fnc::r)) t0 l.length where
 len:=by simp
 lt:=h
 oth t ht:=by rw [a9u h,if_neg ht]
 own:=⟨l,r,rfl,e,by rw [a9u h,if_pos rfl]⟩
theorem b4L {P:Pg} {t0:Nat} (l m:List Ac):(P.set t0 l).set t0 m=P.set t0 m:=List.set_set ..
theorem a2M {P:Pg} {t0:Nat} (h:t0<P.length) {o:List Int} : ∀ (r l:List Ac),(∀ a∈r,a5t a=true)->(Can 1 (P.set t0 (l++r)) o↔Can 1 (P.set t0 (l++r.filter wk)) o)
 | [],l,_=>Iff.rfl
 | a::r,l,hv=>by
   have ha:=hv a (List.mem_cons_self ..);have hr:=fun b hb=>hv b (List.mem_cons_of_mem a hb);by_cases hw:wk a=true
   ·rw [List.filter_cons_of_pos hw];have ih:=a2M h (o:=o) r (l++[a]) hr;rw [List.append_assoc,List.append_assoc] at ih;exact ih
   rw [List.filter_cons_of_neg hw];have hf:a=fnc:=by
    rcases a2v ha with h1 | h1 | h1
    ·exact absurd (by unfold wk;simp;omega) hw
    ·exact absurd (by unfold wk;simp;omega) hw
    exact h1
   subst hf;have ih:=a2M h (o:=o) r l hr;rw [<-ih];have hm:=b4K (P:=P.set t0 (l++r)) (t0:=t0) (by simpa using h) (l:=l) (r:=r) (by rw [a9u h,if_pos rfl]);rw [b4L] at hm;exact b4J hm
theorem set_mid {α:Type} : ∀ (A:List α) (x y:α) (B:List α),(A++x::B).set A.length y=A++y::B
 | [],_,_,_=>rfl
 | a::A,x,y,B=>congrArg (a :: ·) (set_mid A x y B)
def nfP (P:Pg):Pg:=P.map fun l=>l.filter wk
theorem b6K {P:Pg} (f:List Ac->List Ac) (h0:f []=[]) (t:Nat):thr (P.map f) t=f (thr P t):=by
 unfold thr;rw [List.getD_eq_getElem?_getD,List.getD_eq_getElem?_getD,List.getElem?_map];cases P[t]? with
 | none=>exact h0.symm
 | some l=>rfl
theorem b5z {P:Pg} (hv : ∀ l∈P,∀ a∈l,a5t a=true) {o:List Int}:Can 1 P o↔Can 1 (nfP P) o:=by
 have key : ∀ n,n<=P.length->(Can 1 P o↔Can 1 ((P.take n).map (fun l=>l.filter wk)++P.drop n) o):=by
  intro n
  induction n with
  | zero=>intro _;simp
  | succ n ih =>
    intro hn;rw [ih (by omega)];have hlt:n<((P.take n).map (fun l=>l.filter wk)++P.drop n).length:=by simp;omega
    have hg:=zp1 (l:=P) (i:=n) (by omega);have hd:P.drop n=P[n]::P.drop (n+1):=List.drop_eq_getElem_cons (by omega);have hl:((P.take n).map (fun l=>l.filter wk)).length=n:=by simp;omega
    have e1:((P.take n).map (fun l=>l.filter wk)++P.drop n)=((P.take n).map (fun l=>l.filter wk)++P.drop n).set n ([]++P[n]):=by
     rw [hd];have:=set_mid ((P.take n).map (fun l=>l.filter wk)) P[n] ([]++P[n]) (P.drop (n+1));rw [hl] at this;rw [this];rfl
    have e2:((P.take (n+1)).map (fun l=>l.filter wk)++P.drop (n+1))=((P.take n).map (fun l=>l.filter wk)++P.drop n).set n ([]++P[n].filter wk):=by
     rw [hd];have:=set_mid ((P.take n).map (fun l=>l.filter wk)) P[n] ([]++P[n].filter wk) (P.drop (n+1));rw [hl] at this;rw [this,List.take_succ_eq_append_getElem (by omega),List.map_append];simp
    rw [e2]
    conv=>lhs;rw [e1]
    exact a2M hlt P[n] [] (hv _ (zp6 _))
 have:=key P.length (Nat.le_refl _);rw [List.take_length,List.drop_length,List.append_nil] at this;exact this
def sep:List Ac->List Ac
 | []=>[]
 | [a]=>[a]
 | a::b::l=>a::fnc::sep (b::l)
def allF (P:Pg):Pg:=P.map fun l=>sep (l.filter wk)
theorem a4p : ∀ {l:List Ac},(∀ a∈l,wk a=true)->(sep l).filter wk=l
 | [],_=>rfl
 | [a],h=>by rw [sep,List.filter_cons_of_pos (h a (by simp))];rfl
 | a::b::l,h=>by
   rw [sep,List.filter_cons_of_pos (h a (by simp)),List.filter_cons_of_neg (by simp [wk,fnc]),a4p fun c hc=>h c (by simp at hc ⊢;right;exact hc)]
theorem b3t : ∀ {l:List Ac} {a:Ac},a∈sep l->a∈l\/a=fnc
 | [],_,h=>by cases h
 | [b],_,h => .inl h
 | b::c::l,a,h=>by
   rw [sep] at h;rcases List.mem_cons.1 h with h | h
   ·exact .inl (by rw [h];simp)
   rcases List.mem_cons.1 h with h | h
   ·exact .inr h
   rcases b3t h with h | h
   ·exact .inl (List.mem_cons_of_mem _ h)
   exact .inr h
theorem a9v : ∀ l:List Ac,(sep l).length=2*l.length-1
 | []=>rfl
 | [a]=>rfl
 | a::b::l=>by
   rw [sep];have:=a9v (b::l);simp only [List.length_cons] at this ⊢;omega
theorem b3u : ∀ (l:List Ac) (i:Nat),i+1<(sep l).length->(aAt (sep l) i).1=3\/(aAt (sep l) (i+1)).1=3
 | [],i,h=>by simp [sep] at h
 | [a],i,h=>by simp [sep] at h
 | a::b::l,0,h => .inr rfl
 | a::b::l,1,h => .inl rfl
 | a::b::l,i+2,h=>by
   have:=b3u (b::l) i (by rw [sep] at h;simp only [List.length_cons] at h;omega);rw [sep];exact this
theorem a5J (P:Pg):fenced (allF P):=by
 intro t i hi;unfold acA allF at *;rw [b6K _ rfl] at *;exact b3u _ i hi
theorem b6L (P:Pg):nfP (allF P)=nfP P:=by
 unfold nfP allF;rw [List.map_map];refine List.map_congr_left fun l _ => ?_;exact a4p fun a ha=>(List.mem_filter.1 ha).2
theorem b3v (l:List Ac):nWk (sep (l.filter wk))=nWk l:=by
 unfold nWk;rw [List.countP_eq_length_filter,List.countP_eq_length_filter,a4p fun a ha=>(List.mem_filter.1 ha).2]
theorem VP.allF {P:Pg} (hv:a3r P=true):a3r (allF P)=true:=by
 unfold a3r allW Go.Am.allF at *;rw [zp4,zp4] at *;obtain ⟨⟨h1,h2⟩,h3⟩:=hv;have e:(P.map fun l=>sep (l.filter wk)).map nWk=P.map nWk:=by
  rw [List.map_map];exact List.map_congr_left fun l _=>b3v l
 rw [e,List.length_map];refine ⟨⟨?_,h2⟩,h3⟩;rw [List.all_eq_true] at *;intro l hl;obtain ⟨m,hm,rfl⟩:=List.mem_map.1 hl;have h4:=h1 m hm;unfold a8h at *;rw [zp4,zp4,decide_eq_true_eq,decide_eq_true_eq] at *;rw [b3v];refine ⟨⟨?_,?_⟩,h4.2⟩
 ·rw [a9v];have:(m.filter wk).length<=4:=by rw [<-List.countP_eq_length_filter];exact h4.2
  omega
 rw [List.all_eq_true] at *;intro a ha;rcases b3t ha with h | h
 ·exact h4.1.2 a (List.mem_filter.1 h).1
 rw [h];rfl
theorem b3w {P:Pg} (hv:a3r P=true) : ∀ l∈P,∀ a∈l,a5t a=true:=by
 unfold a3r at hv;rw [zp4,zp4] at hv;have h1:=hv.1.1;rw [List.all_eq_true] at h1;intro l hl a ha;have h:=h1 l hl;unfold a8h at h;rw [zp4,zp4] at h;have h2:=h.1.2;rw [List.all_eq_true] at h2;exact h2 a ha
theorem b4M {P:Pg} (hv:a3r P=true) {k:Nat} (hK:Kind k) {o:List Int}:Can k (allF P) o↔Can 1 P o:=by
 have e:Can 1 (allF P) o↔Can 1 P o:=by
  rw [b5z (b3w (VP.allF hv)),b6L,<-b5z (b3w hv)]
 rw [<-e];rcases hK with rfl | rfl | rfl
 ·exact Iff.rfl
 ·exact ⟨fun h=>a6q (a5J P) h.loose,fun h=>h.strict⟩
 exact ⟨fun h=>a6q (a5J P) h,fun h=>h.strict.loose⟩
theorem a9w {α β:Type} {f g:α->Option β} : ∀ {l:List α},(∀ a∈l,f a=g a)->l.filterMap f=l.filterMap g
 | [],_=>rfl
 | a::l,h=>by
   rw [List.filterMap_cons,List.filterMap_cons,h a (List.mem_cons_self ..),a9w fun b hb=>h b (List.mem_cons_of_mem _ hb)]
theorem a2x {l:List Ac} {m:Nat} (hm:m<=l.length) (r:Nat->Int):reads (l.take m) r=(List.range m).filterMap fun i=>if (aAt l i).1=1 then some (r i) else none:=by
 unfold reads;rw [List.length_take,Nat.min_eq_left hm];refine a9w fun i hi => ?_;have hi:=List.mem_range.1 hi;have e:aAt (l.take m) i=aAt l i:=by
  unfold aAt;rw [List.getD_eq_getElem?_getD,List.getD_eq_getElem?_getD,List.getElem?_take_of_lt hi]
 rw [e]
theorem b1e {l:List Ac} {m:Nat} (hm:m<l.length) (r:Nat->Int):reads (l.take (m+1)) r=reads (l.take m) r++if (aAt l m).1=1 then [r m] else []:=by
 rw [a2x hm,a2x (Nat.le_of_lt hm),List.range_succ,List.filterMap_append];congr 1;by_cases h:(aAt l m).1=1 <;> simp [h]
theorem a6r {l:List Ac} {m:Nat} (hm:m<=l.length) {r r':Nat->Int} (h : ∀ i,i<m->r i=r' i):reads (l.take m) r=reads (l.take m) r':=by
 rw [a2x hm,a2x hm];refine a9w fun i hi => ?_;rw [h i (List.mem_range.1 hi)]
theorem b4N {l:List Ac} {m:Nat} (hm:m<=l.length) (r:Nat->Int):(reads (l.take m) r).length<=m:=by
 rw [a2x hm];have:=List.length_filterMap_le (fun i=>if (aAt l i).1=1 then some (r i) else none) (List.range m)
 rwa [List.length_range] at this
structure PR (P:Pg) (s:Sta) (n:Nat->Nat) (rd:Nat->List Int):Prop where
 sp:SP P s n
 rd : ∀ t,rd t=reads ((thr P t).take (n t)) ((vw P s).rd t)
theorem PR.init (P:Pg):PR P s0 (fun _=>0) (fun _=>[]):=⟨SP.init P,fun t=>by rw [List.take_zero];rfl⟩
def rd' (P:Pg) (s:Sta) (n:Nat->Nat) (rd:Nat->List Int) (t:Nat):Nat->List Int :=
 if (aAt (thr P t) (n t)).1=1 then fup rd t (rd t++[s (11+(aAt (thr P t) (n t)).2.1.toNat)]) else rd
section
variable {P:Pg} (hv:VP P) {s:Sta} {n:Nat->Nat} {rd:Nat->List Int} (h:PR P s n rd)
include hv h
theorem PR.nb : ∀ t,(vw P s).bf t=[]:=by
 intro t;show (if t<3 then a3b s t else [])=[]
 split
 ·rename_i ht;unfold a3b;rw [h.sp.k.nb (by decide) t ht];rfl
 rfl
theorem PR.len (t:Nat):(rd t).length<=7:=by
 rw [h.rd t];exact Nat.le_trans (b4N (h.sp.l t) _) (Nat.le_trans (h.sp.l t) (hv.l7 t))
theorem PR.step {t:Nat} (ht:t<P.length) (hi:n t<(thr P t).length):PR P (doS P s t (n t)) (fup n t (n t+1)) (rd' P s n rd t):=by
 have ht3:=lt3 hv ht;refine ⟨SP.step hv h.sp ht hi,fun u => ?_⟩;have hb:=PR.nb hv h;have e:vw P (doS P s t (n t))=doA 3 P (vw P s) t (n t):=by
  rw [b7S (k:=1) hv h.sp.k.wf ht hi (.inl (by decide)) (.inl (hb t)),b6E (by decide)]
 have hrd : ∀ u j,(vw P (doS P s t (n t))).rd u j=if (aAt (thr P t) (n t)).1=1/\(u,j)=(t,n t) then (vw P s).ce (aAt (thr P t) (n t)).2.1 else (vw P s).rd u j:=fun u j=>by
  rw [e];exact a8y hb (t,n t) (u,j)
 have old : ∀ u j,j<n u->(vw P (doS P s t (n t))).rd u j=(vw P s).rd u j:=fun u j hj=>by
  rw [hrd,if_neg];rintro ⟨_,hh⟩;rw [Prod.mk.injEq] at hh;obtain ⟨rfl,rfl⟩:=hh;omega
 have hl:=h.sp.l u;by_cases hut:u=t
 ·subst hut;rw [a0g,b1e hi,a6r hl (old u),<-h.rd u];unfold rd';by_cases h1:(aAt (thr P u) (n u)).1=1
  ·rw [if_pos h1,if_pos h1,a0g,hrd,if_pos ⟨h1,rfl⟩];obtain ⟨c0,c1,_⟩:=b0X hv h.sp.k.wf ht hi (.inl h1);congr 2;show _=(if 0<=(aAt (thr P u) (n u)).2.1/\(aAt (thr P u) (n u)).2.1<=2 then _ else _)
   rw [if_pos ⟨c0,c1⟩]
  rw [if_neg h1,if_neg h1,List.append_nil]
 rw [a0c _ _ _ hut,a6r hl (old u),<-h.rd u];unfold rd';split
 ·rw [a0c _ _ _ hut]
 rfl
end
def eRd (f:Nat->List Int) (m:Nat):List D:=enc (cL 1) ((List.range m).map fun i=>a0n (f i))
theorem a5K (f:Nat->List Int) {m i:Nat} (h:i<m):(eRd f m)[i]?=some (.list 1 (a0n (f i))):=by
 unfold eRd enc;rw [List.getElem?_map,List.getElem?_map,List.getElem?_range h];rfl
theorem a4q (f:Nat->List Int) (m:Nat):(eRd f m).length=m:=by simp [eRd]
theorem gcR (f:Nat->List Int) {m i:Nat} (h:i<m):gc Ar.std (cL 1) (eRd f m) (Ar.std.nat (i:Int))=some (a0n (f i)):=by
 unfold gc;have:Ar.std.lget (eRd f m) (Ar.std.nat (i:Int))=some (.list 1 (a0n (f i))):=a5K f h;rw [this];rfl
theorem c0i (f:Nat->List Int) {m i:Nat} (h:i<m) (v:List Int):Ar.std.lset (eRd f m) (Ar.std.nat (i:Int)) (.list 1 (a0n v))=eRd (fup f i v) m:=by
 show (eRd f m).set i _=_;apply List.ext_getElem?;intro j;by_cases hj:j<m
 ·by_cases hij:i=j
  ·subst hij;rw [List.getElem?_set_self (by rw [a4q];exact h),a5K _ h,a0g]
  rw [List.getElem?_set_ne hij,a5K _ hj,a5K _ hj,a0c _ _ _ (fun h=>hij h.symm)]
 rw [List.getElem?_eq_none (by rw [List.length_set,a4q];omega),List.getElem?_eq_none (by rw [a4q];omega)]
theorem b4O (m:Nat):Ar.std.rep (m:Int) (.list 1 [])=eRd (fun _=>[]) m:=by
 show List.replicate ((m:Int)).toNat _=_;apply List.ext_getElem?;intro j;rw [Int.toNat_natCast];by_cases hj:j<m
 ·rw [a5K _ hj,List.getElem?_replicate,if_pos hj];rfl
 rw [List.getElem?_eq_none (by simp;omega),List.getElem?_eq_none (by rw [a4q];omega)]
theorem b5A (f:Nat->Nat) (m:Nat):(eF f m).length=m:=by simp [eF]
theorem c0B (f:Nat->Nat) {m i:Nat} (h:i<m):gc Ar.std (cI .i64) (eF f m) (Ar.std.nat (i:Int))=some (f i:Int):=by
 unfold gc;have:Ar.std.lget (eF f m) (Ar.std.nat (i:Int))=some (.int .i64 (f i:Int)):=a8B f h;rw [this];rfl
theorem b8w (f:Nat->Nat) {m i:Nat} (h:i<m) (v:Nat) {z:Int} (hz:z=v):Ar.std.lset (eF f m) (Ar.std.nat (i:Int)) (.int .i64 z)=eF (fup f i v) m:=by
 have:=c0e f h v hz;rw [show Ar.std.nat (Ar.std.zadd 0 (i:Int))=i from b6g (by simp)] at this;exact this
def c3 (x y z c:Int):Int:=if c=0 then x else if c=1 then y else z
theorem gc3 (x y z:Int) {c:Int} (h0:0<=c) (h2:c<=2):gc Ar.std (cI .i64) [.int .i64 x,.int .i64 y,.int .i64 z] (Ar.std.nat c)=some (c3 x y z c):=by
 rcases (show c=0\/c=1\/c=2 by omega) with rfl | rfl | rfl <;> rfl
theorem s3 (s:Sta) {c:Int} (h0:0<=c) (h2:c<=2):c3 (s 11) (s 12) (s 13) c=s (11+c.toNat):=by
 rcases (show c=0\/c=1\/c=2 by omega) with rfl | rfl | rfl <;> rfl
section
variable {P:Pg} (hv:VP P) {s:Sta} {n:Nat->Nat} {rd:Nat->List Int} (h:PR P s n rd)
include hv h
theorem b6M {t:Nat} (ht:t<P.length) (hi:n t<(thr P t).length) :
  M74 Ar.std (t:Int) (eP P) (s 11) (s 12) (s 13) (eF n P.length) (eRd rd P.length) =
   some (true,doS P s t (n t) 11,doS P s t (n t) 12,doS P s t (n t) 13,eF (fup n t (n t+1)) P.length,eRd (rd' P s n rd t) P.length):=by
 have hact:=hv.act t _ hi;have hget:=a2f hi;have hl7:=hv.l7 t;have hrl:=PR.len hv h t;have hnum:(aAt (thr P t) (n t)).1=1->num P t (n t)<8:=b2D hv h.sp.k.wf ht hi;have e1:Ar.std.wrp .i64 (Ar.std.zadd ((n t:Nat):Int) 1)=((n t+1:Nat):Int):=by simp only [a0h,a0k];exact a1D (n:=10) (by omega) (by omega)
 have z1:Ar.std.zle 0 (t:Int)=true:=by simp
 have z2:Ar.std.zlt (t:Int) (Ar.std.len (eF n P.length))=true:=by rw [show Ar.std.len (eF n P.length)=((eF n P.length).length:Int) from rfl,b5A];simp;omega
 have z3:Ar.std.zlt (t:Int) (Ar.std.len (eRd rd P.length))=true:=by rw [show Ar.std.len (eRd rd P.length)=((eRd rd P.length).length:Int) from rfl,a4q];simp;omega
 unfold M74;refine bck z1 (bck z2 (bt (c0B n ht) (bt (a2d (a0J ht)) ?_)));refine cnF (by simp;omega) ?_;refine bck z1 (bck z2 (bt (a0I hget) ?_));rw [e1,b8w n ht _ rfl];unfold rd' doS;generalize aAt (thr P t) (n t)=a at hact hnum;obtain ⟨d,c,v⟩:=a;dsimp only;refine bck z1 (bck z2 (bck z1 (bck z2 ?_)));have lo : ∀ u i j,u<3->11<=j->j<14->dS s u i j=s j:=fun u i j h1 h2 h3=>by unfold dS;rw [a0c _ _ _ (by omega)]
 have ht3:=lt3 hv ht;rcases a2v hact with ⟨h1,c0,c2,h0⟩ | ⟨h1,c0,c2,v0,v3⟩ | hf
 ·simp only at h1 c0 c2;subst h1;have hn8 : ∀ j,11<=j->j<14->3+num P t (n t)≠j:=fun j h2 h3=>by have:=hnum rfl;omega
  ·refine bt (v:=eRd (fup rd t (rd t++[s (11+c.toNat)])) P.length) (cnT rfl ?_) (bt (v:=(s 11,s 12,s 13)) (cnF rfl rfl) ?_)
   ·have ea:ap Ar.std [] (a0n (rd t))=some (a0n (rd t)):=by rw [a5q (by simp;omega)];rfl
    have eb:ap Ar.std (a0n (rd t)) [D.int .i64 (s (11+c.toNat))]=some (a0n (rd t++[s (11+c.toNat)])):=by
     rw [a5q (by simp;omega)];simp [enc];rfl
    refine bck z1 (bck z3 (bt (gcR rd ht) (bt ea (bck (by simpa using c0) (bck (by simp;omega) (bt (gc3 _ _ _ c0 c2) ?_))))));rw [s3 s c0 c2];refine bt eb (bck z1 (bck z3 ?_));rw [c0i rd ht]
   rw [if_pos rfl,if_pos rfl];rw [a0c _ _ _ (fun e=>hn8 11 (by omega) (by omega) e.symm),a0c _ _ _ (fun e=>hn8 12 (by omega) (by omega) e.symm),a0c _ _ _ (fun e=>hn8 13 (by omega) (by omega) e.symm),lo t _ 11 ht3 (by omega) (by omega),lo t _ 12 ht3 (by omega) (by omega),lo t _ 13 ht3 (by omega) (by omega)]
 ·simp only at h1 c0 c2 v0 v3;subst h1;have k1 : ¬ ((2:Int)=1):=by decide
  have hF : ∀ j,11<=j->j<14->fup (dS s t (n t)) (11+c.toNat) v j=if j=11+c.toNat then v else s j:=fun j h2 h3=>by
   by_cases hj:j=11+c.toNat
   ·rw [if_pos hj,hj];exact a0g _ _ _
   rw [if_neg hj,a0c _ _ _ hj,lo t _ j ht3 h2 h3]
  refine bt (v:=eRd rd P.length) (cnF rfl rfl) (bt (v:=(fup (dS s t (n t)) (11+c.toNat) v 11,fup (dS s t (n t)) (11+c.toNat) v 12,fup (dS s t (n t)) (11+c.toNat) v 13)) (cnT rfl (bck (by simpa using c0) (bck (by simp;omega) ?_))) ?_)
  ·rw [hF 11 (by omega) (by omega),hF 12 (by omega) (by omega),hF 13 (by omega) (by omega)];simp only [a1N];rcases (show c=0\/c=1\/c=2 by omega) with rfl | rfl | rfl <;> rfl
  rw [if_neg k1,if_neg k1,if_pos (rfl:(2:Int)=2)]
 rw [Prod.mk.injEq,Prod.mk.injEq] at hf;obtain ⟨rfl,rfl,rfl⟩:=hf;refine bt (v:=eRd rd P.length) (cnF rfl rfl) (bt (v:=(s 11,s 12,s 13)) (cnF rfl rfl) ?_);have k1 : ¬ ((3:Int)=1):=by decide
 have k2 : ¬ ((3:Int)=2):=by decide
 rw [if_neg k1,if_neg k1,if_neg k2,lo t _ 11 ht3 (by omega) (by omega),lo t _ 12 ht3 (by omega) (by omega),lo t _ 13 ht3 (by omega) (by omega)]
end
theorem b8x {P:Pg} {n:Nat->Nat} {rd:Nat->List Int} {t:Nat} (ht:t<P.length) (hi : ¬ n t<(thr P t).length) (x y z:Int) :
  M74 Ar.std (t:Int) (eP P) x y z (eF n P.length) (eRd rd P.length)=some (false,x,y,z,eF n P.length,eRd rd P.length):=by
 have z1:Ar.std.zle 0 (t:Int)=true:=by simp
 have z2:Ar.std.zlt (t:Int) (Ar.std.len (eF n P.length))=true:=by rw [show Ar.std.len (eF n P.length)=((eF n P.length).length:Int) from rfl,b5A];simp;omega
 unfold M74;exact bck z1 (bck z2 (bt (c0B n ht) (bt (a2d (a0J ht)) (cnT (by simp;omega) rfl))))
theorem b1f {P:Pg} (hv:VP P):Ar.std.wrp .i64 (Ar.std.zsub (Ar.std.len (eP P)) 1)=((P.length-1:Nat):Int):=by
 have hn3:=hv.n3;have hn1:=hv.n1;have el:Ar.std.len (eP P)=(P.length:Int):=by simp
 simp only [el,a0h,a0P];rw [a2P _ (by omega) (by omega)];omega
theorem runs {P:Pg} (hv:VP P) {S:List Int} (hS:S.length<=1000) : ∀ (k i:Nat) {s:Sta} {n:Nat->Nat} {rd:Nat->List Int},i+k=S.length->PR P s n rd ->
  (∃ W s' n' rd2,S.drop i=iW W/\run P s W=some s'/\PR P s' n' rd2/\iter (a4E Ar.std (eP P) (a0n S)) ((i:Int),eS s)=some (.inl (eS s')) /\
   iter (a6t Ar.std (eP P) (a0n S) (eP P)) ((i:Int),s 11,s 12,s 13,eF n P.length,eRd rd P.length)=some (.inl (s' 11,s' 12,s' 13,eF n' P.length,eRd rd2 P.length))) \/
  ((∃ l,iter (a4E Ar.std (eP P) (a0n S)) ((i:Int),eS s)=some (.inr l))/\iter (a6t Ar.std (eP P) (a0n S) (eP P)) ((i:Int),s 11,s 12,s 13,eF n P.length,eRd rd P.length)=some (.inr ())):=by
 have hn3:=hv.n3;have hn1:=hv.n1;intro k
 induction k with
 | zero =>
   intro i s n rd hi h;refine .inl ⟨[],s,n,rd,by rw [List.drop_eq_nil_of_le (by omega)];rfl,rfl,h,a0w ?_,a0w ?_⟩
   ·unfold a4E;exact cnF (by simp;omega) rfl
   unfold a6t;exact cnF (by simp;omega) rfl
 | succ k ih =>
   intro i s n rd hi h;have hil:i<S.length:=by omega
   rw [List.drop_eq_getElem_cons hil];have hget:=zp1 hil;generalize S[i]=z at hget;by_cases hz:0<=z/\z<P.length
   ·obtain ⟨t,rfl⟩:=zp9 hz.1;have ht:t<P.length:=by omega
    have ht3:=lt3 hv ht;have e:=SP.nxe hv h.sp ht3;have eb:btw 0 (t:Int) ((P.length-1:Nat):Int)=true:=by
     unfold btw;simp;omega
    by_cases hc:n t<(thr P t).length
    ·have hs:=PR.step hv h ht hc;have ew:Ar.std.wrp .i64 (Ar.std.zadd (i:Int) 1)=((i+1:Nat):Int):=by simp only [a0h,a0k];exact a1D (n:=10000) (by omega) (by omega)
     have hst:a4E Ar.std (eP P) (a0n S) ((i:Int),eS s)=some (.inl (((i+1:Nat):Int),eS (doS P s t (n t)))):=by
      unfold a4E;dsimp only;refine cnT (by simp;omega) (bt (a0I hget) (bt (v:=false) ?_ (cnF rfl ?_)))
      ·rw [b1f hv];refine bt (a5u _ _ _) ?_;rw [eb];refine cnT rfl (bt (gaS s (by simp)) (bt (a3s hv h.sp.k.wf ht3) (bt (a2d (a0J ht)) ?_)));rw [e];simp;omega
      rw [ew];refine bt (gaS s (by simp)) (bt (a3s hv h.sp.k.wf ht3) ?_);rw [e];refine bt (a4z hv h.sp.k.wf ht hc) (bck (by rw [a3M];rfl) (bck (by rw [a3M];rfl) ?_));rw [b0V _ _ (a2u s) (by simp)]
     have hst2:a6t Ar.std (eP P) (a0n S) (eP P) ((i:Int),s 11,s 12,s 13,eF n P.length,eRd rd P.length)=some (.inl (((i+1:Nat):Int),doS P s t (n t) 11,doS P s t (n t) 12,doS P s t (n t) 13,eF (fup n t (n t+1)) P.length,eRd (rd' P s n rd t) P.length)):=by
      unfold a6t;dsimp only;refine cnT (by simp;omega) (bt (v:=(false,doS P s t (n t) 11,doS P s t (n t) 12,doS P s t (n t) 13,eF (fup n t (n t+1)) P.length,eRd (rd' P s n rd t) P.length)) (bt (a0I hget) ?_) (cnF rfl ?_))
      ·rw [b1f hv];refine bt (a8o _ _ _) ?_;rw [eb];exact cnT rfl (bt (b6M hv h ht hc) rfl)
      rw [ew]
     rw [a0O hst,a0O hst2];rcases ih (i+1) (by omega) hs with ⟨W,s',n',rd2,h1,h2,h3,h4,h5⟩ | ⟨⟨l,h1⟩,h2⟩
     ·refine .inl ⟨t::W,s',n',rd2,by rw [h1];rfl,?_,h3,h4,h5⟩;rw [run,if_pos ⟨ht,by rw [e];exact hc⟩,e];exact h2
     exact .inr ⟨⟨l,h1⟩,h2⟩
    refine .inr ⟨⟨eS s,a0w ?_⟩,a0w ?_⟩
    ·unfold a4E;dsimp only;refine cnT (by simp;omega) (bt (a0I hget) (bt (v:=true) ?_ (cnT rfl rfl)));rw [b1f hv];refine bt (a5u _ _ _) ?_;rw [eb];refine cnT rfl (bt (gaS s (by simp)) (bt (a3s hv h.sp.k.wf ht3) (bt (a2d (a0J ht)) ?_)));rw [e];have:=h.sp.l t;simp;omega
    unfold a6t;dsimp only;refine cnT (by simp;omega) (bt (v:=(true,s 11,s 12,s 13,eF n P.length,eRd rd P.length)) (bt (a0I hget) ?_) (cnT rfl rfl));rw [b1f hv];refine bt (a8o _ _ _) ?_;rw [eb];exact cnT rfl (bt (b8x ht hc _ _ _) rfl)
   have eb:btw 0 z ((P.length-1:Nat):Int)=false:=by
    unfold btw;rw [Bool.and_eq_false_iff,decide_eq_false_iff_not,decide_eq_false_iff_not];omega
   refine .inr ⟨⟨eS s,a0w ?_⟩,a0w ?_⟩
   ·unfold a4E;dsimp only;refine cnT (by simp;omega) (bt (a0I hget) (bt (v:=true) ?_ (cnT rfl rfl)));rw [b1f hv];refine bt (a5u _ _ _) ?_;rw [eb];rfl
   unfold a6t;dsimp only;refine cnT (by simp;omega) (bt (v:=(true,s 11,s 12,s 13,eF n P.length,eRd rd P.length)) (bt (a0I hget) ?_) (cnT rfl rfl));rw [b1f hv];refine bt (a8o _ _ _) ?_;rw [eb];rfl
theorem b8y {P:Pg} (hv:VP P) {s:Sta} {n:Nat->Nat} {rd:Nat->List Int} (h:PR P s n rd) :
  M79 Ar.std (eP P) (s 11) (s 12) (s 13) (eF n P.length) (eRd rd P.length)=some (a0n ((List.range P.length).flatMap rd++[s 11,s 12,s 13])):=by
 have hn3:=hv.n3;have hlen : ∀ t,((List.range t).flatMap rd).length<=7*t:=by
  intro t
  induction t with
  | zero=>simp
  | succ t ih =>
    have:=PR.len hv h t;rw [List.range_succ,List.flatMap_append];simp only [List.length_append,List.flatMap_cons,List.flatMap_nil,List.append_nil];omega
 have k0:=a1o (step:=b0v Ar.std (eP P) (eRd rd P.length)) P.length (fun (_:Unit) (t:Nat)=>(a0n ((List.range t).flatMap rd),(t:Int))) (fun _ _=>True) (fun _=>a0n ((List.range P.length).flatMap rd))
  (fun t _ ht _=>by
   refine ⟨(),trivial,?_⟩;unfold b0v;dsimp only;have h1:=hlen t;have h2:=PR.len hv h t;have ea:ap Ar.std (a0n ((List.range t).flatMap rd)) (a0n (rd t))=some (a0n ((List.range (t+1)).flatMap rd)):=by
    rw [a5q (by rw [a4i,a4i];omega),List.range_succ,List.flatMap_append];simp [enc]
   have e1:Ar.std.wrp .i64 (Ar.std.zadd (t:Int) 1)=((t+1:Nat):Int):=by simp only [a0h,a0k];exact a1D (n:=10) (by omega) (by omega)
   refine cnT (by simp;omega) (bck (by simp) (bck (by rw [show Ar.std.len (eRd rd P.length)=((eRd rd P.length).length:Int) from rfl,a4q];simp;omega) (bt (gcR rd ht) (bt ea ?_))));rw [e1])
  (fun _ _=>by
   unfold b0v;exact cnF (by simp) rfl) () trivial
 obtain ⟨_,_,k0⟩:=k0;have k0':iter (b0v Ar.std (eP P) (eRd rd P.length)) ([],0)=some (a0n ((List.range P.length).flatMap rd)):=k0;have hall:=hlen P.length;generalize (List.range P.length).flatMap rd=R at k0' hall;have st : ∀ (c:Nat) (l:List Int) (v:Int),c<3->l.length<=100->c3 (s 11) (s 12) (s 13) c=v->b0w Ar.std (s 11) (s 12) (s 13) (a0n l,(c:Int))=some (.inl (a0n (l++[v]),((c+1:Nat):Int))):=by
  intro c l v hc hl hcv;unfold b0w;dsimp only;have e1:Ar.std.wrp .i64 (Ar.std.zadd (c:Int) 1)=((c+1:Nat):Int):=by simp only [a0h,a0k];exact a1D (n:=10) (by omega) (by omega)
  have ea:ap Ar.std (a0n l) [D.int .i64 v]=some (a0n (l++[v])):=by
   rw [a5q (by simp;omega)];simp [enc];rfl
  refine cnT (by simp;omega) (bck (by simp) (bck (by simp;omega) (bt (gc3 _ _ _ (by omega) (by omega)) ?_)));rw [hcv];refine bt ea ?_;rw [e1]
 have k1:iter (b0w Ar.std (s 11) (s 12) (s 13)) (a0n R,0)=some (a0n (R++[s 11,s 12,s 13])):=by
  have a0:=st 0 R (s 11) (by omega) (by omega) rfl;have a1:=st 1 (R++[s 11]) (s 12) (by omega) (by simp;omega) rfl;have a2:=st 2 (R++[s 11]++[s 12]) (s 13) (by omega) (by simp;omega) rfl;refine (a0O a0).trans ((a0O a1).trans ((a0O a2).trans (a0w ?_)));unfold b0w;refine cnF (by simp) ?_;simp
 unfold M79;exact bt k0' (bt k1 rfl)
theorem PR.out {P:Pg} (hv:VP P) {s:Sta} {n:Nat->Nat} {rd:Nat->List Int} (h:PR P s n rd) (ho:a2w P s=true):(List.range P.length).flatMap rd++[s 11,s 12,s 13]=a3l P s:=by
 rw [<-a4m];unfold b3D;have h1:=(SP.over hv h.sp).1 ho;congr 1;refine a4x fun t ht => ?_;have ht:=List.mem_range.1 ht;rw [h.rd t,h1 t ht,List.take_length]
theorem a7j {P:Pg} (hv:VP P):iter (a8K Ar.std (eP P)) (0,0)=some (und P (fun _=>0):Int):=by
 have hn3:=hv.n3;have hn1:=hv.n1;have hsum : ∀ t,((List.range t).map (lens P)).sum<=7*t:=by
  intro t
  induction t with
  | zero=>simp
  | succ t ih =>
    have:=hv.l7 t;rw [List.range_succ,List.map_append,List.sum_append];simp only [List.map_cons,List.map_nil,List.sum_cons,List.sum_nil,lens] at ih ⊢;omega
 have key:=a1o (step:=a8K Ar.std (eP P)) P.length (fun (_:Unit) (t:Nat)=>((((List.range t).map (lens P)).sum:Int),(t:Int))) (fun _ _=>True)
  (fun _=>(((List.range P.length).map (lens P)).sum:Int))
  (fun t _ ht _=>by
   refine ⟨(),trivial,?_⟩;unfold a8K;dsimp only;have hs:=hsum t;have hl:lens P t<=7:=hv.l7 t;have el:Ar.std.len (eT (thr P t))=((lens P t:Nat):Int):=by simp [lens]
   have e1:Ar.std.wrp .i64 (Ar.std.zadd (t:Int) 1)=((t+1:Nat):Int):=by simp only [a0h,a0k];exact a1D (n:=10) (by omega) (by omega)
   have e2:Ar.std.wrp .i64 (Ar.std.zadd ((((List.range t).map (lens P)).sum:Nat):Int) ((lens P t:Nat):Int))=((((List.range (t+1)).map (lens P)).sum:Nat):Int):=by
    simp only [a0h,a0k];rw [a2P _ (by omega) (by omega),List.range_succ,List.map_append,List.sum_append];simp
   refine cnT (by simp;omega) (bt (a2d (a0J ht)) ?_);rw [el,e1,e2])
  (fun _ _=>by
   unfold a8K;exact cnF (by simp) rfl) () trivial
 obtain ⟨_,_,h⟩:=key;refine (show iter (a8K Ar.std (eP P)) (0,0)=_ from h).trans ?_;have hz : ∀ t,P.length<=t->(thr P t).length=0:=fun t ht=>by rw [a1H ht];rfl
 unfold und;simp only [Nat.sub_zero];have r1:((List.range 1).map (lens P)).sum=(thr P 0).length:=by simp [List.range_succ,lens]
 have r2:((List.range 2).map (lens P)).sum=(thr P 0).length+(thr P 1).length:=by simp [List.range_succ,lens]
 have r3:((List.range 3).map (lens P)).sum=(thr P 0).length+(thr P 1).length+(thr P 2).length:=by simp [List.range_succ,lens];omega
 congr 2;rcases (show P.length=1\/P.length=2\/P.length=3 by omega) with hl | hl | hl
 ·have:=hz 1 (by omega);have:=hz 2 (by omega);rw [hl,r1];omega
 ·have:=hz 2 (by omega);rw [hl,r2];omega
 rw [hl,r3]
theorem b3x {P:Pg} (hv:VP P):M71 Ar.std (eP P)=some (eP P,eF (fun _=>0) P.length,eRd (fun _=>[]) P.length):=by
 have hn3:=hv.n3;have el:Ar.std.len (eP P)=(P.length:Int):=by simp
 have efit:Ar.std.fits (Ar.std.len (eP P))=true:=by
  rw [el,a9S,decide_eq_true_eq];omega
 have ezle:Ar.std.zle 0 (Ar.std.len (eP P))=true:=by
  rw [el,a4h,decide_eq_true_eq];omega
 have ezeq:Ar.std.zeq (Ar.std.len (eP P)) (Ar.std.len (eP P))=true:=by rw [a1N,decide_eq_true_eq]
 unfold M71;refine bck ezeq (bck ezle (bck efit (bck ezeq (bck ezle (bck efit ?_)))));rw [el,b6I,b4O]
theorem b4P {P:Pg} (hP:a3a P) {S:List Int} (hS:S.length<=100) : ∃ o e,M33 Ar.std (eP P) (a0n S)=some (a0n o,e)/\M34 Ar.std (eP P) (a0n S)=some (a0n o,e)/\SmL o:=by
 have smn:SmL []:=⟨by simp,fun y hy=>by cases hy⟩;cases hp:a3r P with
 | false =>
   have e1:=a5v hP;have e2:=b0i hP;rw [hp] at e1 e2;exact ⟨[],40,by unfold M33;exact bt e1 rfl,by unfold M34;exact bt e2 rfl,smn⟩
 | true =>
   have e1:=a5v hP;have e2:=b0i hP;rw [hp] at e1 e2;have hv:=VP.of hp;have hT:und P (fun _=>0)<=21:=by
    have:=hv.l7 0;have:=hv.l7 1;have:=hv.l7 2;unfold und;omega
   have e0:eS s0=eS s0:=rfl;rcases runs hv (S:=S) (by omega) S.length 0 (by omega) (PR.init P) with ⟨W,s',n',rd2,h1,h2,h3,h4,h5⟩ | ⟨⟨l,h4⟩,h5⟩
   ·obtain ⟨n'',g1,g2⟩:=a9r hv (SP.init P) h2;have hwl:W.length=S.length:=by
     have:=congrArg List.length h1;simpa using this.symm
    have hov:=a7i hv g1;by_cases hlen:S.length=und P (fun _=>0)
    ·have ho:a2w P s'=true:=hov.2 (by omega);have e77:=a6k hv h3.sp.k.wf;rw [ho] at e77;have hout:=PR.out hv h3 ho;have hvals:=a3P (P:=P) (s:=s') hv h3.sp.k.wf;have h8:=a4C hv h3.sp.k.wf;refine ⟨a3l P s',0,?_,?_,⟨by unfold a3l;simp;omega,fun y hy=>by have:=hvals y hy;omega⟩⟩
     ·unfold M33;refine bt e1 (cnT rfl (bt h4 ?_));rw [Sum.elim_inl];exact bt (gaS s' (by simp)) (bt e77 (cnT rfl (bt (b0a hv h3.sp.k.wf) rfl)))
     unfold M34;refine bt e2 (cnT rfl (bt (b3x hv) (bt (a7j hv) (cnT (by simp;omega) (bt h5 ?_)))));rw [Sum.elim_inl];refine bt (b8y hv h3) ?_;rw [hout]
    have ho:a2w P s'=false:=by
     rw [Bool.eq_false_iff];intro hh;have:=hov.1 hh;omega
    have e77:=a6k hv h3.sp.k.wf;rw [ho] at e77;refine ⟨[],2,?_,?_,smn⟩
    ·unfold M33;refine bt e1 (cnT rfl (bt h4 ?_));rw [Sum.elim_inl];exact bt (gaS s' (by simp)) (bt e77 (cnF rfl rfl))
    unfold M34;exact bt e2 (cnT rfl (bt (b3x hv) (bt (a7j hv) (cnF (by simp;omega) rfl))))
   refine ⟨[],2,?_,?_,smn⟩
   ·unfold M33;exact bt e1 (cnT rfl (bt h4 rfl))
   unfold M34;refine bt e2 (cnT rfl (bt (b3x hv) (bt (a7j hv) ?_)));by_cases hlen:S.length=und P (fun _=>0)
   ·exact cnT (by simp;omega) (bt h5 rfl)
   exact cnF (by simp;omega) rfl
theorem a9x (a:Ac):b5D Ar.std a.1 a.2.1 a.2.2=some (!wk a):=rfl
def kw (l:List Ac):List Ac:=l.filter wk
theorem a9y {l:List Ac} {i:Nat} {x:Ac} (h:l[i]?=some x):kw (l.take (i+1))=bif wk x then kw (l.take i)++[x] else kw (l.take i):=by
 unfold kw;rw [a0l h,List.filter_append];cases hd:wk x <;> simp [hd]
theorem b8z (l:List Ac) (i:Nat):(kw (l.take i)).length<=i:=by
 unfold kw;have:=List.length_filter_le wk (l.take i);have h2:(l.take i).length<=i:=by simp;omega
 omega
theorem b8A (l:List Ac) {n:Nat} (h:n<=l.length):fz Ar.std (eT l) 0 (n:Int)=some (eT (l.take n)):=by
 unfold fz;have hz:Ar.std.zle (Ar.std.zadd 0 (n:Int)) (Ar.std.len (eT l))=true:=by simp;omega
 rw [hz,cond_true];simp only [a0k,b2s,Int.zero_add,Int.toNat_zero,List.drop_zero,Nat.sub_zero,Int.toNat_natCast];unfold eT enc;rw [<-List.map_take]
theorem b6N {l:List Ac} (hl:l.length<=1000000) :
  ∃ l':List Ac,b7g Ar.std 0 (l.length:Int) (eT l)=some (0,((kw l).length:Int),eT l')/\l'.take (kw l).length=kw l/\(kw l).length<=l'.length:=by
 have ew : ∀ i:Nat,i<=1000000->Ar.std.wrp .i64 (Ar.std.zadd (i:Int) 1)=((i+1:Nat):Int):=fun i hi=>by
  simp only [a0h,a0k];exact a1D (n:=5000001) (by omega) (by omega)
 have ez : ∀ i:Nat,Ar.std.nat (Ar.std.zadd 0 (i:Int))=i:=fun i=>by simp
 have e0:b1u Ar.std 0 (l.length:Int) (eT l)=some ((l.findIdx? fun x => !wk x).elim (-1) (fun i=>(i:Int))):=by
  have key:=a5r (step:=a4T Ar.std 0 (l.length:Int) (eT l)) l (fun x => !wk x) (fun i=>Sum.inr (i:Int)) (Sum.inl ()) (fun i a ha hi=>by
   unfold a4T;refine cnT (by simp [hi]) (bc (bck (by simp [hi]) ?_));rw [ez];refine bt (gcT ha rfl) (bt (a9x a) ?_);rw [ew i (by omega)];cases wk a <;> rfl) (by
   unfold a4T;exact cnF (by simp) rfl)
  unfold b1u;refine bt key ?_;exact a5s _ _
 unfold b7g;have hself:kw (l.take l.length)=kw l:=by rw [List.take_length]
 cases hf:l.findIdx? fun x => !wk x with
 | none =>
   rw [hf] at e0;rw [List.findIdx?_eq_none_iff] at hf;have e:kw l=l:=by
    unfold kw;rw [List.filter_eq_self];intro x hx;have:=hf x hx;simpa using this
   rw [e];exact ⟨l,bt e0 (cnT (by simp) rfl),by rw [List.take_length],Nat.le_refl _⟩
 | some q =>
   rw [hf] at e0;obtain ⟨hq,hq1,hq2⟩:=List.findIdx?_eq_some_iff_getElem.1 hf;simp only [Option.elim_some] at e0;have hkq : ∀ i,i<=q->kw (l.take i)=l.take i:=by
    intro i
    induction i with
    | zero=>intro _;rfl
    | succ i ih =>
      intro hi;have hx:l[i]?=some l[i]:=zp1 (by omega);have h2:=hq2 i (by omega);have h3:wk l[i]=true:=by simpa using h2
      rw [a9y hx,ih (by omega),h3,cond_true,a0l hx]
   have hxq:l[q]?=some l[q]:=zp1 hq;have hkq1:kw (l.take (q+1))=l.take q:=by
    have h3:wk l[q]=false:=by simpa using hq1
    rw [a9y hxq,h3,cond_false,hkq q (Nat.le_refl _)]
   obtain ⟨⟨w,m⟩,⟨h1,h2,h3,h4,h5⟩,e⟩:=a1o (step:=a5Z Ar.std 0 (l.length:Int)) (l.length-q-1) (fun (s:Nat×List Ac) (i:Nat)=>((s.1:Int),((q+1+i:Nat):Int),eT s.2))
    (fun i s=>s.1=(kw (l.take (q+1+i))).length/\s.2.take s.1=kw (l.take (q+1+i))/\s.2.length=l.length/\(∀ j,q+1+i<=j->s.2[j]?=l[j]?)/\s.1<=q+i) (fun s=>((s.1:Int),eT s.2))
    (fun i s hi hR=>by
     obtain ⟨w,m⟩:=s;obtain ⟨g1,g2,g3,g4,g5⟩:=hR;simp only at g1 g2 g3 g4 g5;have hx:l[q+1+i]?=some l[q+1+i]:=zp1 (by omega);have mx:m[q+1+i]?=some l[q+1+i]:=by rw [g4 _ (Nat.le_refl _),hx]
     have hsucc:=a9y hx;rw [show q+1+i+1=q+1+(i+1) by omega] at hsucc;cases hd:wk l[q+1+i] with
     | false =>
       rw [hd,cond_false] at hsucc;refine ⟨(w,m),⟨by rw [hsucc];exact g1,by rw [hsucc];exact g2,g3,fun j hj=>g4 j (by omega),by simp only;omega⟩,?_⟩;unfold a5Z;dsimp only;rw [ez];refine cnT (by simp;omega) (bc (bck (by simp;omega) (bt (gcT mx rfl) (bt (a9x _) ?_))));rw [hd,ew (q+1+i) (by omega)];rfl
     | true =>
       rw [hd,cond_true] at hsucc;have htk:(m.set w l[q+1+i]).take (w+1)=kw (l.take (q+1+i))++[l[q+1+i]]:=by
        have:(m.set w l[q+1+i])[w]?=some l[q+1+i]:=List.getElem?_set_self (by omega);rw [a0l this,List.take_set_of_le (Nat.le_refl _),g2]
       refine ⟨(w+1,m.set w l[q+1+i]),⟨by rw [hsucc,List.length_append,<-g1];rfl,by rw [hsucc];exact htk,by simp only [List.length_set];exact g3,fun j hj => ?_,by simp only;omega⟩,?_⟩
       ·simp only;rw [List.getElem?_set_ne (by omega)];exact g4 j (by omega)
       unfold a5Z;dsimp only;rw [ez,ez];refine cnT (by simp;omega) (bc (bck (by simp;omega) (bt (gcT mx rfl) (bt (a9x _) ?_))));rw [hd,ew (q+1+i) (by omega)];refine bt (v:=(((w+1:Nat):Int),eT (m.set w l[q+1+i]))) ?_ rfl;have hmw:m[w]?=some m[w]:=zp1 (by omega);refine cnF rfl (bc (bck (by simp;omega) (bt (gcT hmw rfl) ?_)));rw [c0f m (i:=w) (by omega) _ rfl,ew w (by omega)])
    (fun s _=>by
     unfold a5Z;exact cnF (by simp;omega) rfl) (q,l) ⟨by rw [Nat.add_zero,hkq1,List.length_take];omega,by rw [Nat.add_zero,hkq1],rfl,fun _ _=>rfl,by simp⟩
   have hqn2:q+1+(l.length-q-1)=l.length:=by omega
   rw [hqn2,hself] at h1 h2;simp only at h1 h2 h3 h5 e;rw [<-h1];have hwn:w<=l.length:=by rw [h1,<-hself];exact b8z l l.length
   refine ⟨m.take w++List.replicate (l.length-w) (0,0,0)++m.drop l.length,?_,?_,?_⟩
   ·refine bt e0 (cnF (by simp) ?_);rw [ew q (by omega)];rw [Nat.add_zero] at e;refine bt e ?_;dsimp only;refine bc (bck (by simp;omega) (bc (bck (by simp;omega) (bc (bc (bck (by simp;omega) ?_))))));have hfl:Ar.std.fill (eT m) (Ar.std.zadd 0 (w:Int)) (Ar.std.zsub (l.length:Int) (w:Int)) (.agg [.int .i64 0,.int .i64 0,.int .i64 0])=eT (m.take w++List.replicate (l.length-w) (0,0,0)++m.drop l.length):=by
     have a1:Ar.std.zadd 0 (w:Int)=(w:Int):=by simp
     have a2:Ar.std.zsub (l.length:Int) (w:Int)=((l.length-w:Nat):Int):=by simp;omega
     rw [a1,a2,a6Q];unfold a1a eT enc;rw [Int.toNat_natCast,Int.toNat_natCast,List.map_append,List.map_append,List.map_take,List.map_drop,List.map_replicate,show w+(l.length-w)=l.length by omega];rfl
    rw [hfl];simp
   ·have hml:w<=m.length:=by omega
    rw [List.append_assoc,List.take_append_of_le_length (by simp;omega),List.take_take,Nat.min_self];exact h2
   simp;omega
theorem b8B {l:List Ac} (hl:l.length<=1000000):M90 Ar.std (eT l)=some (eT (kw l)):=by
 unfold M90;refine bt (b8r hl) ?_;by_cases h0:0<l.length
 ·obtain ⟨l',h1,h2,h3⟩:=b6N hl;have el:Ar.std.len (eT l)=(l.length:Int):=by simp
  refine cnT (by simp;omega) (bck (c0g l) ?_);rw [el];refine bt h1 (bt (b8A l' h3) ?_);rw [h2]
 obtain rfl:l=[]:=List.length_eq_zero_iff.1 (by omega);refine cnF (by simp) (bt (v:=[]) ?_ rfl);unfold b3H;refine bt (v := -1) ?_ (cnT rfl rfl);unfold b3G;refine bt (v := .inl ()) (a0w ?_) rfl;unfold a8L;exact cnF (by simp) rfl
theorem b0n : ∀ (l:List Ac) (a:Ac),sep (l++[a])=if l=[] then [a] else sep l++[fnc,a]
 | [],a=>rfl
 | [b],a=>rfl
 | b::c::l,a=>by
   have:=b0n (c::l) a;rw [if_neg (by simp)] at this;rw [if_neg (by simp),List.cons_append,List.cons_append,sep,<-List.cons_append,this,sep];rfl
theorem b8C {l:List Ac} (hl:l.length<=1000000):M89 Ar.std (eT l)=some (eT (sep (l.filter wk))):=by
 unfold M89;refine bt (b8B hl) ?_;have hk:(kw l).length<=1000000:=Nat.le_trans (List.length_filter_le ..) hl;change (iter (a8M Ar.std (eT (kw l))) ([],0)).bind _=some (eT (sep (kw l)));generalize kw l=r at hk;have key:=a1o (step:=a8M Ar.std (eT r)) r.length (fun (_:Unit) (i:Nat)=>(eT (sep (r.take i)),(i:Int))) (fun _ _=>True) (fun _=>eT (sep r))
  (fun i _ hi _=>by
   refine ⟨(),trivial,?_⟩;unfold a8M;dsimp only;have hx:=zp1 hi;have ew:Ar.std.wrp .i64 (Ar.std.zadd (i:Int) 1)=((i+1:Nat):Int):=by simp only [a0h,a0k];exact a1D (n:=5000001) (by omega) (by omega)
   have hl1:=a9v (r.take i);rw [List.length_take,Nat.min_eq_left (Nat.le_of_lt hi)] at hl1;have hs:=b0n (r.take i) r[i];rw [<-a0l hx] at hs;have ap1 : ∀ (m:List Ac) (x:Ac),m.length<=4000000->ap Ar.std (eT m) [D.agg [.int .i64 x.1,.int .i64 x.2.1,.int .i64 x.2.2]]=some (eT (m++[x])):=fun m x hm=>by
    rw [a5q (by rw [a4i];simp;omega)];unfold eT enc;rw [List.map_append];rfl
   refine cnT (by simp;omega) (bt (a0I hx) (bt (v:=eT (if i=0 then sep (r.take i) else sep (r.take i)++[fnc])) ?_ ?_))
   ·by_cases h0:i=0
    ·subst h0;rw [if_pos rfl];exact cnF (by simp) rfl
    rw [if_neg h0];exact cnT (by simp;omega) (bt (ap1 _ fnc (by omega)) rfl)
   have hle:(if i=0 then sep (r.take i) else sep (r.take i)++[fnc]).length<=4000000:=by
    split
    ·omega
    rw [List.length_append,hl1];simp;omega
   refine bt (ap1 _ r[i] hle) ?_;rw [ew,hs];by_cases h0:i=0
   ·subst h0;rw [if_pos rfl,if_pos (by simp)]
    rfl
   have hne : ¬ r.take i=[]:=fun e=>by
    have:=congrArg List.length e;rw [List.length_take,Nat.min_eq_left (Nat.le_of_lt hi)] at this;exact h0 this
   rw [if_neg h0,if_neg hne];simp)
  (fun _ _=>by
   unfold a8M;refine cnF (by simp) ?_;rw [List.take_length]) () trivial
 obtain ⟨_,_,h⟩:=key;exact bt (show iter (a8M Ar.std (eT r)) ([],0)=_ from h) rfl
theorem b8D {P:Pg} (hv:VP P):M45 Ar.std (eP P)=some (eP (allF P),0):=by
 have hn3:=hv.n3;have e:=a5v (VP.short hv);rw [VP.to hv] at e;have el:Ar.std.len (eP P)=(P.length:Int):=by simp
 have key:=a1o (step:=a6a Ar.std (eP P)) P.length (fun (_:Unit) (i:Nat)=>((i:Int),eP ((allF P).take i))) (fun _ _=>True) (fun _=>eP (allF P))
  (fun i _ hi _=>by
   refine ⟨(),trivial,?_⟩;unfold a6a;dsimp only;have hr:(allF P)[i]?=some (sep ((thr P i).filter wk)):=by unfold allF;rw [List.getElem?_map,a0J hi];rfl
   have hl7:=hv.l7 i;have ea:ap Ar.std (eP ((allF P).take i)) [D.list 3 (eT (sep ((thr P i).filter wk)))]=some (eP ((allF P).take (i+1))):=by
    rw [a5q (by simp;omega),a0l hr];unfold eP enc;rw [List.map_append,List.map_append];rfl
   refine cnT (by simp;omega) (bt (a2d (a0J hi)) (bt (b8C (by omega)) (bt ea ?_)));simp only [a0h,a0k];rw [a2P _ (by omega) (by omega)];rfl)
  (fun _ _=>by
   unfold a6a;dsimp only;refine cnF (by simp) ?_;rw [List.take_of_length_le (by unfold allF;simp)]) () trivial
 obtain ⟨_,_,h⟩:=key;have ezle:Ar.std.zle 0 (Ar.std.len (eP P))=true:=by rw [el,a4h,decide_eq_true_eq];omega
 have efit:Ar.std.fits (Ar.std.len (eP P))=true:=by rw [el,a9S,decide_eq_true_eq];omega
 unfold M45 b8K;exact bt (bt e (cnT rfl (bck ezle (bck rfl (bck efit (bt (show iter (a6a Ar.std (eP P)) (0,Ar.std.rep 0 (.list 3 []))=_ from h) rfl)))))) rfl
theorem IsO.up {k k':Nat} {P:Pg} {O O':List (List Int)} (h:IsO k P O) (h':IsO k' P O') (hc : ∀ o,Can k P o->Can k' P o):a2i O' O=[]:=by
 unfold a2i;rw [List.filter_eq_nil_iff];intro x hx;have:=(h'.mem x).2 (hc x ((h.mem x).1 hx));simp [this]
theorem b8E {P:Pg} (hv:VP P) {y z:Int} (hy:a1s y=true) (hz:a1s z=true) : ∃ O O',IsO y.toNat P O/\IsO z.toNat P O'/\M26 Ar.std (eP P) y z=some (a0V (a2i O' O),0):=by
 rcases b8f (VP.short hv) y z with ⟨h,_⟩ | ⟨_,h,_⟩ | ⟨_,_,_,h⟩
 ·rw [VP.to hv] at h;cases h
 ·rw [hy,hz] at h;cases h
 exact h
theorem a8C {k:Nat} (hK:Kind k) {P:Pg} {o:List Int} (h:Can 1 P o):Can k P o:=by
 rcases hK with rfl | rfl | rfl
 ·exact h
 ·exact h.strict
 exact h.strict.loose
theorem b4Q {O R:List (List Int)} (hO:O.length<=5000000) (hR:R.length<4294967296) (sO : ∀ x∈O,SmL x) (sR : ∀ x∈R,SmL x) (hs : ∀ x∈O,x∈R):iter (b0y Ar.std (a0V O) (a0V R)) 0=some (.inl ()):=by
 have:=a3K (step:=b0y Ar.std (a0V O) (a0V R)) O (fun _=>false) (.inr ()) (.inl ()) (fun i x hx hi=>by
  have hm:=List.mem_of_getElem? hx;have ew:Ar.std.wrp .i64 (Ar.std.zadd (i:Int) 1)=((i+1:Nat):Int):=by simp only [a0h,a0k];exact a1D (n:=5000001) (by omega) (by omega)
  unfold b0y;refine cnT (by simp [hi]) (bt (a3w hx) (bt (b8g hR sR (sO x hm)) ?_));rw [decide_eq_true (hs x hm),ew];rfl) (by
  unfold b0y;exact cnF (by simp) rfl)
 rw [this];have:(O.any fun _=>false)=false:=by simp
 rw [this];rfl
theorem b4R {P:Pg} (hv:VP P) {O:List (List Int)} (hO:IsO 1 P O):iter (b0z Ar.std (eP P) (eP (allF P)) (a0V O)) 1=some (.inl ()):=by
 have va:VP (allF P):=VP.of (VP.allF (VP.to hv));have sO:=hO.sm (.inl rfl) hv;have lO:=hO.len;have step : ∀ k:Nat,1<=k->k<=3->b0z Ar.std (eP P) (eP (allF P)) (a0V O) (k:Int)=some (.inl ((k+1:Nat):Int)):=by
  intro k k1 k3;have hK:Kind k:=by unfold Kind;omega
  have kb:a1s (k:Int)=true:=by unfold a1s;simp;omega
  have ew:Ar.std.wrp .i64 (Ar.std.zadd (k:Int) 1)=((k+1:Nat):Int):=by simp only [a0h,a0k];exact a1D (n:=5000001) (by omega) (by omega)
  obtain ⟨R,hR,e1⟩:=b3o hv kb;obtain ⟨F,hF,e2⟩:=b3o va kb;rw [show ((k:Int)).toNat=k from rfl] at hR hF;have hFO:F=O:=by
   refine b2N hF.ss hO.ss fun x => ?_;rw [hF.mem,hO.mem];exact b4M (VP.to hv) hK
  subst hFO;have sR:=hR.sm hK hv;unfold b0z;refine cnT (by simp;omega) (bt e1 (bt e2 (bt (v:=false) ?_ (cnF rfl (bt (b4Q (by omega) (by have:=hR.len;omega) sO sR (fun x hx=>(hR.mem x).2 (a8C hK ((hO.mem x).1 hx)))) ?_)))))
  ·exact cnT rfl (cnT rfl (bt (b4H sO (by omega)) rfl))
  rw [Sum.elim_inl];unfold jn;by_cases h3:k<3
  ·have kb':a1s ((k+1:Nat):Int)=true:=by unfold a1s;simp;omega
   refine cnT (by simp;omega) ?_;rw [ew];obtain ⟨A,B,hA,hB,e3⟩:=b8E hv kb kb';have hup:a2i B A=[]:=hA.up hB (by
    rw [show ((k:Int)).toNat=k from rfl,show (((k+1:Nat):Int)).toNat=k+1 from rfl];intro o ho;rcases (show k=1\/k=2 by omega) with rfl | rfl
    ·exact ho.strict
    exact ho.loose)
   rw [hup] at e3;refine bt e3 (bt (v:=false) (cnT rfl rfl) (cnF rfl rfl))
  refine cnF (by simp;omega) ?_;rw [ew]
 refine (a0O (step 1 (by omega) (by omega))).trans ((a0O (step 2 (by omega) (by omega))).trans ((a0O (step 3 (by omega) (by omega))).trans (a0w ?_)));unfold b0z;exact cnF (by simp) rfl
theorem b8F (P:Pg) (hP:P.length<9223372036854775808) (hl : ∀ t∈P,t.length<9223372036854775808) (a b:Int) (ha:0<=a/\a<256):M16 Ar.std (eP P) a b=some true:=by
 obtain ⟨q,e,hq⟩:=b7M P hP hl;unfold M16;cases q with
 | true=>exact bt (v:=true) (bt e rfl) (cnT rfl (bt b0h rfl))
 | false =>
   have hS:=hq rfl;have e2:=b0i hS;cases hp:a3r P with
   | false =>
     rw [hp] at e2;exact bt (v:=true) (bt e (cnF rfl (bt e2 rfl))) (cnT rfl (bt b0h rfl))
   | true =>
     rw [hp] at e2;have hv:=VP.of hp;have va:=VP.allF hp;have e3:=b0i (VP.short (VP.of va));rw [va] at e3;obtain ⟨O,hO,e4⟩:=b3o hv (z:=1) rfl;have hne:=hO.ne (.inl rfl) hv;have hlen:=hO.len;have hpos:0<O.length:=List.length_pos_iff.2 hne;have el:Ar.std.len (a0V O)=(O.length:Int):=a6m O;obtain ⟨r,e5,hr⟩:=b8v hv;refine bt (v:=false) (bt e (cnF rfl (bt e2 rfl))) (cnF rfl (bt (b8D hv) (bt (v:=false) (cnT rfl (bt e3 rfl)) (cnF rfl (bt e4 (bt (v:=false) (cnT rfl ?_) (cnF rfl (bt (b4R hv hO) ?_))))))))
     ·rw [el];simp;omega
     rw [Sum.elim_inl];refine bnk (by rw [el];simp;omega) ?_;obtain ⟨n,rfl⟩:=zp9 ha.1;have ew:Ar.std.wrp .i64 (n:Int)=(n:Int):=by simp only [a0h];exact a2P _ (by omega) (by omega)
     have erem:Ar.std.rem (n:Int) (O.length:Int)=((n%O.length:Nat):Int):=rfl;rw [ew,el,erem];have hlt:=Nat.mod_lt n hpos;have hget:=zp1 hlt;have hm:=zp6 hlt;generalize O[n%O.length]=o at hget hm;have hc:=(hO.mem o).1 hm;have hgh:=hO.gh (.inl rfl) hv o hm;have hsm:=hO.sm (.inl rfl) hv o hm;obtain ⟨w,hF,e6⟩:=b8q hv hgh hc;have hwl:=b0m hv (SP.init P) hF.1;have hT:und P (fun _=>0)<=21:=by
      have:=hv.l7 0;have:=hv.l7 1;have:=hv.l7 2;unfold und;omega
     obtain ⟨o',z,r1,r2,_⟩:=b4P hS (S:=iW w) (by rw [List.length_map];omega);have e7:=b8o hv hF.1;rw [e7] at r1;have e8:M34 Ar.std (eP P) (a0n (iW w))=some (a0n o,0):=r2.trans r1.symm;refine bt (a3w hget) (bt e6 (cnT rfl (bt e8 (bt (v:=false) (cnT rfl (bt (b2W hsm.1 hsm.1 hsm.2 hsm.2) ?_)) (cnF rfl (bt e5 (bt (v:=true) (cnT rfl ?_) rfl)))))))
     ·rw [a7d.2.2 rfl];rfl
     cases r with
     | true=>exact cnT rfl (bt b0h rfl)
     | false =>
       have hn:a8z P:=by
        refine Classical.byContradiction fun h => ?_;have:=hr.2 h;cases this
       obtain ⟨o3,ho3⟩:=b0f (k:=3) (.inr (.inr rfl)) hv;have:=IsO.one (.inl rfl) hv hn hO ho3;refine cnF rfl (cnT ?_ (bt b0h rfl));rw [this];simp
end Go.Am
