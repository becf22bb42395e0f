import Derived.Test.YtlljehkmemajkaaAmCap
import Derived.TacticsIn
import Derived.RangeFuncLeaves
set_option linter.unusedSimpArgs false
set_option linter.unusedSectionVars false
set_option linter.unusedVariables false
namespace Go.Am
open Go
def lets (σ:St):Loc->Prop
 | .s t=>(σ.get t).free=true
 | .o i=>σ.heap[i]?=some .dead
 | .oc i j=>(∃ cs,σ.heap[i]?=some (.cells cs) /\ ∀ c,cs[j]?=some c->c.free=true) \/ ∃ k l t x,σ.heap[i]?=some (.jag k l (some (t,x)))/\j=t.toNat
 | _=>False
def Gh.gro (G:Gh) (N b cap len:Nat):Gh where
 K:=G.K
 O:=fun x=>if 0<cap/\x=b then some (.o N,0) else G.O x
 β:=fun r=>if r = .o N then b else if r = .o (N+1) then cap else if r = .o (N+2) then len else G.β r
 nh:=N+3
theorem Rel.toGro {G:Gh} {σ:St} {a:Act} {w w':World} (R:Rel G σ a w) {k:Nat} {l:List D} {cap b:Nat} {p:Option Addr} (hp:0<cap->p=some ⟨b,0,none⟩) (hu:a0m k l) (hl:l.length<=cap)
  (hsz:w.heap.size<=w'.heap.size) (hio:w'.os=w.os/\w'.output=w.output/\(∀ a,a.block<w.heap.size->w'.frozen? a=w.frozen? a)/\w'.tape=w.tape/\w.drawn<=w'.drawn)
  (hoth : ∀ b',b'<w.heap.size->(0<cap->b'≠b)->w'.heap[b']?=w.heap[b']?)
  (hb:0<cap->b<w'.heap.size/\(w.heap.size<=b \/ ∃ ℓ0,G.O b=some (ℓ0,0)/\lets σ ℓ0) /\ ∃ vs e,w'.heap[b]?=some (.cells vs e (0,0))/\cap*k<=vs.size /\
   (∀ j,j<(D.flat l).length->(vs.getD j Go.undef).oneCell'=true) /\ ∀ (j:Nat) (hj:j<(D.flat l).length),RepD G.K (D.flat l)[j] (vs.getD j Go.undef)) :
  Rel (G.gro σ.heap.length b cap l.length) { σ with heap:=σ.heap++[.gro k l,.dead,.dead] } a w'/\(∀ m,m<=G.nh->Ext m G w (G.gro σ.heap.length b cap l.length) w') /\
   ∀ ℓ,RepV (G.gro σ.heap.length b cap l.length) w' ℓ (.gref σ.heap.length k) (.slice p l.length cap):=by
 have hnh:=R.h.nh;generalize hN:σ.heap.length=N at hnh ⊢;let G':Gh:=G.gro N b cap l.length;show Rel G' _ a w'/\(∀ m,m<=G.nh->Ext m G w G' w') /\ ∀ ℓ,RepV G' w' ℓ _ _;have hb0:G'.β (.o N)=b:=by simp [G',Gh.gro]
 have hb1:G'.β (.o (N+1))=cap:=by simp [G',Gh.gro]
 have hb2:G'.β (.o (N+2))=l.length:=by simp [G',Gh.gro]
 have hβold : ∀ i,i<G.nh->G'.β (.o i)=G.β (.o i):=by
  intro i hi;simp only [G',Gh.gro,Root.o.injEq];rw [if_neg (by omega),if_neg (by omega),if_neg (by omega)]
 have hβs : ∀ t,G'.β (.s t)=G.β (.s t):=fun t=>by simp [G',Gh.gro]
 let S:Loc->Prop:=fun x=>0<cap -> ∀ f,G.O b≠some (x,f);have hOold : ∀ x b' f,S x->G.O b'=some (x,f)->G'.O b'=some (x,f)/\w'.heap[b']?=w.heap[b']?:=by
  intro x b' f hx h;have hne:0<cap->b'≠b:=by rintro hc rfl;exact hx hc f h
  refine ⟨?_,hoth b' (R.h.disj b' x f h).1 hne⟩;simp only [G',Gh.gro];rw [if_neg];exact h;rintro ⟨hc,rfl⟩;exact hne hc rfl
 have hpr:Pres G G' w w' S:=⟨KLe.refl _,fun b' x f hx h=>hOold x b' f hx h,hβold,by rw [<-hnh];simp [G',Gh.gro]⟩;have hno:Pres G G' w w' (· = .no):=hpr.no R.h.sane

 have own0 : ∀ x,¬ S x->0<cap/\lets σ x:=by
  intro x hx;rcases Nat.eq_zero_or_pos cap with hc | hc
  ·exact absurd (fun h=>absurd h (by omega)) hx
  refine ⟨hc,?_⟩;rcases (hb hc).2.1 with h | ⟨ℓ0,h,hl0⟩
  ·exact absurd (fun _ f hO=>by have:=(R.h.disj _ _ _ hO).1;omega) hx
  have:x=ℓ0:=Classical.byContradiction fun hne=>hx fun _ f hO=>by rw [h] at hO;simp at hO;exact hne hO.1.symm
  subst this;exact hl0
 have hS : ∀ x,¬ lets σ x->S x:=fun x hx=>Classical.byContradiction fun h=>hx (own0 x h).2;have hfreeV : ∀ {ℓ:Loc} {c:AV} {v:Value},RepV G w ℓ c v->c.free=true -> ∀ ℓ',RepV G' w' ℓ' c v:=by
  intro ℓ c v h hf ℓ';refine ((h.anywhere hf .no).pres R.h.sane hno rfl (fun r off e => ?_) (fun t e=>by cases e)).anywhere hf ℓ';subst e;simp [AV.free] at hf
 have hslot : ∀ t,RepV G' w' (.s t) (σ.get t) (a.tmps.getD t Go.undef):=by
  intro t;by_cases h:S (.s t)
  ·exact (R.slots t).pres R.h.sane hpr h (fun r off e=>hβs r) (fun t' e hbx=>⟨hβs t',fun j=>hS _ (by simp [lets])⟩)
  exact hfreeV (R.slots t) (own0 _ h).2 _
 have hobj : ∀ i ob,σ.heap[i]?=some ob->a1H G' w' i ob:=by
  intro i ob hob;have hi:i<G.nh:=by rw [<-hnh,<-hN];exact (zp2.1 hob).1
  by_cases h:S (.o i)
  ·by_cases h2 : ∀ j,S (.oc i j)
   ·exact (R.h.objs i ob hob).pres R.h.sane hi hpr h h2
   have h2' : ∃ j,¬ S (.oc i j):=Classical.byContradiction fun hh=>h2 fun j=>Classical.byContradiction fun hj=>hh ⟨j,hj⟩;obtain ⟨j0,hj0⟩:=h2';obtain ⟨hc,⟨cs,hcs,hcj⟩ | ⟨k1,l1,t1,x1,hcs,hjt⟩⟩:=own0 _ hj0
   case inr =>
    rw [hob] at hcs;injection hcs with hcs;subst hcs
    obtain ⟨g0,g1,g2,g3,go,g4⟩:=R.h.objs i _ hob;have hb1:=hβold (i+1) (by omega);have hb2:=hβold (i+2) g0;refine ⟨by simp only [G',Gh.gro];omega,by rw [hb2];exact g1,by rw [hb1];exact g2,g3,go,fun hcc => ?_⟩;rw [hb1] at hcc;obtain ⟨vs,e,h1,h3,h4,h5⟩:=g4 hcc;obtain ⟨h7,h8⟩:=hOold _ _ _ h h1;rw [<-hβold i hi] at h3 h7 h8;refine ⟨vs,e,h7,h8.trans h3,by rw [hb1];exact h4,fun j hj => ?_⟩;obtain ⟨l',hx⟩:=g3 _ (zp6 hj);by_cases hs:S (.oc i j)
    ·exact (h5 j hj).pres R.h.sane hpr hs (fun r off e=>absurd e (AV.not_place (a2a hx go).1 r off)) (fun t e=>by cases e)
    obtain ⟨_,⟨cs',hcs',_⟩ | ⟨k2,l2,t2,x2,hcs',hjt'⟩⟩:=own0 _ hs
    ·rw [hob] at hcs';cases hcs'
    rw [hob] at hcs';injection hcs' with hcs'
    injection hcs' with e1 e2 e3;injection e3 with e3;injection e3 with e3 e4
    subst e3 e4 hjt';have:=h5 _ hj;have e5:a2y k1 (some (t1,x1)) t1.toNat l1[t1.toNat]=x1:=by simp [a2y]
    rw [e5] at this ⊢;exact hfreeV this (go _ rfl).2 _
   rw [hob] at hcs;injection hcs with hcs;subst hcs
   obtain ⟨vs,e,h1,h3,h4,h5,h6⟩:=R.h.objs i _ hob;obtain ⟨h7,h8⟩:=hOold _ _ _ h h1;rw [<-hβold i hi] at h3 h7 h8;refine ⟨vs,e,h7,h8.trans h3,h4,fun j hj => ?_,h6⟩;by_cases hs:S (.oc i j)
   ·exact (h5 j hj).pres R.h.sane hpr hs (fun r off e=>absurd e (AV.not_place (AV.isLocal_of_isCell (h6 _ (zp6 hj))) r off)) (fun t e=>by cases e)
   obtain ⟨_,⟨cs',hcs',hcj'⟩ | ⟨k2,l2,t2,x2,hcs',_⟩⟩:=own0 _ hs
   case inr=>rw [hob] at hcs';cases hcs'
   rw [hob] at hcs';injection hcs' with hcs'
   injection hcs' with hcs';subst hcs'
   exact hfreeV (h5 j hj) (hcj' _ (zp1 hj)) _
  have:=(own0 _ h).2;simp only [lets] at this;rw [hob] at this;injection this with this;subst this;trivial
 have hdisj : ∀ b' ℓ f,G'.O b'=some (ℓ,f)->b'<w'.heap.size /\ ∀ j,f<=j->G'.K ⟨b',j,none⟩=none:=by
  intro b' ℓ f h;simp only [G',Gh.gro] at h;split at h
  ·rename_i hc;obtain ⟨hc,rfl⟩:=hc;obtain ⟨h1,h2,_⟩:=hb hc;refine ⟨h1,fun j _ => ?_⟩;show G.K _=none;rcases h2 with h2 | ⟨ℓ0,h2,_⟩
   ·cases hK:G.K ⟨b',j,none⟩ with
    | none=>rfl
    | some v=>have:=World.block_lt_of_cell? w _ (R.h.kept _ _ hK);simp at this;omega
   exact (R.h.disj _ _ _ h2).2 j (Nat.zero_le _)
  obtain ⟨h1,h2⟩:=R.h.disj b' ℓ f h;exact ⟨by omega,h2⟩
 have hkept : ∀ x v,G'.K x=some v->w'.cell? x=some v:=by
  intro x v h;have hx:=R.h.kept x v h;have hlt:=World.block_lt_of_cell? w _ hx;have hne:0<cap->x.block≠b:=by
   intro hc hxb;have hspot:=World.cell?_spot hx;obtain ⟨xb,j,s⟩:=x;simp at hspot hxb;subst hspot hxb;rcases (hb hc).2.1 with h2 | ⟨ℓ0,h2,_⟩
   ·simp at hlt;omega
   have:=(R.h.disj _ _ _ h2).2 j (Nat.zero_le _);have h':G.K ⟨xb,j,none⟩=some v:=h;rw [this] at h';cases h'
  unfold World.cell? at *
  rwa [hoth _ hlt hne]
 refine ⟨⟨⟨⟨fun b' x f h => ?_⟩,by simp [G',Gh.gro,hN],fun i ob hob => ?_,hkept,hdisj⟩,R.size,hslot,R.places,?_⟩,fun m hm => ?_,fun ℓ => ?_⟩
 ·simp only [G',Gh.gro] at h;split at h
  ·simp at h;rw [<-h.1];simp [Loc.root]
  exact R.h.sane.no b' x f h
 ·simp only at hob;rcases Nat.lt_or_ge i N with hi | hi
  ·rw [zp7 (by omega)] at hob;exact hobj i ob hob
  rw [zp8 (by omega),hN] at hob
  match hq:i-N,hob with
  | 0,hob =>
    obtain rfl:i=N:=by omega
    simp at hob;subst hob;show i+2<G'.nh/\_;refine ⟨by simp [G',Gh.gro],by rw [hb2],by rw [hb1];exact hl,hu,fun hc => ?_⟩;rw [hb1] at hc ⊢;obtain ⟨h1,h2,vs,e,h3,h4,h5,h6⟩:=hb hc;rw [hb0];exact ⟨vs,e,by simp only [G',Gh.gro];rw [if_pos ⟨hc,trivial⟩],h3,h4,h5,h6⟩
  | 1,hob=>simp at hob;subst hob;trivial
  | 2,hob=>simp at hob;subst hob;trivial
  | q+3,hob=>simp at hob
 ·refine ⟨R.df.1,fun x hx => ?_⟩;obtain ⟨r0,h1,h2,h3⟩:=R.df.2 x hx;obtain ⟨h4,h5⟩:=hOold _ _ _ (hS .df (by simp [lets])) h2;exact ⟨r0,h1,h4,h5.trans h3⟩
 ·refine ⟨KLe.refl _,fun x v h => .inl h,fun b' hb' h => ?_,hsz,fun i hi=>hβold i (by omega),hio⟩;have hne:0<cap->b'≠b:=by
   rintro hc rfl;rcases (hb hc).2.1 with h2 | ⟨ℓ0,h2,_⟩
   ·omega
   rw [h] at h2;cases h2
  refine ⟨hoth b' hb' hne,?_⟩;simp only [G',Gh.gro];rw [if_neg];exact h;rintro ⟨hc,rfl⟩;exact hne hc rfl
 have:=RepV.gref (G:=G') (w:=w') ℓ N k p (by simp [G',Gh.gro]) (by rw [hb1,hb2];exact hl) (by rw [hb1,hb0];exact hp)
 rwa [hb1,hb2] at this
def Gh.give (G:Gh) (b cap:Nat) (ℓ:Loc):Gh:={ G with O:=fun x=>if 0<cap/\x=b then some (ℓ,0) else G.O x }
theorem Rel.toLoc {G:Gh} {σ:St} {a:Act} {w w':World} (R:Rel G σ a w) (ℓ1:Loc) (hℓ:ℓ1.root ≠ .no) {k:Nat} {l:List D} {cap b:Nat} {p:Option Addr} (hp:0<cap->p=some ⟨b,0,none⟩) (hu:a0m k l) (hl:l.length<=cap)
  (hsz:w.heap.size<=w'.heap.size) (hio:w'.os=w.os/\w'.output=w.output/\(∀ a,a.block<w.heap.size->w'.frozen? a=w.frozen? a)/\w'.tape=w.tape/\w.drawn<=w'.drawn)
  (hoth : ∀ b',b'<w.heap.size->(0<cap->b'≠b)->w'.heap[b']?=w.heap[b']?)
  (hb:0<cap->b<w'.heap.size/\(w.heap.size<=b \/ ∃ ℓ0,G.O b=some (ℓ0,0)/\lets σ ℓ0) /\ ∃ vs e,w'.heap[b]?=some (.cells vs e (0,0))/\cap*k<=vs.size /\
   (∀ j,j<(D.flat l).length->(vs.getD j Go.undef).oneCell'=true) /\ ∀ (j:Nat) (hj:j<(D.flat l).length),RepD G.K (D.flat l)[j] (vs.getD j Go.undef)) :
  Rel (G.give b cap ℓ1) σ a w'/\(∀ m,m<=G.nh->Ext m G w (G.give b cap ℓ1) w')/\a4p (G.give b cap ℓ1) w' ℓ1 k l (.slice p l.length cap):=by
 have hnh:=R.h.nh;let G':Gh:=G.give b cap ℓ1;show Rel G' _ a w'/\(∀ m,m<=G.nh->Ext m G w G' w')/\a4p G' w' ℓ1 k l _;have hβold : ∀ i,i<G.nh->G'.β (.o i)=G.β (.o i):=fun _ _=>rfl;have hβs : ∀ t,G'.β (.s t)=G.β (.s t):=fun t=>rfl;let S:Loc->Prop:=fun x=>0<cap -> ∀ f,G.O b≠some (x,f);have hOold : ∀ x b' f,S x->G.O b'=some (x,f)->G'.O b'=some (x,f)/\w'.heap[b']?=w.heap[b']?:=by
  intro x b' f hx h;have hne:0<cap->b'≠b:=by rintro hc rfl;exact hx hc f h
  refine ⟨?_,hoth b' (R.h.disj b' x f h).1 hne⟩;simp only [G',Gh.give];rw [if_neg];exact h;rintro ⟨hc,rfl⟩;exact hne hc rfl
 have hpr:Pres G G' w w' S:=⟨KLe.refl _,fun b' x f hx h=>hOold x b' f hx h,hβold,Nat.le_refl _⟩;have hno:Pres G G' w w' (· = .no):=hpr.no R.h.sane;have own0 : ∀ x,¬ S x->0<cap/\lets σ x:=by
  intro x hx;rcases Nat.eq_zero_or_pos cap with hc | hc
  ·exact absurd (fun h=>absurd h (by omega)) hx
  refine ⟨hc,?_⟩;rcases (hb hc).2.1 with h | ⟨ℓ0,h,hl0⟩
  ·exact absurd (fun _ f hO=>by have:=(R.h.disj _ _ _ hO).1;omega) hx
  have:x=ℓ0:=Classical.byContradiction fun hne=>hx fun _ f hO=>by rw [h] at hO;simp at hO;exact hne hO.1.symm
  subst this;exact hl0
 have hS : ∀ x,¬ lets σ x->S x:=fun x hx=>Classical.byContradiction fun h=>hx (own0 x h).2;have hfreeV : ∀ {ℓ:Loc} {c:AV} {v:Value},RepV G w ℓ c v->c.free=true -> ∀ ℓ',RepV G' w' ℓ' c v:=by
  intro ℓ c v h hf ℓ';refine ((h.anywhere hf .no).pres R.h.sane hno rfl (fun r off e => ?_) (fun t e=>by cases e)).anywhere hf ℓ';subst e;simp [AV.free] at hf
 have hslot : ∀ t,RepV G' w' (.s t) (σ.get t) (a.tmps.getD t Go.undef):=by
  intro t;by_cases h:S (.s t)
  ·exact (R.slots t).pres R.h.sane hpr h (fun r off e=>hβs r) (fun t' e hbx=>⟨hβs t',fun j=>hS _ (by simp [lets])⟩)
  exact hfreeV (R.slots t) (own0 _ h).2 _
 have hobj : ∀ i ob,σ.heap[i]?=some ob->a1H G' w' i ob:=by
  intro i ob hob;have hi:i<G.nh:=by rw [<-hnh];exact (zp2.1 hob).1
  by_cases h:S (.o i)
  ·by_cases h2 : ∀ j,S (.oc i j)
   ·exact (R.h.objs i ob hob).pres R.h.sane hi hpr h h2
   have h2' : ∃ j,¬ S (.oc i j):=Classical.byContradiction fun hh=>h2 fun j=>Classical.byContradiction fun hj=>hh ⟨j,hj⟩;obtain ⟨j0,hj0⟩:=h2';obtain ⟨hc,⟨cs,hcs,hcj⟩ | ⟨k1,l1,t1,x1,hcs,hjt⟩⟩:=own0 _ hj0
   case inr =>
    rw [hob] at hcs;injection hcs with hcs;subst hcs
    obtain ⟨g0,g1,g2,g3,go,g4⟩:=R.h.objs i _ hob;have hb1:=hβold (i+1) (by omega);have hb2:=hβold (i+2) g0;refine ⟨g0,by rw [hb2];exact g1,by rw [hb1];exact g2,g3,go,fun hcc => ?_⟩;rw [hb1] at hcc;obtain ⟨vs,e,h1,h3,h4,h5⟩:=g4 hcc;obtain ⟨h7,h8⟩:=hOold _ _ _ h h1;rw [<-hβold i hi] at h3 h7 h8;refine ⟨vs,e,h7,h8.trans h3,by rw [hb1];exact h4,fun j hj => ?_⟩;obtain ⟨l',hx⟩:=g3 _ (zp6 hj);by_cases hs:S (.oc i j)
    ·exact (h5 j hj).pres R.h.sane hpr hs (fun r off e=>absurd e (AV.not_place (a2a hx go).1 r off)) (fun t e=>by cases e)
    obtain ⟨_,⟨cs',hcs',_⟩ | ⟨k2,l2,t2,x2,hcs',hjt'⟩⟩:=own0 _ hs
    ·rw [hob] at hcs';cases hcs'
    rw [hob] at hcs';injection hcs' with hcs'
    injection hcs' with e1 e2 e3;injection e3 with e3;injection e3 with e3 e4
    subst e3 e4 hjt';have:=h5 _ hj;have e5:a2y k1 (some (t1,x1)) t1.toNat l1[t1.toNat]=x1:=by simp [a2y]
    rw [e5] at this ⊢;exact hfreeV this (go _ rfl).2 _
   rw [hob] at hcs;injection hcs with hcs;subst hcs
   obtain ⟨vs,e,h1,h3,h4,h5,h6⟩:=R.h.objs i _ hob;obtain ⟨h7,h8⟩:=hOold _ _ _ h h1;refine ⟨vs,e,h7,h8.trans h3,h4,fun j hj => ?_,h6⟩;by_cases hs:S (.oc i j)
   ·exact (h5 j hj).pres R.h.sane hpr hs (fun r off e=>absurd e (AV.not_place (AV.isLocal_of_isCell (h6 _ (zp6 hj))) r off)) (fun t e=>by cases e)
   obtain ⟨_,⟨cs',hcs',hcj'⟩ | ⟨k2,l2,t2,x2,hcs',_⟩⟩:=own0 _ hs
   case inr=>rw [hob] at hcs';cases hcs'
   rw [hob] at hcs';injection hcs' with hcs'
   injection hcs' with hcs';subst hcs'
   exact hfreeV (h5 j hj) (hcj' _ (zp1 hj)) _
  have:=(own0 _ h).2;simp only [lets] at this;rw [hob] at this;injection this with this;subst this;trivial
 have hdisj : ∀ b' ℓ f,G'.O b'=some (ℓ,f)->b'<w'.heap.size /\ ∀ j,f<=j->G'.K ⟨b',j,none⟩=none:=by
  intro b' ℓ f h;simp only [G',Gh.give] at h;split at h
  ·rename_i hc;obtain ⟨hc,rfl⟩:=hc;obtain ⟨h1,h2,_⟩:=hb hc;refine ⟨h1,fun j _ => ?_⟩;show G.K _=none;rcases h2 with h2 | ⟨ℓ0,h2,_⟩
   ·cases hK:G.K ⟨b',j,none⟩ with
    | none=>rfl
    | some v=>have:=World.block_lt_of_cell? w _ (R.h.kept _ _ hK);simp at this;omega
   exact (R.h.disj _ _ _ h2).2 j (Nat.zero_le _)
  obtain ⟨h1,h2⟩:=R.h.disj b' ℓ f h;exact ⟨by omega,h2⟩
 have hkept : ∀ x v,G'.K x=some v->w'.cell? x=some v:=by
  intro x v h;have hx:=R.h.kept x v h;have hlt:=World.block_lt_of_cell? w _ hx;have hne:0<cap->x.block≠b:=by
   intro hc hxb;have hspot:=World.cell?_spot hx;obtain ⟨xb,j,s⟩:=x;simp at hspot hxb;subst hspot hxb;rcases (hb hc).2.1 with h2 | ⟨ℓ0,h2,_⟩
   ·simp at hlt;omega
   have:=(R.h.disj _ _ _ h2).2 j (Nat.zero_le _);have h':G.K ⟨xb,j,none⟩=some v:=h;rw [this] at h';cases h'
  unfold World.cell? at *
  rwa [hoth _ hlt hne]
 refine ⟨⟨⟨⟨fun b' x f h => ?_⟩,by simpa [G',Gh.give] using hnh,fun i ob hob=>hobj i ob hob,hkept,hdisj⟩,R.size,hslot,R.places,?_⟩,fun m hm => ?_,⟨p,cap,rfl,hu,hl,fun hc => ?_⟩⟩
 ·simp only [G',Gh.give] at h;split at h
  ·simp at h;rw [<-h.1];exact hℓ
  exact R.h.sane.no b' x f h
 ·refine ⟨R.df.1,fun x hx => ?_⟩;obtain ⟨r0,h1,h2,h3⟩:=R.df.2 x hx;obtain ⟨h4,h5⟩:=hOold _ _ _ (hS .df (by simp [lets])) h2;exact ⟨r0,h1,h4,h5.trans h3⟩
 ·refine ⟨KLe.refl _,fun x v h => .inl h,fun b' hb' h => ?_,hsz,fun i hi=>rfl,hio⟩;have hne:0<cap->b'≠b:=by
   rintro hc rfl;rcases (hb hc).2.1 with h2 | ⟨ℓ0,h2,_⟩
   ·omega
   rw [h] at h2;cases h2
  refine ⟨hoth b' hb' hne,?_⟩;simp only [G',Gh.give];rw [if_neg];exact h;rintro ⟨hc,rfl⟩;exact hne hc rfl
 obtain ⟨_,_,vs,e,h3,h4,h5,h6⟩:=hb hc;exact ⟨b,vs,e,hp hc,by simp only [G',Gh.give];rw [if_pos ⟨hc,trivial⟩],h3,h4,h5,h6⟩
theorem Rel.kill {G:Gh} {σ:St} {a:Act} {w:World} (R:Rel G σ a w) (i:Nat):Rel G { σ with heap:=σ.heap.set i .dead } a w:=by
 refine ⟨⟨R.h.sane,by simpa using R.h.nh,fun j ob hob => ?_,R.h.kept,R.h.disj⟩,R.size,R.slots,R.places,R.df⟩;by_cases hij:i=j
 ·subst hij;have:ob = .dead:=by
   rw [List.getElem?_set] at hob;simp at hob;exact hob.2.symm
  subst this;trivial
 rw [List.getElem?_set_ne hij] at hob;exact R.h.objs j ob hob
theorem a1L {G:Gh} {σ:St} {g:Nat->AV} {a:Act} {w:World} (hg:Less g σ) (R:Rel G σ a w) {s i k:Nat} (h:g s = .gref i k) :
  ∃ p,a.eval (.tmp s) = .slice p (G.β (.o (i+2))) (G.β (.o (i+1)))/\i+2<G.nh/\G.β (.o (i+2))<=G.β (.o (i+1))/\(0<G.β (.o (i+1))->p=some ⟨G.β (.o i),0,none⟩):=by
 have:=hg.rep R s;rw [h] at this;generalize hv:a.tmps.getD s Go.undef=v at this;cases this with | gref _ _ _ p h1 h2 h3=>exact ⟨p,hv,h1,h2,h3⟩
theorem a1M {P:Program} {w:World} {b:Nat} {vs:Array Value} {e:TypeId} (hw:w.heap[b]?=some (.cells vs e (0,0))) {k n cap:Nat} (hn:n*k<=vs.size) :
  (Builtin.firstCells k n (.slice (some ⟨b,0,none⟩) n cap)).run P w = .ok ((List.range (n*k)).map fun j=>vs.getD j Go.undef).toArray w:=by
 have hl:=run_loadCells (P:=P) w ⟨b,0,none⟩ (n*k) (fun j=>vs.getD j Go.undef) (fun j hj=>by rw [Addr.add_none,Nat.zero_add];exact a0P hw (by omega));simp [Builtin.firstCells,hl]
theorem Rel.reSlotG {G:Gh} {σ:St} {a:Act} {w:World} (R:Rel G σ a w) {s:Nat} {c:AV} (hc:RepV G w (.s s) c (a.tmps.getD s Go.undef)) (hl:c.isLocal=false) (hb:(σ.get s).isBox=false):Rel G { σ with env:=eset σ.env s c } a w:=by
 refine ⟨R.h,R.size,fun t => ?_,fun t r off ht => ?_,R.df⟩
 ·simp only [St.get,a0e];split
  ·rename_i e;subst e;exact hc
  exact R.slots t
 simp only [St.get,a0e] at ht ⊢;split at ht
 ·subst ht;simp [AV.isLocal] at hl
 obtain ⟨cs,hcs⟩:=R.places t r off ht;refine ⟨cs,?_⟩;split
 ·rename_i e;subst e;rw [show σ.get s = .lbox cs from hcs] at hb;simp [AV.isBox] at hb
 exact hcs
theorem Rel.freshGro {G:Gh} {σ:St} {a:Act} {w:World} (R:Rel G σ a w) {s k:Nat} {l:List D} (hs:σ.get s = .fresh k l) :
  ∃ G',Rel G' { σ with env:=eset σ.env s (.gref σ.heap.length k),heap:=σ.heap++[.gro k l,.dead,.dead] } a w /\ ∀ m,m<=G.nh->Ext m G w G' w:=by
 have h0:=R.slots s;rw [hs] at h0;cases h0 with | fresh _ _ _ _ h0 =>
 obtain ⟨p,cap,hv,hu,hl,hb⟩:=h0;have R1:=R.reSlotG (s:=s) (c := .junk) (by rw [hv];exact .junk _ _ rfl) rfl (by rw [hs];rfl);obtain ⟨b,hb'⟩ : ∃ b,0<cap->p=some ⟨b,0,none⟩/\G.O b=some (.s s,0) /\ ∃ vs e,w.heap[b]?=some (.cells vs e (0,0))/\cap*k<=vs.size /\
   (∀ j,j<(D.flat l).length->(vs.getD j Go.undef).oneCell'=true) /\ ∀ (j:Nat) (hj:j<(D.flat l).length),RepD G.K (D.flat l)[j] (vs.getD j Go.undef):=by
  rcases Nat.eq_zero_or_pos cap with h | h
  ·exact ⟨0,fun h'=>by omega⟩
  obtain ⟨b,vs,e,q1,q2,q3,q4,q5,q6⟩:=hb h;exact ⟨b,fun _=>⟨q1,q2,vs,e,q3,q4,q5,q6⟩⟩
 obtain ⟨R2,hE,hrep⟩:=R1.toGro (w':=w) (k:=k) (l:=l) (cap:=cap) (b:=b) (p:=p) (fun hc=>(hb' hc).1) hu hl (Nat.le_refl _) ⟨rfl,rfl,fun _ _=>rfl,rfl,Nat.le_refl _⟩ (fun _ _ _=>rfl)
  (fun hc=>by
   obtain ⟨q1,q2,vs,e,q3,q4⟩:=hb' hc;refine ⟨(Array.getElem?_eq_some_iff.1 q3).1,.inr ⟨_,q2,?_⟩,vs,e,q3,q4⟩;show ((eset σ.env s .junk |> fun e=>({ σ with env:=e }:St)).get s).free=true
   simp [St.get,a0e,AV.free])
 have R3:=R2.reSlotG (s:=s) (c := .gref σ.heap.length k) (by rw [hv];exact hrep _) rfl (by simp [St.get,a0e,AV.isBox]);refine ⟨_,⟨R3.h,R3.size,fun t => ?_,fun t r off ht => ?_,R3.df⟩,hE⟩
 ·have:=R3.slots t;have e : ∀ t,St.get { σ with env:=eset σ.env s (.gref σ.heap.length k),heap:=σ.heap++[.gro k l,.dead,.dead] } t=St.get { σ with env:=eset (eset σ.env s .junk) s (.gref σ.heap.length k),heap:=σ.heap++[.gro k l,.dead,.dead] } t:=fun t=>by
   simp only [St.get,a0e];split <;> rfl
  rw [e];exact this
 have e : ∀ t,St.get { σ with env:=eset σ.env s (.gref σ.heap.length k),heap:=σ.heap++[.gro k l,.dead,.dead] } t=St.get { σ with env:=eset (eset σ.env s .junk) s (.gref σ.heap.length k),heap:=σ.heap++[.gro k l,.dead,.dead] } t:=fun t=>by
  simp only [St.get,a0e];split <;> rfl
 rw [e] at ht ⊢;exact R3.places t r off ht
theorem a0f.settle {P:Program} {σ:St} {o:Oper} {d k:Nat} {l:List D} {H1:List Obj} (h:a0f P σ o [(d,.fresh k l)] (some H1)) (hlen:σ.heap.length<=H1.length):a0f P σ o [(d,.gref H1.length k)] (some (H1++[.gro k l,.dead,.dead])):=by
 intro r n m G a w Q next hm R hn
 refine h r n m G a w Q next hm R (fun G' a' w' R' hE => ?_)
 have hm':m<=G'.nh:=by
  have h1:=R.h.nh;have h2:H1.length=G'.nh:=R'.h.nh;omega
 obtain ⟨G2,R2,hE2⟩:=R'.freshGro (s:=d) (k:=k) (l:=l) (by simp [St.upd,St.get,a0t,a0e]);refine hn G2 a' w' ?_ (hE.trans (hE2 m hm'));refine ⟨R2.h,R2.size,fun t => ?_,fun t r off ht => ?_,R2.df⟩
 ·have:=R2.slots t;have e : ∀ t,St.get (σ.upd [(d,.gref H1.length k)] (some (H1++[.gro k l,.dead,.dead]))) t=St.get { σ.upd [(d,.fresh k l)] (some H1) with env:=eset (σ.upd [(d,.fresh k l)] (some H1)).env d (.gref H1.length k),heap:=H1++[.gro k l,.dead,.dead] } t:=fun t=>by
   simp only [St.upd,St.get,a0t,List.foldl,a0e];split <;> rfl
  rw [e];exact this
 have e : ∀ t,St.get (σ.upd [(d,.gref H1.length k)] (some (H1++[.gro k l,.dead,.dead]))) t=St.get { σ.upd [(d,.fresh k l)] (some H1) with env:=eset (σ.upd [(d,.fresh k l)] (some H1)).env d (.gref H1.length k),heap:=H1++[.gro k l,.dead,.dead] } t:=fun t=>by
  simp only [St.upd,St.get,a0t,List.foldl,a0e];split <;> rfl
 rw [e] at ht ⊢;exact R2.places t r off ht
section
variable {P:Program} {T:a0l} (hT:TOk P T) {σ:St} {g:Nat->AV} {o:Oper} {ss:a1p} {h':Option (List Obj)} {H:List Obj} {an:Ann}
 (hg:Less g σ) (hgd : ∀ d,o.dst=some d->g d=σ.get d)
include hT hg hgd
theorem b9u {t:TypeId} {s:Nat} (hop:o.op = .call { callee := .builtin .len,args := #[.tmp s],argTypes := #[t] }) {a0 k:Nat} {l:List D} (hs:g s = .gref a0 k) (hHi:σ.heap[a0]?=some (.gro k l))
  {sz e:Nat} {z:List AV} (ht:T t=some { size:=sz,u := .slice e,zero:=z }) (h:put σ.n g o.dst (.d (.int .i64 (Ar.std.len l)))=some (ss,h')):a0f P σ o ss h':=by
 refine a0d hgd h (by simp [hop]) (AV.free_place rfl) ?_;intro G a w R;obtain ⟨p,hv,_,_,_⟩:=a1L hg R hs;obtain ⟨_,q1,_⟩:=R.h.objs a0 _ hHi;refine ⟨.int .i64 (Ar.std.len l),?_,fun d => .d _ _ _ (.int _ _)⟩;simp [execOp,hop,resolve,invoke,Go.builtin,Builtin.len_,Builtin.lenOf,hv,goInt,Go.underlying,hT.slice ht,Ar.std,q1]
theorem b5b {t:TypeId} {s:Nat} {i:Operand} (hop:o.op = .indexAddr t (.tmp s) i) {a0 k:Nat} {l:List D} (hs:g s = .gref a0 k) (hHi:σ.heap[a0]?=some (.gro k l))
  {sz e:Nat} {zz:List AV} (ht:T t=some { size:=sz,u := .slice e,zero:=zz }) {td:TD} (hte:T e=some td) {kz:IntKind} {z:Int} (hi:opv T g 0 i=some (.d (.int kz z))) (hk:td.size=k) (hz0:0<=z) (hz1:z<(l.length:Int))
  (h:put σ.n g o.dst (.eptr a0 k z 0)=some (ss,h')):a0f P σ o ss h':=by
 subst hk;refine a0d hgd h (by simp [hop]) (AV.free_place rfl) ?_;intro G a w R;have h1:=(a0U hg R hi .no).1;cases h1 with | d _ _ _ h1 =>
 generalize hei:a.eval i=vi at h1;cases h1;obtain ⟨p,hv,hnh,hle,hp⟩:=a1L hg R hs;obtain ⟨_,q1,q2,_⟩:=R.h.objs a0 _ hHi;obtain rfl:=hp (by omega);have hzz:z<((G.β (.o (a0+2)):Nat):Int):=by omega
 refine ⟨.pointer (some ⟨G.β (.o a0),0+z.toNat*td.size,none⟩),?_,fun d => ?_⟩
 ·have hmx : ¬ ((G.β (.o (a0+2)):Nat):Int)<=z:=by omega
  simp [execOp,hop,hv,hei,Instr.indexAt,asIntOf,Go.underlying,hT.slice ht,hz0,hzz,hmx,hT.size hte,Addr.add_none]
 have:=RepV.eptr (G:=G) (w:=w) (.s d) a0 td.size z 0 (by omega) hz0;simpa using this
omit hT hg hgd in
theorem a6J : ∀ (l:List D),a0N (l.map AV.d)=some l
 | []=>rfl
 | x::r=>by simp only [List.map_cons,a0N,a6J r,Option.map_some]
omit hT hg hgd in
theorem a8B {td:TD} {k j:Nat} {y v:D} (h:a9B td k j y=some v) (hy:y.cells.length=k):a0H td (y.cells.map .d) j=some (.d v):=by
 unfold a9B at h;split at h
 ·rename_i cs;split at h
  ·rename_i hc;simp only [zp4,decide_eq_true_eq] at hc;obtain ⟨⟨h1,rfl⟩,h2⟩:=hc;cases h;simp only [D.cells] at hy ⊢;unfold a0H cut;have e:(0:Nat)+td.size<=(cs.map AV.d).length:=by rw [List.length_map];omega
   have e2:((cs.map AV.d).drop 0).take td.size=cs.map AV.d:=by rw [List.drop_zero,List.take_of_length_le (by rw [List.length_map];omega)]
   rw [if_pos e,e2,h1];simp only [if_true];unfold a5p;rw [a6J]
  cases h
 cases h
theorem b0w {t:TypeId} {s:Nat} (hop:o.op = .load t (.tmp s)) {a0 k:Nat} {l:List D} {i:Int} {j:Nat} (hpt0 : ∀ {G:Gh} {a:Act} {w:World},Rel G σ a w->a.eval (.tmp s) = .pointer (some ⟨G.β (.o a0),i.toNat*k+j,none⟩)/\a0<G.nh/\0<=i) (hHi:σ.heap[a0]?=some (.gro k l)) {td:TD} (ht:T t=some td)
  {y:D} (hy:l[i.toNat]?=some y) {av:AV} (hav:y.cells.length=k->a0H td (y.cells.map .d) j=some av) (hp:put σ.n g o.dst av=some (ss,h')):a0f P σ o ss h':=by
 have run : ∀ G a w,Rel G σ a w -> ∃ v,(loadVar t ⟨G.β (.o a0),i.toNat*k+j,none⟩).run P w = .ok v w/\av.free=true /\ ∀ ℓ,RepV G w ℓ av v:=by
  intro G a w R;obtain ⟨_,q1,q2,hu,q3⟩:=R.h.objs a0 _ hHi;have hlt:i.toNat<l.length:=(zp2.1 hy).1;obtain ⟨vs,e,hO,hw,hs,h1,hh⟩:=q3 (by omega);have hyl:y.cells.length=k:=hu y (List.mem_of_getElem? hy);have hfl:=a0b hu;have hmul:i.toNat*k+k<=l.length*k:=by rw [<-Nat.succ_mul];exact Nat.mul_le_mul_right _ hlt
  have hmul2:l.length*k<=G.β (.o (a0+1))*k:=Nat.mul_le_mul_right _ q2;have hcell : ∀ (q:Nat) (hq:q<y.cells.length),RepD G.K y.cells[q] (vs.getD (i.toNat*k+q) Go.undef)/\(vs.getD (i.toNat*k+q) Go.undef).oneCell'=true:=by
   intro q hq;have hfg:=a0A hu hy q (by omega);have hj:i.toNat*k+q<(D.flat l).length:=by omega
   rw [zp1 hj,zp1 hq] at hfg;have:=hh _ hj;rw [Option.some.inj hfg] at this;exact ⟨this,h1 _ hj⟩
  exact a1x hT ht (G:=G) (w:=w) (b:=G.β (.o a0)) (o:=i.toNat*k) (off:=j) (cs:=y.cells.map .d) (vs:=fun q=>vs.getD (i.toNat*k+q) Go.undef)
   (fun q hq=>by simp at hq;exact a0P hw (by omega)) (fun q hq=>⟨.no,by simp at hq;simpa using RepV.d (G:=G) (w:=w) .no _ _ (hcell q hq).1⟩)
   (a1m (K:=G.K) (fun q hq=>(hcell q hq).2) (fun q hq=>(hcell q hq).1)) (hav hyl)
 intro r n m G a w Q next hm R hn
 obtain ⟨_,_,hfree,_⟩:=run G a w R;refine a0d hgd hp (by simp [hop]) (AV.free_place (AV.free_isLocal hfree)) ?_ r n m G a w Q next hm R hn
 intro G a w R;obtain ⟨hv,hnh,hi⟩:=hpt0 R;obtain ⟨v,hr,_,hrep⟩:=run G a w R;exact ⟨v,by simp [execOp,hop,hv,Instr.loadAt,Instr.sureAddr,hr],fun d=>hrep _⟩
theorem b2H {t:TypeId} {s:Nat} (hop:o.op = .load t (.tmp s)) {a0 k:Nat} {l:List D} {i:Int} {j:Nat} (hs:g s = .eptr a0 k i j) (hHi:σ.heap[a0]?=some (.gro k l)) {td:TD} (ht:T t=some td)
  {y:D} (hy:l[i.toNat]?=some y) {av:AV} (hav:y.cells.length=k->a0H td (y.cells.map .d) j=some av) (hp:put σ.n g o.dst av=some (ss,h')):a0f P σ o ss h' :=
 b0w hT hg hgd hop (fun R=>eptr_val hg R (x := .tmp s) hs) hHi ht hy hav hp
end
theorem Rel.giveF {G:Gh} {σ:St} {a:Act} {w:World} (R:Rel G σ a w) {s k:Nat} {l:List D} (hs:σ.get s = .fresh k l) (ℓ':Loc) (h0:ℓ'.root ≠ .no) :
  Rel (G.move (.s s) ℓ') (σ.upd [(s,.undef)] none) a w/\RepV (G.move (.s s) ℓ') w ℓ' (.fresh k l) (a.tmps.getD s Go.undef):=by
 have hrep:=R.slots s;rw [hs] at hrep;generalize hv:a.tmps.getD s Go.undef=v at hrep;cases hrep with | fresh _ _ _ _ hr =>
 have hpr:=G.move_pres w (.s s) ℓ';refine ⟨⟨R.h.move _ _ h0 ?_,by simpa [St.upd] using R.size,?_,?_,R.df.move (by simp)⟩,.fresh _ _ _ _ (hr.mono (KLe.refl _) (fun b hO=>⟨by simp [Gh.move,hO],rfl⟩))⟩
 ·intro i ob hob;exact (R.h.objs i ob hob).pres R.h.sane (by rw [<-R.h.nh];exact (zp2.1 hob).1) hpr (by simp) (by simp)
 ·intro t;simp only [St.upd,St.get,a0t,List.foldl_cons,List.foldl_nil,a0e];split
  ·exact .undef _ _
  rename_i e2;exact (R.slots t).pres R.h.sane hpr (by simp;exact fun e=>e2 e.symm) (fun _ _ _=>rfl) (fun _ _ _=>⟨rfl,by simp⟩)
 intro t r' off ht;simp only [St.upd,St.get,a0t,List.foldl_cons,List.foldl_nil,a0e] at ht ⊢;split at ht
 ·cases ht
 obtain ⟨cs,hcs⟩:=R.places t r' off ht;refine ⟨cs,?_⟩;split
 ·rename_i e;subst e;rw [hcs] at hs;cases hs
 exact hcs
theorem b2I {G:Gh} {σ:St} {g:Nat->AV} {a:Act} {w:World} (hg:Less g σ) (R:Rel G σ a w) {s i off:Nat} (h:g s = .ptr i off) :
  a.eval (.tmp s) = .pointer (some ⟨G.β (.o i),off,none⟩)/\i<G.nh:=by
 have:=hg.rep R s;rw [h] at this;generalize hv:a.tmps.getD s Go.undef=v at this;cases this with | ptr _ _ _ h1=>exact ⟨hv,h1⟩
theorem a7o {G:Gh} {σ:St} {a:Act} {w:World} (R:Rel G σ a w) {i k:Nat} {l l':List D} {cur row:Array Value} {e:TypeId} (hi:σ.heap[i]?=some (.gro k l)) (hne:0<l.length)
  (hw:w.heap[G.β (.o i)]?=some (.cells cur e (0,0))) (hll:l'.length=l.length) (hu:a0m k l') (hrs:row.size=cur.size)
  (h1 : ∀ j,j<(D.flat l').length->(row.getD j Go.undef).oneCell'=true) (hh : ∀ (j:Nat) (hj:j<(D.flat l').length),RepD G.K (D.flat l')[j] (row.getD j Go.undef)) :
  Rel G (σ.upd [] (some (σ.heap.set i (.gro k l')))) a (w.setRow (G.β (.o i)) row) /\ ∀ m,Ext m G w G (w.setRow (G.β (.o i)) row):=by
 obtain ⟨g0,g1,g2,g3,g4⟩:=R.h.objs i _ hi;obtain ⟨vs0,e0,hO,hw0,hsz0,_,_⟩:=g4 (by omega);rw [hw] at hw0;simp at hw0;obtain ⟨rfl,rfl⟩:=hw0;have hpr:=a2d (w:=w) hO row;have hil:i<σ.heap.length:=(zp2.1 hi).1;refine ⟨⟨⟨R.h.sane,by simpa [St.upd] using R.h.nh,fun i' ob hob => ?_,a2e R.h.kept (fun j=>(R.h.disj _ _ _ hO).2 j (Nat.zero_le _)) hO _,fun b ℓ f h => ?_⟩,by simpa [St.upd] using R.size,?_,?_,?_⟩,fun m=>Ext.setRow hO _⟩
 ·simp only [St.upd,Option.getD_some] at hob;by_cases hii:i=i'
  ·subst hii;rw [List.getElem?_set_self hil] at hob;injection hob with hob;subst hob
   exact ⟨g0,by rw [hll];exact g1,by rw [hll];exact g2,hu,fun _=>⟨row,_,hO,setRow_heap _ _ _ _ _ _ hw,by rw [hrs];exact hsz0,h1,hh⟩⟩
  rw [List.getElem?_set_ne hii] at hob;exact (R.h.objs i' ob hob).pres R.h.sane (by rw [<-R.h.nh];exact (zp2.1 hob).1) hpr (by simp;exact fun e=>hii e.symm) (by simp)
 ·have:=R.h.disj b ℓ f h;exact ⟨by simpa using this.1,this.2⟩
 ·intro t;exact (R.slots t).pres R.h.sane hpr (by simp) (fun _ _ _=>rfl) (fun t' e' _=>⟨rfl,fun j=>by simp⟩)
 ·intro t r'' off' ht;exact R.places t r'' off' ht
 refine ⟨R.df.1,fun x hx => ?_⟩;obtain ⟨r0,h1,h2,h3⟩:=R.df.2 x hx;exact ⟨r0,h1,h2,by rw [setRow_other _ _ _ _ (by rintro rfl;rw [hO] at h2;cases h2)];exact h3⟩
section
variable {P:Program} {T:a0l} (hT:TOk P T) {σ:St} {g:Nat->AV} {o:Oper} {ss:a1p} {h':Option (List Obj)} {H:List Obj} {an:Ann}
 (hg:Less g σ) (hgd : ∀ d,o.dst=some d->g d=σ.get d)
include hT hg hgd
theorem a8C {t:TypeId} {s:Nat} {yo:Operand} (hop:o.op = .store t (.tmp s) yo) {a0 k:Nat} {l:List D} {i:Int} {j:Nat} (hpt0 : ∀ {G:Gh} {a:Act} {w:World},Rel G σ a w->a.eval (.tmp s) = .pointer (some ⟨G.β (.o a0),i.toNat*k+j,none⟩)/\a0<G.nh/\0<=i) (hHi:σ.heap[a0]?=some (.gro k l)) {td:TD} (ht:T t=some td)
  {v:D} (hv:opD T g t yo=some v) (hdst:o.dst=none) (hpos:0<td.size) (hvl:v.cells.length=td.size) {y0:D} (hy0:l[i.toNat]?=some y0) {v':D}
  (hall:y0.cells.length=k->v'.cells.length=k/\j+td.size<=k/\(∀ q,q<k->v'.cells[q]?=if j<=q/\q<j+td.size then v.cells[q-j]? else y0.cells[q]?)) :
  a0f P σ o [] (some (σ.heap.set a0 (.gro k (l.set i.toNat v')))):=by
 have hnd : ∀ c,o.op ≠ .defer c:=by simp [hop]
 intro r n m G a w Q next hm R hn
 obtain ⟨hpt,hnh,hi0⟩:=hpt0 R;have hrv:=a0B hg R hv;have hlt:i.toNat<l.length:=(zp2.1 hy0).1;obtain ⟨_,q1,q2,hu,q3⟩:=R.h.objs a0 _ hHi;obtain ⟨cur,e,hO,hw,hs',h1,hh⟩:=q3 (by omega);obtain ⟨hv',hjk,hcells⟩:=hall (hu y0 (List.mem_of_getElem? hy0));have hk0:0<k:=by omega
 obtain ⟨hu',hl',hget⟩:=b0v hk0 hu hy0 hv';have hfl:=a0b hu;have hmul:i.toNat*k+k<=l.length*k:=by rw [<-Nat.succ_mul];exact Nat.mul_le_mul_right _ hlt
 have hmul2:l.length*k<=G.β (.o (a0+1))*k:=Nat.mul_le_mul_right _ q2;obtain ⟨hvs,hvc,hv1⟩:=hrv.cells;have hvs':(a.eval yo).cells.size=td.size:=by omega
 have hone : ∀ z∈(a.eval yo).cells.toList,z.oneCell'=true:=by
  intro z hz;obtain ⟨q,hq,rfl⟩:=List.mem_iff_getElem.1 hz;have hq1:q<(a.eval yo).cells.size:=by simpa using hq
  have:=hv1 q (by omega);simpa [Array.getD,hq1] using this
 have hrun:=a0K hT ht hw (off:=i.toNat*k+j) (v:=a.eval yo) hvs' (by omega) hone;have hrow : ∀ q,q<(D.flat l).length->(rowOf cur (i.toNat*k+j) (a.eval yo).cells.toList).getD q Go.undef=if i.toNat*k+j<=q/\q<i.toNat*k+j+td.size then (a.eval yo).cells.getD (q-(i.toNat*k+j)) Go.undef else cur.getD q Go.undef:=by
  intro q hq;rw [a0Y (by simp;omega)];simp only [Array.length_toList,hvs'];by_cases c1:q<i.toNat*k+j
  ·rw [if_pos c1,if_neg (by omega)]
  rw [if_neg c1];by_cases c2:q<i.toNat*k+j+td.size
  ·rw [if_pos c2,if_pos (by omega)];simp [List.getD,zp5]
  rw [if_neg c2,if_neg (by omega)]
 have each : ∀ (q:Nat) (hq:q<(D.flat (l.set i.toNat v')).length),RepD G.K (D.flat (l.set i.toNat v'))[q] ((rowOf cur (i.toNat*k+j) (a.eval yo).cells.toList).getD q Go.undef) /\
   ((rowOf cur (i.toNat*k+j) (a.eval yo).cells.toList).getD q Go.undef).oneCell'=true:=by
  intro q hq;have hg0:=hget q;rw [zp1 hq] at hg0;rw [hrow q (by omega)];by_cases c:i.toNat*k+j<=q/\q<i.toNat*k+j+td.size
  ·rw [if_pos c];rw [if_pos (by omega),hcells _ (by omega),if_pos (by omega)] at hg0;rw [show q-i.toNat*k-j=q-(i.toNat*k+j) by omega,zp1 (by omega)] at hg0;rw [Option.some.inj hg0];exact ⟨hvc _ (by omega),hv1 _ (by omega)⟩
  rw [if_neg c];have hold:(D.flat (l.set i.toNat v'))[q]=(D.flat l)[q]'(by omega):=by
   by_cases c2:i.toNat*k<=q/\q<i.toNat*k+k
   ·rw [if_pos c2,hcells _ (by omega),if_neg (by omega)] at hg0;have:=a0A hu hy0 (q-i.toNat*k) (by omega);rw [show i.toNat*k+(q-i.toNat*k)=q by omega,zp1 (by omega)] at this;rw [<-this] at hg0;exact Option.some.inj hg0
   rw [if_neg c2,zp1 (by omega)] at hg0;exact Option.some.inj hg0
  rw [hold];exact ⟨hh q (by omega),h1 q (by omega)⟩
 obtain ⟨hcore,hext⟩:=a7o R hHi (by omega) hw (l':=l.set i.toNat v') (row:=rowOf cur (i.toNat*k+j) (a.eval yo).cells.toList) (by simp) hu' (a0L (by simp;omega)) (fun q hq=>(each q hq).2) (fun q hq=>(each q hq).1);refine a1r hnd (w':=w.setRow (G.β (.o a0)) (rowOf cur (i.toNat*k+j) (a.eval yo).cells.toList)) (by simp [execOp,hop,hpt,Instr.storeAt,Instr.sureAddr,hrun]) (hn G _ _ ?_ (hext m));rw [hdst];simpa [Act.put] using hcore
theorem b0x {t:TypeId} {s:Nat} {yo:Operand} (hop:o.op = .store t (.tmp s) yo) {a0 k:Nat} {l:List D} {i:Int} {j:Nat} (hs:g s = .eptr a0 k i j) (hHi:σ.heap[a0]?=some (.gro k l)) {td:TD} (ht:T t=some td)
  {v:D} (hv:opD T g t yo=some v) (hdst:o.dst=none) (hpos:0<td.size) (hvl:v.cells.length=td.size) {y0:D} (hy0:l[i.toNat]?=some y0) {v':D}
  (hall:y0.cells.length=k->v'.cells.length=k/\j+td.size<=k/\(∀ q,q<k->v'.cells[q]?=if j<=q/\q<j+td.size then v.cells[q-j]? else y0.cells[q]?)) :
  a0f P σ o [] (some (σ.heap.set a0 (.gro k (l.set i.toNat v')))) :=
 a8C hT hg hgd hop (fun R=>eptr_val hg R (x := .tmp s) hs) hHi ht hv hdst hpos hvl hy0 hall
theorem b2J {t:TypeId} {s q:Nat} (hop:o.op = .store t (.tmp s) (.tmp q)) {a0 off k:Nat} {l:List D} {cs:List AV} (hs:g s = .ptr a0 off) (hq:g q = .fresh k l) (hHi:σ.heap[a0]?=some (.cells cs)) {td:TD} (ht:T t=some td)
  (hsz:td.size=1) (hoff:off<cs.length) (hdst:o.dst=none):a0f P σ o [(q,.undef)] (some (σ.heap.set a0 (.cells (cs.set off (.fresh k l))))):=by
 have hnd : ∀ c,o.op ≠ .defer c:=by simp [hop]
 intro r n m G a w Q next hm R hn
 obtain ⟨hpt,hnh⟩:=b2I hg R hs;have hsg:σ.get q = .fresh k l:=(hg.eq hq (by simp));obtain ⟨R1,hrep1⟩:=R.giveF hsg (.oc a0 off) (by simp [Loc.root]);obtain ⟨cur,e,hO,hw,hs',hh,hcc⟩:=R1.h.objs a0 _ hHi;have hval:a.eval (.tmp q)=a.tmps.getD q Go.undef:=rfl;generalize hvv:a.tmps.getD q Go.undef=vv at hrep1;have hcells:vv.cells = #[vv]:=by
  cases hrep1 with | fresh _ _ _ _ hr =>
  obtain ⟨p,cap,rfl,_⟩:=hr;rfl
 have hcore:=a1V R1 (off:=off) (nv:=[.fresh k l]) (vs:=[vv]) hHi hw (by simp;omega) rfl
  (fun j hj=>by simp at hj;subst hj;simpa using hrep1) (by simp [AV.isCell])
 have hone : ∀ x∈vv.cells.toList,x.oneCell'=true:=by
  rw [hcells];simp;exact hrep1.oneCell rfl
 have hrun:=a0K hT ht hw (off:=off) (v:=vv) (by rw [hcells];simp [hsz]) (by omega) hone;have hβ:(G.move (.s q) (.oc a0 off)).β=G.β:=rfl;rw [hβ] at hrun hcore hO;refine a1r hnd (w':=w.setRow (G.β (.o a0)) (rowOf cur off vv.cells.toList)) (by simp [execOp,hop,hpt,Instr.storeAt,Instr.sureAddr,hval,hvv,hrun]) (hn _ _ _ ?_ ((Ext.move m G w _ _).trans (Ext.setRow hO _)));rw [hdst,hcells];have hcore':=hcore;simp only [show (σ.upd [(q,AV.undef)] none).heap=σ.heap from rfl] at hcore';rw [a7f] at hcore';have hset:a0S cs off [AV.fresh k l]=cs.set off (.fresh k l):=by
  simp only [a0S,List.length_singleton];rw [List.set_eq_take_append_cons_drop,if_pos hoff];simp
 rw [hset] at hcore';simpa [Act.put] using hcore'
theorem b5c {t:TypeId} {s:Nat} {hi:Operand} (hop:o.op = .slice t (.tmp s) none (some hi) none) {a0 k:Nat} {l:List D} (hs:g s = .gref a0 k) (hHi:σ.heap[a0]?=some (.gro k l)) {z:Int}
  (hes:a0j T t=some k) (hb:bound g T 0 (some hi)=some z) (hz0:0<=z) (hz1:z<=(l.length:Int)) {d:Nat} (hdst:o.dst=some d) (hlt:d<σ.n) (hbx:(g d).isBox=false) :
  a0f P σ o [(d,.fresh k (Ar.std.sub l 0 z))] (some (σ.heap.set a0 .dead)):=by
 have hnd : ∀ c,o.op ≠ .defer c:=by simp [hop]
 obtain ⟨sz,e,zz,td,ht,hte,rfl⟩:=a0p hes;intro r n m G a w Q next hm R hn
 obtain ⟨p,hv,hnh,hle,hp⟩:=a1L hg R hs;obtain ⟨_,q1,q2,hu,q3⟩:=R.h.objs a0 _ hHi;obtain ⟨nz,rfl⟩:=zp9 hz0;obtain ⟨kk,e1⟩:=a0z hg hb R;have hsub:Ar.std.sub l 0 (nz:Int)=l.take nz:=by simp [Ar.std]
 rw [hsub] at hn;have hlen:(l.take nz).length=nz:=by simp;omega
 have hrun0:=a0J (P:=P) (w:=w) (len:=G.β (.o (a0+2))) (cap:=G.β (.o (a0+1))) (nl:=0) (nh:=nz) (m:=G.β (.o (a0+1))) (low:=none) (high:=some (a.eval hi)) (max:=none)
  (.inl ⟨rfl,rfl⟩) (.inr ⟨kk,by rw [e1]⟩) (.inl ⟨rfl,rfl⟩) (Nat.zero_le _) (by omega) (Nat.le_refl _)
 have hrun:(execOp a.eval o).run P w = .ok (.value (.slice p nz (G.β (.o (a0+1))))) w:=by
  by_cases hc:G.β (.o (a0+1))=0
  ·rw [hc] at hrun0 hv ⊢;simp [execOp,hop,Instr.sliceAt,Instr.slice,Go.underlying,hT.slice ht,hv,hrun0,hT.size hte]
  obtain rfl:=hp (by omega);simp [execOp,hop,Instr.sliceAt,Instr.slice,Go.underlying,hT.slice ht,hv,hrun0,hT.size hte,hc,Addr.add_none]
 have R1:=R.kill a0;have hdead:lets { σ with heap:=σ.heap.set a0 .dead } (.o a0):=by
  simp only [lets];rw [List.getElem?_set_self (zp2.1 hHi).1]
 obtain ⟨R2,hext,hrep⟩:=R1.toLoc (.s d) (by simp [Loc.root]) (w':=w) (k:=td.size) (l:=l.take nz) (cap:=G.β (.o (a0+1))) (b:=G.β (.o a0)) (p:=p) hp (fun x hx=>hu x (List.mem_of_mem_take hx)) (by rw [hlen];omega) (Nat.le_refl _)
  ⟨rfl,rfl,fun _ _=>rfl,rfl,Nat.le_refl _⟩ (fun _ _ _=>rfl) (fun hc=>by
   obtain ⟨vs,e',h1,h2,h3,h4,h5⟩:=q3 hc;refine ⟨(Array.getElem?_eq_some_iff.1 h2).1,.inr ⟨_,h1,hdead⟩,vs,e',h2,h3,fun j hj=>h4 j ?_,fun j hj => ?_⟩
   ·rw [a0X hu] at hj;simp at hj;omega
   have hj':j<(D.flat l).length:=by rw [a0X hu] at hj;simp at hj;omega
   have:=h5 j hj';have e2:(D.flat (l.take nz))[j]=(D.flat l)[j]:=by
    have:(D.flat (l.take nz))[j]?=(D.flat l)[j]?:=by
     rw [a0X hu];rw [a0X hu] at hj;simp at hj;exact List.getElem?_take_of_lt (by omega)
    rw [zp1 hj,zp1 hj'] at this;exact Option.some.inj this
   rw [e2];exact this)
 rw [hlen] at hrep;refine a0x hnd hrun (hn _ _ _ ?_ (hext m hm));rw [hdst];have:=R2.put (d:=d) (.fresh _ _ _ _ hrep) (fun r off e=>by cases e) (by show (σ.get d).isBox=false;rw [<-hgd d hdst];exact hbx) hlt;simpa [St.upd,a0t] using this
theorem a8D {s d k1:Nat} {y:Operand} {t u:TypeId} {l ys:List D} (hop:o.op = .call { callee := .builtin .append,args := #[.tmp s,y],argTypes := #[t,u] }) (ht:a0j T t=some k1) (hu':a0j T u=some k1) (hsrc : ∀ {G:Gh} {a:Act} {w:World},Rel G σ a w->a0m k1 ys/\(∃ b cap,a.eval y = .slice b ys.length cap) /\ ∀ w':World,w'.heap=w.heap -> ∃ arr:Array Value,(Builtin.firstCells k1 ys.length (a.eval y)).run P w' = .ok arr w'/\arr.size=(D.flat ys).length /\
   ∀ (q:Nat) (hq:q<(D.flat ys).length),RepD G.K (D.flat ys)[q] (arr.getD q Go.undef)/\(arr.getD q Go.undef).oneCell'=true) (hdst:o.dst=some d)
  (_:0<k1) (hlt:d<σ.n) (hbx:(g d).isBox=false) (hfits:(l.length:Int)+ys.length<4294967296) {σ1:St} (h1n:σ1.n=σ.n) (h1b:(σ1.get d).isBox=false)
  (hold : ∀ G a w,Rel G σ a w->Rel G σ1 a w/\a0m k1 l /\ ∃ p cs b,a.eval (.tmp s) = .slice p l.length cs/\l.length<=cs/\(0<cs->p=some ⟨b,0,none⟩) /\
   (0<cs -> ∃ ℓ0 cur e,G.O b=some (ℓ0,0)/\lets σ1 ℓ0/\w.heap[b]?=some (.cells cur e (0,0))/\cs*k1<=cur.size/\(∀ j,j<(D.flat l).length->(cur.getD j Go.undef).oneCell'=true) /\ ∀ (j:Nat) (hj:j<(D.flat l).length),RepD G.K (D.flat l)[j] (cur.getD j Go.undef))) :
  ∀ (r:Option Nat) (n m:Nat) (G:Gh) (a:Act) (w:World) (Q:Exit->Act->World->Prop) (next:Act->World->Prop),m<=G.nh->Rel G σ a w ->
    (∀ G' a' w',Rel G' { σ1 with env:=eset σ1.env d (.fresh k1 (l++ys)) } a' w'->Ext m G w G' w'->next a' w')->o.wpIn (Wd r) n P a w next Q:=by
 have hnd : ∀ c,o.op ≠ .defer c:=by simp [hop]
 obtain ⟨sz,e,zz,td,hTt,hTe,hks⟩:=a0p ht;obtain ⟨sz1,e1,zz1,td1,hTt1,hTe1,hks1⟩:=a0p hu';obtain ⟨ie,dd,hie,hdd,hsz,hbytes,huok,z0,hz,hzs,hzl,hzc⟩:=hT.info hTe;intro r n m G a w Q next hm R hn
 obtain ⟨R1,hul,p,cs,b,hsv,hlc,hpb,hblk⟩:=hold G a w R;obtain ⟨f3,hyl,hfc⟩:=hsrc R;obtain ⟨arrY,f1,f2,f4⟩:=hfc w rfl;obtain ⟨by',cy,hyv⟩:=hyl;rw [hyv] at f1;have hfl:=a0b hul;have hfy:=a0b f3;have huni:a0m k1 (l++ys):=fun x hx=>by rcases List.mem_append.1 hx with hx | hx;exact hul x hx;exact f3 x hx
 have hdl:d<σ1.n:=by rw [h1n];exact hlt

 have fin : ∀ (b' cap':Nat) (v:Value) (w':World),(execOp a.eval o).run P w = .ok (.value v) w'->Rel (G.give b' cap' (.s d)) σ1 a w'/\(∀ m,m<=G.nh->Ext m G w (G.give b' cap' (.s d)) w') /\
   a4p (G.give b' cap' (.s d)) w' (.s d) k1 (l++ys) v->o.wpIn (Wd r) n P a w next Q:=by
  rintro b' cap' v w' hrun ⟨R2,hext,hrep⟩;refine a0x hnd hrun (hn _ _ _ ?_ (hext m hm));rw [hdst];have:=R2.put (d:=d) (.fresh _ _ _ _ hrep) (fun r off e=>by cases e) h1b hdl;simpa [St.upd,a0t] using this
 by_cases hcap:l.length+ys.length<=cs
 ·by_cases hy0:ys=[]
  ·subst hy0;have harr:arrY = #[]:=Array.eq_empty_of_size_eq_zero (by simpa [D.flat] using f2);subst harr;have hrun:(execOp a.eval o).run P w = .ok (.value (.slice p l.length cs)) w:=by
    have hcap':l.length<=cs:=by simpa using hcap
    simp at f1;cases p with
    | none=>simp [execOp,hop,resolve,invoke,Go.builtin,Builtin.append_,hsv,hyv,Go.underlying,hT.slice hTt,hT.slice hTt1,hT.size hTe,Builtin.lenOf,hks,f1,hcap']
    | some b=>simp [execOp,hop,resolve,invoke,Go.builtin,Builtin.append_,hsv,hyv,Go.underlying,hT.slice hTt,hT.slice hTt1,hT.size hTe,Builtin.lenOf,hks,f1,hcap',storeCells]
   refine fin b cs _ _ hrun ?_;simp only [List.append_nil];exact R1.toLoc (.s d) (by simp [Loc.root]) (w':=w) hpb hul hlc (Nat.le_refl _) ⟨rfl,rfl,fun _ _=>rfl,rfl,Nat.le_refl _⟩ (fun _ _ _=>rfl) (fun hc=>by
    obtain ⟨ℓ0,cur,ec,h1,h2,h3,h4,h5,h6⟩:=hblk hc;exact ⟨(Array.getElem?_eq_some_iff.1 h3).1,.inr ⟨ℓ0,h1,h2⟩,cur,ec,h3,h4,h5,h6⟩)
  have hyp:0<ys.length:=List.length_pos_iff.2 hy0;obtain rfl:=hpb (by omega);obtain ⟨ℓ0,cur,ec,h1,h2,h3,h4,h5,h6⟩:=hblk (by omega);have hlen:arrY.toList.length=ys.length*k1:=by rw [<-hfy];simpa using f2
  have hmul:(l.length+ys.length)*k1<=cs*k1:=Nat.mul_le_mul_right k1 hcap;rw [Nat.add_mul] at hmul;have hst:=run_storeCells_at P b (0+l.length*k1) ec arrY.toList 0 cur w h3 (by omega) (fun v hv=>by
   obtain ⟨q,hq,rfl⟩:=List.mem_iff_getElem.1 hv;have:=(f4 q (by simp at hq;omega)).2;have hq':q<arrY.size:=by simpa using hq
   simpa [Array.getD,hq'] using this)
  have hrs:(0+l.length*k1)+arrY.toList.length<=cur.size:=by omega
  have hrun:(execOp a.eval o).run P w = .ok (.value (.slice (some ⟨b,0,none⟩) (l.length+ys.length) cs)) (w.setRow b (rowOf cur (0+l.length*k1) arrY.toList)):=by
   simp only [Nat.add_zero] at hst;simp [execOp,hop,resolve,invoke,Go.builtin,Builtin.append_,hsv,hyv,Go.underlying,hT.slice hTt,hT.slice hTt1,hT.size hTe,Builtin.lenOf,hks,f1,hcap,Addr.add_none];simp only [Nat.zero_add] at hst ⊢;simp [hst,rowOf]
  refine fin b cs _ _ hrun ?_;have key:=R1.toLoc (.s d) (by simp [Loc.root]) (w':=w.setRow b (rowOf cur (0+l.length*k1) arrY.toList)) (k:=k1) (l:=l++ys) (cap:=cs) (b:=b) (p:=some ⟨b,0,none⟩) (fun _=>rfl) huni (by simpa using hcap) (by simp)
   ⟨rfl,rfl,fun ad _=>a1B _ _ _ ad,rfl,Nat.le_refl _⟩ (fun b' hb' hne=>setRow_other _ _ _ _ (hne (by omega))) (fun hc=>by
    refine ⟨by simpa using (Array.getElem?_eq_some_iff.1 h3).1,.inr ⟨ℓ0,h1,h2⟩,_,ec,setRow_heap _ _ _ _ _ _ h3,by rw [a0L hrs];exact h4,?_⟩;have each : ∀ (q:Nat) (hq:q<(D.flat (l++ys)).length),RepD G.K (D.flat (l++ys))[q] ((rowOf cur (0+l.length*k1) arrY.toList).getD q Go.undef)/\((rowOf cur (0+l.length*k1) arrY.toList).getD q Go.undef).oneCell'=true:=by
     intro q hq;rw [a0Y hrs];simp only [a0T] at hq ⊢;simp only [List.length_append] at hq;by_cases c1:q<0+l.length*k1
     ·rw [if_pos c1,List.getElem_append_left (by omega)];exact ⟨h6 q (by omega),h5 q (by omega)⟩
     rw [if_neg c1,if_pos (by omega),List.getElem_append_right (by omega)];have:=f4 (q-(D.flat l).length) (by omega);have e0:arrY.toList.getD (q-(0+l.length*k1)) Go.undef=arrY.getD (q-(D.flat l).length) Go.undef:=by
      rw [hfl,Nat.zero_add];simp [List.getD,zp5]
     rw [e0];exact this
    exact ⟨fun q hq=>(each q hq).2,fun q hq=>(each q hq).1⟩)
  simpa using key
 have hneed:l.length+ys.length<4294967296:=by omega
 have hbig : ¬ Builtin.nextslicecap (l.length+ys.length) cs*ie.bytes>2 ^ 48:=by
  have h1:=a2f (need:=l.length+ys.length) (cap:=cs) (by omega);have h2:Builtin.nextslicecap (l.length+ys.length) cs*ie.bytes<=(2*(l.length+ys.length)+200)*4096:=Nat.mul_le_mul h1 hbytes;omega
 let qn:=Question.appendCap (l.length+ys.length) cs e;let nc:=qn.cut (w.tape w.drawn qn);let wd:=w.drew;have hwd:wd.heap=w.heap:=rfl;have hnc:l.length+ys.length<=nc:=by simp [nc,qn,Question.cut]
 let rest:=Builtin.zeroCells z0.cells (nc-(l.length+ys.length));have hrest:rest.size=(nc-(l.length+ys.length))*k1:=by simp [rest,Builtin.zeroCells,hzs,hks]
 have hkd : ∀ x v,G.K x=some v->wd.cell? x=some v:=by
  intro x v hx;have:=R.h.kept x v hx;unfold World.cell? at *
  rwa [hwd]
 obtain ⟨arrY,f1,f2,f4⟩:=hfc wd hwd;rw [hyv] at f1;obtain ⟨arrS,s1,s2,s4⟩ : ∃ arrS:Array Value,(Builtin.firstCells k1 l.length (Value.slice p l.length cs)).run P wd = .ok arrS wd/\arrS.size=(D.flat l).length /\ ∀ (q:Nat) (hq:q<(D.flat l).length),RepD G.K (D.flat l)[q] (arrS.getD q Go.undef)/\(arrS.getD q Go.undef).oneCell'=true:=by
  rcases Nat.eq_zero_or_pos cs with hc | hc
  ·subst hc;have hl0:l=[]:=List.eq_nil_of_length_eq_zero (by omega);subst hl0;refine ⟨#[],?_,rfl,fun q hq=>by simp [D.flat] at hq⟩;cases p with
   | none=>simp [Builtin.firstCells]
   | some x=>simp [Builtin.firstCells,loadCells,loadCellsFrom]
  obtain rfl:=hpb hc;obtain ⟨ℓ0,cur,ec,h1,h2,h3,h4,h5,h6⟩:=hblk hc;have hmul:l.length*k1<=cs*k1:=Nat.mul_le_mul_right _ hlc;refine ⟨_,a1M (P:=P) (w:=wd) (cap:=cs) (by rw [hwd];exact h3) (by omega),by simp [hfl],fun q hq => ?_⟩;have:((List.range (l.length*k1)).map fun j=>cur.getD j Go.undef).toArray.getD q Go.undef=cur.getD q Go.undef:=by
   simp [show q<l.length*k1 by omega]
  rw [this];exact ⟨h6 q hq,h5 q hq⟩
 have hrun:(execOp a.eval o).run P w = .ok (.value (.slice (some ⟨w.heap.size,0,none⟩) (l.length+ys.length) nc)) (wd.alloc (.cells (arrS++arrY++rest) e)):=by
  have hcap' : ¬ l.length+ys.length<=cs:=hcap;have key:(Builtin.append_ #[t,u] o.type #[.slice p l.length cs,a.eval y]).run P w = .ok (.slice (some ⟨w.heap.size,0,none⟩) (l.length+ys.length) nc) (wd.alloc (.cells (arrS++arrY++rest) e)):=by
   unfold Builtin.append_;simp [Go.underlying,hT.slice hTt,hT.slice hTt1,hT.size hTe,Builtin.lenOf,hyv,hcap',hks,typeInfo,hie,hbig];have hmax' : ¬ ((9223372036854775807:Int)<(l.length:Int)+(ys.length:Int)/\ie.bytes=0):=by
    intro hh;omega
   rw [if_neg hmax'];have hforced':(Question.appendCap (l.length+ys.length) cs e).forced=false:=rfl;simp only [hforced',Bool.false_eq_true,if_false];rw [show (Builtin.firstCells k1 l.length (Value.slice p l.length cs)).run P w.drew=_ from s1];simp only [Result.andThen_ok];rw [show (Builtin.firstCells k1 ys.length (Value.slice by' ys.length cy)).run P w.drew=_ from f1];simp only [Result.andThen_ok,zeroValue,typeInfo,Sem.run_bind,run_program,hie,hz,Sem.run_pure,newRow,run_newObj];simp [rest,nc,qn,wd]
   rfl
  simp only [execOp,hop,resolve,invoke,Go.builtin,Sem.run_bind,Sem.run_pure,Result.andThen_ok];simp [hsv,key]
 have hnew:(wd.alloc (.cells (arrS++arrY++rest) e)).heap[w.heap.size]?=some (.cells (arrS++arrY++rest) e (0,0)):=heap_alloc_new (w:=wd);refine fin w.heap.size nc _ _ hrun ?_;have key:=R1.toLoc (.s d) (by simp [Loc.root]) (w':=wd.alloc (.cells (arrS++arrY++rest) e)) (k:=k1) (l:=l++ys) (cap:=nc) (b:=w.heap.size) (p:=some ⟨w.heap.size,0,none⟩) (fun _=>rfl) huni (by simpa using hnc) (by simp [wd])
  ⟨rfl,rfl,fun ad _=>(frozen?_alloc_new _ _ (fun _ _ _ e=>by cases e;rfl) ad).trans rfl,rfl,Nat.le_succ _⟩ (fun b' hb' _=>a0o (w:=wd) hb') (fun _=>by
   refine ⟨by simp [wd],.inl (Nat.le_refl _),_,e,hnew,?_,?_⟩
   ·have:(arrS++arrY++rest).size=nc*k1:=by
     simp only [Array.size_append,s2,f2,hfl,hfy,hrest];rw [<-Nat.add_mul,<-Nat.add_mul];congr 1;omega
    omega
   have each : ∀ (q:Nat) (hq:q<(D.flat (l++ys)).length),RepD G.K (D.flat (l++ys))[q] ((arrS++arrY++rest).getD q Go.undef)/\((arrS++arrY++rest).getD q Go.undef).oneCell'=true:=by
    intro q hq;simp only [a0T] at hq ⊢;have e0:(arrS++arrY++rest).getD q Go.undef=if q<arrS.size then arrS.getD q Go.undef else arrY.getD (q-arrS.size) Go.undef:=by
     simp only [List.length_append] at hq;simp only [zp5];split
     ·rename_i hq1;rw [Array.getElem?_append_left (by simp;omega),Array.getElem?_append_left hq1]
     rename_i hq1;rw [Array.getElem?_append_left (by simp;omega),Array.getElem?_append_right (by omega)]
    rw [e0];by_cases hq1:q<arrS.size
    ·rw [if_pos hq1,List.getElem_append_left (by omega)];exact s4 q (by omega)
    rw [if_neg hq1,List.getElem_append_right (by omega)];have:=f4 (q-arrS.size) (by simp at hq;omega);simpa [s2] using this
   exact ⟨fun q hq=>(each q hq).2,fun q hq=>(each q hq).1⟩)
 simpa using key
theorem b2K {s d k1:Nat} {y:Operand} {t u:TypeId} {l ys:List D} (hop:o.op = .call { callee := .builtin .append,args := #[.tmp s,y],argTypes := #[t,u] }) {a0:Nat} (hs:g s = .gref a0 k1) (hHi:σ.heap[a0]?=some (.gro k1 l))
  (ht:a0j T t=some k1) (hu':a0j T u=some k1) (hy:a3O T g u y=some (k1,ys)) (hdst:o.dst=some d) (hk:0<k1) (hlt:d<σ.n) (hbx:(g d).isBox=false) (hfits:(l.length:Int)+ys.length<4294967296) :
  a0f P σ o [(d,.fresh k1 (l++ys))] (some (σ.heap.set a0 .dead)):=by
 intro r n m G a w Q next hm R hn
 refine a8D hT hg hgd (σ1:={ σ with heap:=σ.heap.set a0 .dead }) hop ht hu' (fun R=>a4s hg hy R) hdst hk hlt hbx hfits rfl (by show (σ.get d).isBox=false;rw [<-hgd d hdst];exact hbx) (fun G a w R => ?_) r n m G a w Q next hm R (fun G' a' w' R' hE=>hn G' a' w' (by simpa [St.upd,a0t] using R') hE)
 obtain ⟨p,hv,hnh,hle,hp⟩:=a1L hg R hs;obtain ⟨_,q1,q2,hu,q3⟩:=R.h.objs a0 _ hHi;refine ⟨R.kill a0,hu,p,G.β (.o (a0+1)),G.β (.o a0),by rw [hv,q1],q2,hp,fun hc => ?_⟩;obtain ⟨vs,e,h1,h2,h3,h4,h5⟩:=q3 hc;refine ⟨.o a0,vs,e,h1,?_,h2,h3,h4,h5⟩;simp only [lets];rw [List.getElem?_set_self (zp2.1 hHi).1]
theorem b5d {y k:Nat} {a0:Nat} {l:List D} (hy:g y = .gref a0 k) (hHi:σ.heap[a0]?=some (.gro k l)) {G:Gh} {a:Act} {w:World} (R:Rel G σ a w) :
  a0m k l/\(∃ b cap,a.eval (.tmp y) = .slice b l.length cap) /\ ∀ w':World,w'.heap=w.heap -> ∃ arr:Array Value,(Builtin.firstCells k l.length (a.eval (.tmp y))).run P w' = .ok arr w'/\arr.size=(D.flat l).length /\
   ∀ (q:Nat) (hq:q<(D.flat l).length),RepD G.K (D.flat l)[q] (arr.getD q Go.undef)/\(arr.getD q Go.undef).oneCell'=true:=by
 obtain ⟨p,hv,hnh,hle,hp⟩:=a1L hg R hy;obtain ⟨_,hln,hlc,hu,hrow⟩:=R.h.objs a0 _ hHi;have hfl:=a0b hu;rw [<-hln] at hv;refine ⟨hu,⟨p,_,hv⟩,fun w' hw' => ?_⟩;rw [hv];rcases Nat.eq_zero_or_pos l.length with h0 | h0
 ·rw [h0];refine ⟨#[],by cases p <;> simp [Builtin.firstCells,loadCells,loadCellsFrom],?_,fun q hq => ?_⟩
  ·rw [hfl,h0];simp
  rw [hfl,h0] at hq;omega
 have hc:0<G.β (.o (a0+1)):=by omega
 obtain ⟨vs,e,hO,hw,hsz,hone,hh⟩:=hrow hc;have hmul:l.length*k<=vs.size:=Nat.le_trans (Nat.mul_le_mul_right _ hlc) hsz;rw [hp hc,a1M (P:=P) (w:=w') (by rw [hw'];exact hw) hmul];refine ⟨_,rfl,by simp [hfl],fun q hq => ?_⟩;have hq':q<l.length*k:=by rw [<-hfl];exact hq
 have e1:((List.range (l.length*k)).map fun j=>vs.getD j Go.undef).toArray.getD q Go.undef=vs.getD q Go.undef:=by
  simp [hq']
 rw [e1];exact ⟨hh q hq,hone q hq⟩
theorem b2L {H:List Obj} {y:Operand} {k1:Nat} {u:TypeId} {ys:List D} (hH:(∃ i a k,y = .tmp i/\g i = .gref a k)->H=σ.heap) (hy:b6Z T g H u y=some (k1,ys)) {G:Gh} {a:Act} {w:World} (R:Rel G σ a w) :
  a0m k1 ys/\(∃ b cap,a.eval y = .slice b ys.length cap) /\ ∀ w':World,w'.heap=w.heap -> ∃ arr:Array Value,(Builtin.firstCells k1 ys.length (a.eval y)).run P w' = .ok arr w'/\arr.size=(D.flat ys).length /\
   ∀ (q:Nat) (hq:q<(D.flat ys).length),RepD G.K (D.flat ys)[q] (arr.getD q Go.undef)/\(arr.getD q Go.undef).oneCell'=true:=by
 unfold b6Z at hy;split at hy
 ·rename_i a0 k hs;cases y with
  | tmp i =>
    have hs:g i = .gref a0 k:=hs;have:=hH ⟨i,a0,k,rfl,hs⟩;subst this;split at hy
    ·rename_i k' l hHi;split at hy
     ·rename_i hk;subst hk;cases hy;exact b5d hT hg hgd hs hHi R
     cases hy
    cases hy
  | _=>cases hs
 exact a4s hg hy R
theorem a6K {s d k1:Nat} {y:Operand} {t u:TypeId} {ys:List D} (hop:o.op = .call { callee := .builtin .append,args := #[.tmp s,y],argTypes := #[t,u] }) (hs:(g s).emptyOf=some k1)
  (ht:a0j T t=some k1) (hu':a0j T u=some k1) (hsrc : ∀ {G:Gh} {a:Act} {w:World},Rel G σ a w->a0m k1 ys/\(∃ b cap,a.eval y = .slice b ys.length cap) /\ ∀ w':World,w'.heap=w.heap -> ∃ arr:Array Value,(Builtin.firstCells k1 ys.length (a.eval y)).run P w' = .ok arr w'/\arr.size=(D.flat ys).length /\
   ∀ (q:Nat) (hq:q<(D.flat ys).length),RepD G.K (D.flat ys)[q] (arr.getD q Go.undef)/\(arr.getD q Go.undef).oneCell'=true) (hdst:o.dst=some d) (hk:0<k1) (hlt:d<σ.n) (hbx:(g d).isBox=false) (hsd : ¬ s=d) (hfits:(ys.length:Int)<4294967296) :
  a0f P σ o [(s,.d (.list k1 [])),(d,.fresh k1 ys)] none:=by
 have hs':σ.get s = .own k1 []\/σ.get s = .lim k1 []:=by
  have hne:g s ≠ .undef:=by intro h;rw [h] at hs;cases hs
  have e:σ.get s=g s:=hg.eq rfl hne;rw [e];unfold AV.emptyOf at hs;split at hs
  ·rename_i h;cases hs;exact .inl h
  ·rename_i h;cases hs;exact .inr h
  cases hs
 have hdb:(σ.get d).isBox=false:=by rw [<-hgd d hdst];exact hbx
 intro r n m G a w Q next hm R hn
 refine a8D hT hg hgd (σ1:=σ.upd [(s,.d (.list k1 []))] none) (l:=[]) hop ht hu' hsrc hdst hk hlt hbx (by simpa using hfits) rfl ?_ (fun G a w R => ?_) r n m G a w Q next hm R (fun G' a' w' R' hE=>hn G' a' w' (by simpa [St.upd,a0t] using R') hE)
 ·simp only [St.upd,St.get,a0t,List.foldl_cons,List.foldl_nil,a0e,if_neg hsd];exact hdb
 have R1:=R.demote (s:=s) (k:=k1) (l:=[]) (by rcases hs' with h | h;exact .inl h;exact .inr (.inl h))
 have hrep:=R.slots s;refine ⟨R1,fun x hx=>by simp at hx,?_⟩;show ∃ p cs b,a.tmps.getD s Go.undef=_/\_;generalize hsv:a.tmps.getD s Go.undef=sv at hrep;rcases hs' with h | h
 ·rw [h] at hrep;cases hrep with | own _ _ _ _ hr ht =>
  have hsl : ∃ p cap,sv = .slice p 0 cap:=by
   rcases hr.slice with ⟨_,oa,hv⟩ | ⟨b,off,cap,hv⟩
   ·exact ⟨_,_,hv⟩
   exact ⟨_,_,hv⟩
  obtain ⟨p,cap,rfl⟩:=hsl;rcases Nat.eq_zero_or_pos cap with hc | hc
  ·exact ⟨p,cap,0,rfl,by simp,fun h=>by omega,fun h=>by omega⟩
  cases p with
  | none =>
    generalize hv':Value.slice none 0 cap=v at hr;cases hr with
    | nil=>simp at hv';omega
    | none0=>simp at hv'
    | list=>simp at hv'
  | some ad =>
    obtain ⟨f,c,e,h1,h2,h3,h4,h5⟩:=ht ad 0 cap rfl hc;have hspot:ad.spot=none:=by
     generalize hv':Value.slice (some ad) 0 cap=v at hr;cases hr with
     | nil=>simp at hv'
     | none0=>simp at hv';omega
     | list=>simp at hv';rw [hv'.1]
    have had:ad=⟨ad.block,0,none⟩:=by obtain ⟨x,y,z⟩:=ad;simp at hspot h5;simp [hspot,h5]
    have hf:f=0:=by rw [h5] at h2;simpa using h2
    subst hf;refine ⟨some ad,cap,ad.block,rfl,by simp,fun _=>by rw [<-had],fun _=>⟨.s s,c,e,h1,?_,h3,by rw [h5] at h4;simpa using h4,fun j hj=>by simp [D.flat] at hj,fun j hj=>by simp [D.flat] at hj⟩⟩;simp only [lets,St.upd,St.get,a0t,List.foldl_cons,List.foldl_nil,a0e,if_true]
    rfl
 rw [h] at hrep;cases hrep with | lim _ _ _ _ hr ht =>
 have hsl : ∃ p cap,sv = .slice p 0 cap:=by
  rcases hr.slice with ⟨_,oa,hv⟩ | ⟨b,off,cap,hv⟩
  ·exact ⟨_,_,hv⟩
  exact ⟨_,_,hv⟩
 obtain ⟨p,cap,rfl⟩:=hsl;have:=ht _ _ _ rfl;exact ⟨p,cap,0,rfl,by simp,fun h=>by omega,fun h=>by omega⟩
theorem b5e {t:TypeId} {cnt:Nat} {parts:Array (Nat×Operand)} (hop:o.op = .buildSlice t cnt parts) {d:Nat} (hdst:o.dst=some d) {sz e:Nat} {zz:List AV} (ht:T t=some { size:=sz,u := .slice e,zero:=zz }) {td:TD} (hte:T e=some td)
  (hps:parts.size=cnt) (hpos:0<td.size) (hbig:cnt*td.size<=4096) (hlt:d<σ.n) (hb:(g d).isBox=false) {l:List D} (hl:a3a Ar.std T g e td.size parts.toList 0=some l) :
  a0f P σ o [(d,.gref σ.heap.length td.size)] (some (σ.heap++[.gro td.size l,.dead,.dead])):=by
 have hnd : ∀ c,o.op ≠ .defer c:=by simp [hop]
 intro r n m G a w Q next hm R hn
 obtain ⟨cells',hu,hsz,hrun,each⟩:=b2z hT hg hop ht hte hps hpos hbig hl R;have hfl:=a0b hu;obtain ⟨R2,hext,hrep⟩:=R.toGro (w':=w.alloc (.cells cells' e)) (k:=td.size) (l:=l) (cap:=l.length) (b:=w.heap.size) (p:=some ⟨w.heap.size,0,none⟩) (fun _=>rfl) hu (Nat.le_refl _) (by simp)
  ⟨rfl,rfl,fun ad _=>frozen?_alloc_new _ _ (fun _ _ _ e=>by cases e;rfl) ad,rfl,Nat.le_refl _⟩ (fun b' hb' _=>a0o hb') (fun _ =>
   ⟨by simp,.inl (Nat.le_refl _),_,e,heap_alloc_new,by omega,fun q hq=>(each q hq).2,fun q hq=>(each q hq).1⟩)
 refine a0x hnd hrun (hn _ _ _ ?_ (hext m hm));rw [hdst];have:=R2.put (d:=d) (hrep _) (fun r off e=>by cases e) (by show (σ.get d).isBox=false;rw [<-hgd d hdst];exact hb) hlt;simpa [St.upd,a0t] using this
theorem b2M {t:TypeId} {ln cp:Operand} (hop:o.op = .makeSlice t ln cp) {d:Nat} (hdst:o.dst=some d) {sz e:Nat} {zz:List AV} (ht:T t=some { size:=sz,u := .slice e,zero:=zz }) {td:TD} (hte:T e=some td) {kz kz':IntKind} {z z':Int}
  (hln:opD T g 0 ln=some (.int kz z)) (hcp:opD T g 0 cp=some (.int kz' z')) {y:D} (hy:a4V td=some y) (hlt:d<σ.n) (hb:(g d).isBox=false) (hpos:0<td.size) (hz0:0<=z) (hzz:z<=z') (hfit:z'<4294967296) :
  a0f P σ o [(d,.gref σ.heap.length td.size)] (some (σ.heap++[.gro td.size (Ar.std.rep z y),.dead,.dead])):=by
 have hnd : ∀ c,o.op ≠ .defer c:=by simp [hop]
 intro r n m G a w Q next hm R hn
 have h1:=a0B hg R hln;have h2:=a0B hg R hcp;obtain ⟨ie,de,hie,hde,hisz,hbytes,_⟩:=hT.info hte;obtain ⟨z0,hz0',hz0s,hyl,hzr⟩:=a3T hT hte hy hie;obtain ⟨N,rfl⟩:=zp9 hz0;obtain ⟨M,rfl⟩:=zp9 (show 0<=z' by omega);have hNM:N<=M:=by omega
 have e1:a.eval ln = .int kz N:=by generalize hv:a.eval ln=v at h1;cases h1;rfl
 have e2:a.eval cp = .int kz' M:=by generalize hv:a.eval cp=v at h2;cases h2;rfl
 have hmk:=run_make (P:=P) w t e ie z0 (hT.slice ht) hie hz0' kz kz' N M (by omega) (by omega) (by
  have:ie.bytes*M<=4096*4294967296:=Nat.mul_le_mul hbytes (by omega);have h3:((ie.bytes*M:Nat):Int)<=281474976710656:=by omega
  rwa [Int.natCast_mul] at h3) (by omega)
 simp only [Int.toNat_natCast,hisz] at hmk;have hu:a0m td.size (List.replicate N y):=fun x hx=>by rw [(List.mem_replicate.1 hx).2];exact hyl
 have hfl:=a0b hu;have hmul:N*td.size<=M*td.size:=Nat.mul_le_mul_right _ hNM;have hget : ∀ q,q<N*td.size->(madeCells z0.cells (M*td.size)).getD q Go.undef=z0.cells.getD (q%td.size) Go.undef:=by
  intro q hq;have hm:=Nat.mod_lt q hpos;have hq2:q<M*td.size:=by omega
  simp [madeCells,hz0s,hq2,Array.getD,hm]
 have hrep0:Ar.std.rep (N:Int) y=List.replicate N y:=by simp [Ar.std]
 rw [hrep0] at hn;have hrun:(execOp a.eval o).run P w = .ok (.value (.slice (some ⟨w.heap.size,0,none⟩) N M)) (w.alloc (.cells (madeCells z0.cells (M*td.size)) e)):=by simp [execOp,hop,e1,e2,hmk]
 have each : ∀ (q:Nat) (hq:q<(D.flat (List.replicate N y)).length),RepD G.K (D.flat (List.replicate N y))[q] ((madeCells z0.cells (M*td.size)).getD q Go.undef)/\((madeCells z0.cells (M*td.size)).getD q Go.undef).oneCell'=true:=by
  intro q hq;have hq':q<N*td.size:=by simpa [hfl] using hq
  have hqm:q%td.size<td.size:=Nat.mod_lt _ hpos;have hqd:q / td.size<N:=by rw [Nat.div_lt_iff_lt_mul hpos];exact hq'
  have hqq:q / td.size*td.size+q%td.size=q:=by rw [Nat.mul_comm];exact Nat.div_add_mod _ _
  have hfg:=a0A hu (i:=q / td.size) (y:=y) (by rw [List.getElem?_replicate,if_pos hqd]) (q%td.size) hqm;rw [hqq,zp1 hq,zp1 (by omega)] at hfg;rw [Option.some.inj hfg,hget q hq'];exact hzr _ _ _
 obtain ⟨R2,hext,hrep⟩:=R.toGro (w':=w.alloc (.cells (madeCells z0.cells (M*td.size)) e)) (k:=td.size) (l:=List.replicate N y) (cap:=M) (b:=w.heap.size) (p:=some ⟨w.heap.size,0,none⟩) (fun _=>rfl) hu (by simp;omega) (by simp)
  ⟨rfl,rfl,fun ad _=>frozen?_alloc_new _ _ (fun _ _ _ e=>by cases e;rfl) ad,rfl,Nat.le_refl _⟩ (fun b' hb' _=>a0o hb') (fun _ =>
   ⟨by simp,.inl (Nat.le_refl _),_,e,heap_alloc_new,by rw [size_madeCells];simp,fun q hq=>(each q hq).2,fun q hq=>(each q hq).1⟩)
 refine a0x hnd hrun (hn _ _ _ ?_ (hext m hm));rw [hdst];simp only [List.length_replicate] at R2 hrep;have:=R2.put (d:=d) (hrep _) (fun r off e=>by cases e) (by show (σ.get d).isBox=false;rw [<-hgd d hdst];exact hb) hlt;simpa [St.upd,a0t] using this
theorem b2N {t:TypeId} {s:Nat} {i:Operand} (hop:o.op = .indexAddr t (.tmp s) i) {a0 k j0:Nat} {i0:Int} (hs:g s = .eptr a0 k i0 j0)
  {sz mm e:Nat} {zz:List AV} (ht:T t=some { size:=sz,u := .array mm e,zero:=zz }) {td:TD} (hte:T e=some td) {kz:IntKind} {z:Int} (hi:opv T g 0 i=some (.d (.int kz z))) (hz0:0<=z) (hz1:z<(mm:Int))
  (h:put σ.n g o.dst (.eptr a0 k i0 (j0+z.toNat*td.size))=some (ss,h')):a0f P σ o ss h':=by
 refine a0d hgd h (by simp [hop]) (AV.free_place rfl) ?_;intro G a w R;have h1:=(a0U hg R hi .no).1;cases h1 with | d _ _ _ h1 =>
 generalize hei:a.eval i=vi at h1;cases h1;obtain ⟨hv,hnh,hi0⟩:=eptr_val hg R (x := .tmp s) hs;refine ⟨.pointer (some ⟨G.β (.o a0),i0.toNat*k+j0+z.toNat*td.size,none⟩),?_,fun d => ?_⟩
 ·simp [execOp,hop,hv,hei,Instr.indexAt,asIntOf,Go.underlying,hT.array ht,Instr.sureAddr,hz0,hz1,hT.size hte,Addr.add_none]
 have:=RepV.eptr (G:=G) (w:=w) (.s d) a0 k i0 (j0+z.toNat*td.size) hnh hi0;rw [<-Nat.add_assoc] at this;exact this
theorem b2O {op:BinOp} {t t':TypeId} {s:Nat} (hop:o.op = .binOp op t (.tmp s) (.const (.pointer none)) t') {b:Bool} (hb:(g s).nilP=some b) {sz:Nat} {zz:List AV} (ht:T t=some { size:=sz,u := .pointer,zero:=zz })
  {neg:Bool} (hneg:op=if neg then .neq else .eql) (h:put σ.n g o.dst (.d (.bool (bif neg then !b else b)))=some (ss,h')):a0f P σ o ss h':=by
 obtain ⟨e,he⟩:=hT.pointer ht;refine a0d hgd h (by simp [hop]) (AV.free_place rfl) ?_;intro G a w R;have hrep:=hg.rep R s;have hv : ∃ p:Option Addr,a.eval (.tmp s) = .pointer p/\p.isNone=b:=by
  show ∃ p:Option Addr,a.tmps.getD s Go.undef = .pointer p/\_;generalize a.tmps.getD s Go.undef=v at hrep;unfold AV.nilP at hb;split at hb
  ·rename_i hgs;cases hb;rw [hgs] at hrep;cases hrep;exact ⟨none,rfl,rfl⟩
  ·rename_i hgs;cases hb;rw [hgs] at hrep;cases hrep;exact ⟨some _,rfl,rfl⟩
  ·rename_i hgs;cases hb;rw [hgs] at hrep;cases hrep;exact ⟨some _,rfl,rfl⟩
  ·rename_i hgs;cases hb;rw [hgs] at hrep;cases hrep with | d _ _ _ hr=>cases hr;exact ⟨some _,rfl,rfl⟩
  ·rename_i hgs;cases hb;rw [hgs] at hrep;cases hrep;exact ⟨some _,rfl,rfl⟩
  cases hb
 obtain ⟨p,hp,rfl⟩:=hv;have heq:(Op.equal t (.pointer p) (.pointer none)).run P w = .ok p.isNone w:=by
  have h1 : ∀ d:Nat,(Op.equalIn (d+1) t (.pointer p) (.pointer none)).run P w = .ok p.isNone w:=fun d=>by
   cases p <;> simp [Op.equalIn,Go.underlying,he]
  simp [Op.equal,Op.maxDepth,h1 9999]
 have hc:a.eval (.const (.pointer none)) = .pointer none:=rfl;refine ⟨.bool (bif neg then !p.isNone else p.isNone),?_,fun d => .d _ _ _ (.bool _)⟩
 have hgu:(eqGuard op t (.tmp s) (.const (.pointer none)) (.pointer p) (.pointer none)).run P w = .ok () w:=by
  unfold eqGuard;cases neg <;> simp at hneg <;> subst hneg <;> simp
 have hbo:(Go.binOp op t (.pointer p) (.pointer none)).run P w = .ok (.bool (bif neg then !p.isNone else p.isNone)) w:=by
  cases neg <;> simp at hneg <;> subst hneg <;> simp [Go.binOp,heq]
 simp [execOp,hop,hp,hc,hgu,hbo]
theorem b5f (hH : ∀ (i:Nat) (ob:Obj),H[i]?=some ob->σ.heap[i]?=some ob) (hHe:a0I an g o=true->H=σ.heap) (h:a4m Ar.std T an σ.n g H o=some (some (ss,h'))):a0f P σ o ss h':=by
 unfold a4m at h;split at h
 ·rename_i args ts hop;split at h
  ·rename_i s t hargs hts;obtain rfl:args = #[.tmp s]:=by cases args;simp_all
   obtain rfl:ts = #[t]:=by cases ts;simp_all
   split at h
   ·rename_i a0 k hs;simp only [zp3] at h;split at h
    ·rename_i sz e z k' l ht hHi;split at h
     ·rename_i hk;subst hk;exact b9u hT hg hgd hop hs (hH _ _ hHi) ht h
     cases h
    cases h
   cases h
  cases h
 ·rename_i t s i hop;split at h
  ·rename_i a0 k hs;simp only [zp3] at h;split at h
   ·rename_i sz e zz kz z k' l ht hi hHi;split at h
    ·rename_i td hte;split at h
     ·rename_i hc;simp only [zp4,decide_eq_true_eq,a2x] at hc;obtain ⟨⟨⟨hk,rfl⟩,hz0⟩,hz1⟩:=hc;exact b5b hT hg hgd hop hs (hH _ _ hHi) ht hte hi hk hz0 (by simpa [Ar.std] using hz1) h
     cases h
    cases h
   cases h
  ·rename_i a0 k i0 j0 hs;split at h
   ·simp only [zp3] at h;split at h
    ·rename_i sz mm e zz kz z ht hi;split at h
     ·rename_i td hte;split at h
      ·rename_i hc;simp only [zp4,a2x,a3P,decide_eq_true_eq] at hc;rw [b0q,a4i] at h;exact b2N hT hg hgd hop hs ht hte hi hc.1 hc.2 h
      cases h
     cases h
    cases h
   cases h
  cases h
 ·rename_i t s hop;split at h
  ·rename_i a0 k i j hs;split at h
   ·rename_i k' l hHi;simp only [zp3] at h;split at h
    ·rename_i td ht;split at h
     ·rename_i hk;subst hk;split at h
      ·rename_i y hy;split at h
       ·rename_i v hv;exact b2H hT hg hgd hop hs (hH _ _ hHi) ht (by simpa [Ar.std] using hy) (a8B hv) h
       obtain ⟨av,hav,hp⟩:=a1e h;exact b2H hT hg hgd hop hs (hH _ _ hHi) ht (by simpa [Ar.std] using hy) (fun _=>hav) hp
      cases h
     cases h
    cases h
   cases h
  cases h
 ·rename_i t s yo hop;split at h
  ·rename_i a0 off hs;split at h
   ·rename_i q;split at h
    ·rename_i k l hq;have hHσ:H=σ.heap:=hHe (by simp [a0I,hop,hs]);subst hHσ;simp only [zp3] at h;split at h
     ·rename_i td cs ht hHi hdst;split at h
      ·rename_i hc;obtain ⟨h1,h2,h3⟩:=hc;cases h;exact b2J hT hg hgd hop hs hq hHi ht h1 h3 hdst
      cases h
     cases h
    cases h
   cases h
  ·rename_i a0 k i j hs;have hHσ:H=σ.heap:=hHe (by simp [a0I,hop,hs]);subst hHσ;split at h
   ·rename_i k' l hHi;simp only [zp3] at h;split at h
    ·rename_i td v ht hv hdst;split at h
     ·rename_i hc;obtain ⟨rfl,hpos,hvl⟩:=hc;split at h
      ·rename_i y0 hy0;replace hy0:l[i.toNat]?=some y0:=by simpa [Ar.std] using hy0
       split at h
       ·rename_i hc;obtain ⟨rfl,hsz⟩:=hc;cases h;exact b0x hT hg hgd hop hs hHi ht hv hdst hpos hvl hy0 (fun _=>⟨by omega,by omega,fun q hq=>by rw [if_pos (by omega)];simp⟩)
       split at h
       ·rename_i cs;split at h
        ·rename_i hc2;cases h;refine b0x hT hg hgd hop hs hHi ht hv hdst hpos hvl hy0 (fun hyk => ?_);replace hyk:cs.length=k':=hyk;have hv2:j+v.cells.length<=cs.length:=by omega
         have e:=a2B cs v.cells j;have el:=a1Q cs v.cells j hv2;rw [<-hvl];refine ⟨el.trans hyk,by omega,fun q hq => ?_⟩;refine (e q hv2).trans ?_;show _=if j<=q/\q<j+v.cells.length then v.cells[q-j]? else cs[q]?
         by_cases c1:q<j
         ·rw [if_pos c1,if_neg (by omega)]
         rw [if_neg c1];by_cases c2:q<j+v.cells.length
         ·rw [if_pos c2,if_pos (by omega)]
         rw [if_neg c2,if_neg (by omega)]
        cases h
       cases h
      cases h
     cases h
    cases h
   cases h
  cases h
 ·rename_i op t s t' hop;split at h
  ·rename_i b hb;simp only [zp3] at h;split at h
   ·rename_i sz zz ht;split at h
    ·exact b2O hT hg hgd hop hb ht (neg:=false) rfl h
    ·exact b2O hT hg hgd hop hb ht (neg:=true) rfl h
    cases h
   cases h
  cases h
 ·rename_i t s hi hop;split at h
  ·rename_i a0 k hs;have hHσ:H=σ.heap:=hHe (by simp [a0I,hop,hs]);subst hHσ;simp only [zp3] at h;split at h
   ·rename_i es z k' l d hes hb hHi hdst;split at h
    ·rename_i hc;simp [Ar.std] at hc;obtain ⟨⟨⟨⟨⟨rfl,rfl⟩,hz0⟩,hz1⟩,hlt⟩,hbx⟩:=hc;cases h;exact b5c hT hg hgd hop hs hHi hes hb hz0 hz1 hdst hlt hbx
    cases h
   cases h
  cases h
 ·rename_i args ts hop;split at h
  ·rename_i s y t u d hargs hts hdst;obtain rfl:args = #[.tmp s,y]:=by cases args;simp_all
   obtain rfl:ts = #[t,u]:=by cases ts;simp_all
   split at h
   ·rename_i a0 k hs;have hHσ:H=σ.heap:=hHe (by simp [a0I,hop,hs]);subst hHσ;simp only [zp3] at h;split at h
    ·rename_i es es' k2 ys k' l het heu hy hHi;split at h
     ·rename_i hc;simp [Ar.std] at hc;obtain ⟨⟨⟨⟨⟨⟨⟨rfl,rfl⟩,rfl⟩,rfl⟩,hpos⟩,hlt⟩,hbx⟩,hfits⟩:=hc;have hbase:=b2K hT hg hgd hop hs hHi het heu hy hdst hpos hlt hbx hfits;split at h
      ·cases h;have:=a0f.settle hbase (by simp);rw [List.length_set] at this;exact this
      cases h;exact hbase
     cases h
    cases h
   split at h
   ·rename_i hgr;split at h
    ·rename_i k hk;simp only [zp3] at h;split at h
     ·rename_i es es' k2 ys het heu hy;split at h
      ·rename_i hc;simp [Ar.std] at hc;obtain ⟨⟨⟨⟨⟨⟨⟨rfl,rfl⟩,rfl⟩,hpos⟩,hlt⟩,hbx⟩,hsd⟩,hfits⟩:=hc;cases h;exact a6K hT hg hgd hop hk het heu (fun R=>b2L hT hg hgd (by rintro ⟨i,a0,k0,rfl,hyg⟩;exact hHe (by simp [a0I,hop,hyg])) hy R) hdst hpos hlt hbx hsd hfits
      cases h
     cases h
    cases h
   cases h
  cases h
 ·rename_i t cnt parts hop;split at h
  ·rename_i d hdst;split at h
   ·rename_i hgr;have hHσ:H=σ.heap:=hHe (by simp only [a0I,hop,hdst,hgr,Bool.true_or]);subst hHσ;simp only [zp3] at h;split at h
    ·rename_i sz e zz ht;split at h
     ·rename_i td hte;split at h
      ·rename_i hc;simp only [zp4,decide_eq_true_eq] at hc;obtain ⟨⟨⟨⟨hps,hpos⟩,hbig⟩,hlt⟩,hb⟩:=hc;split at h
       ·rename_i l hl;cases h;exact b5e hT hg hgd hop hdst ht hte hps hpos hbig hlt (by simpa using hb) hl
       cases h
      cases h
     cases h
    cases h
   cases h
  cases h
 ·rename_i t ln cp hop;split at h
  ·rename_i d hdst;split at h
   ·rename_i hgr;have hHσ:H=σ.heap:=hHe (by simp [a0I,hop]);subst hHσ;simp only [zp3] at h;split at h
    ·rename_i sz e zz kz z kz' z' ht hln hcp;split at h
     ·rename_i td hte;split at h
      ·rename_i y hy;by_cases hth:an.th.contains d=true
       ·rw [if_pos hth] at h;split at h
        ·rename_i hc;cases h;simp only [zp4,decide_eq_true_eq] at hc;obtain ⟨⟨⟨⟨hlt,hb⟩,hpos⟩,hzz,hfit⟩,hz0⟩:=hc;exact b2M hT hg hgd hop hdst ht hte hln hcp hy hlt (by simpa using hb) hpos (by simpa [Ar.std] using hz0) (by simpa [Ar.std] using hzz) (by simpa [Ar.std] using hfit)
        cases h
       rw [if_neg hth] at h;split at h
       ·rename_i hc;cases h;simp only [zp4,decide_eq_true_eq] at hc;obtain ⟨⟨⟨⟨hlt,hb⟩,hpos⟩,hzz,hfit⟩,hz0⟩:=hc;have hzz:z=z':=by simpa [Ar.std] using hzz
        exact b2M hT hg hgd hop hdst ht hte hln hcp hy hlt (by simpa using hb) hpos (by simpa [Ar.std] using hz0) (by omega) (by rw [<-hzz];simpa [Ar.std] using hfit)
       cases h
      cases h
     cases h
    cases h
   cases h
  cases h
 cases h
end
theorem b2P {A:Ar} {T:a0l} {an:Ann} {n:Nat} {g:Nat->AV} {H H':List Obj} {o:Oper} {ss:a1p} (h:a4m A T an n g H o=some (some (ss,some H'))):H.length<=H'.length:=by
 unfold a4m at h;have hput : ∀ {dst v},put n g dst v≠some (ss,some H'):=by
  intro dst v h;obtain ⟨h,_⟩:=a0G h;cases h
 have hputO : ∀ {dst v},a5d n g dst v≠some (ss,some H'):=by
  intro dst v h;unfold a5d at h;split at h
  ·exact hput h
  cases h
 repeat' (split at h)
 all_goals first
  | (cases h;done)
  | (rw [b0q] at h;exact absurd (Option.some.inj h) hput)
  | (exact absurd (Option.some.inj h) hput)
  | (exact absurd (Option.some.inj h) hputO)
  | (simp only [zp3,Prod.mk.injEq] at h;obtain ⟨_,rfl⟩:=h;simp)
  | skip
theorem a3d : ∀ {cs:List AV} {ds:List D},a4k cs=some ds->cs=ds.map .d
 | [],ds,h=>by simp [a4k] at h;subst h;rfl
 | c::r,ds,h=>by
   cases c <;> simp only [a4k] at h <;> (repeat' split at h) <;> first | (cases h;done) | skip
   rename_i x y hy;cases h;rw [a3d hy];rfl
theorem b2Q (z:Int) (i:Nat) (x r:D):b6Y Ar.std z i x r=if z=Int.ofNat i then x else r:=by
 have e:Ar.std.zeq z (Int.ofNat i)=decide (z=Int.ofNat i):=rfl;unfold b6Y;rw [e];by_cases h:z=Int.ofNat i
 ·rw [decide_eq_true h,if_pos h];split
  ·split
   ·rename_i hk;subst hk;rfl
   rfl
  rfl
 rw [decide_eq_false h,if_neg h];split
 ·split
  ·rename_i hk;subst hk;rfl
  rfl
 rfl
theorem a8E (z:Int) (x:D) : ∀ (i:Nat) (l:List D) (q:Nat),(a6l Ar.std z x i l)[q]?=if z=Int.ofNat (i+q) then (l[q]?).map (fun _=>x) else l[q]?
 | i,[],q=>by simp [a6l]
 | i,r::rs,0=>by
   simp only [a6l,List.getElem?_cons_zero,b2Q,Nat.add_zero];split <;> simp
 | i,r::rs,q+1=>by
   simp only [a6l,List.getElem?_cons_succ];rw [a8E z x (i+1) rs q,show i+1+q=i+(q+1) by omega]
theorem a8F {z:Int} (x:D) {l:List D} (h0:0<=z) (h1:z<(l.length:Int)):a6l Ar.std z x 0 l=l.set z.toNat x:=by
 apply List.ext_getElem?;intro q;rw [a8E,List.getElem?_set,Nat.zero_add];by_cases h:z.toNat=q
 ·have hq:q<l.length:=by omega
  rw [if_pos (by show z=(q:Int);omega),if_pos h,if_pos (by omega),zp1 hq];rfl
 rw [if_neg (by intro e;exact h (by rw [e];rfl)),if_neg h]
theorem b2R {α:Type} {cs:List α} {j m q:Nat} (h:j+m<=cs.length) (hq:q<m) (x:α):cs.take j++((cs.drop j).take m).set q x++cs.drop (j+m)=cs.set (j+q) x:=by
 apply List.ext_getElem?;intro p;have h1:(cs.take j).length=j:=by simp;omega
 have h2:(((cs.drop j).take m).set q x).length=m:=by simp;omega
 rw [List.append_assoc];by_cases hp:p<j
 ·rw [zp7 (by omega),List.getElem?_take_of_lt hp,List.getElem?_set_ne (by omega)]
 rw [zp8 (by omega),h1];by_cases hp2:p<j+m
 ·rw [zp7 (by omega),List.getElem?_set];by_cases he:q=p-j
  ·rw [if_pos he,if_pos (by simp;omega),List.getElem?_set,if_pos (by omega),if_pos (by omega)]
  rw [if_neg he,List.getElem?_take_of_lt (by omega),List.getElem?_drop,List.getElem?_set_ne (by omega)];congr 1;omega
 rw [zp8 (by omega),h2,List.getElem?_drop,List.getElem?_set_ne (by omega)];congr 1;omega
theorem a3o {G:Gh} {σ:St} {g:Nat->AV} {a:Act} {w:World} (hg:Less g σ) (R:Rel G σ a w) {s b k j m:Nat} {i z:Int} (h:g s = .vptr b k i j m z) :
  (a.eval (.tmp s) = .pointer (some ⟨G.β (.o b),i.toNat*k+(j+z.toNat),none⟩)/\b<G.nh/\0<=i)/\0<=z/\z<(m:Int):=by
 have:=hg.rep R s;rw [h] at this;generalize hv:a.tmps.getD s Go.undef=v at this;cases this with | vptr _ _ _ _ _ _ _ h1 h2 h3 h4=>exact ⟨⟨hv,h1,h2⟩,h3,h4⟩
theorem a0f.ofRep {P:Program} {σ:St} {o:Oper} {ss:a1p} {h':Option (List Obj)} (h:(∃ G a w,Rel G σ a w)->a0f P σ o ss h'):a0f P σ o ss h' :=
 fun r n m G a w Q next hm R hn=>h ⟨G,a,w,R⟩ r n m G a w Q next hm R hn
section
variable {P:Program} {T:a0l} (hT:TOk P T) {σ:St} {g:Nat->AV} {o:Oper} {ss:a1p} {h':Option (List Obj)} {H:List Obj} {an:Ann}
 (hg:Less g σ) (hgd : ∀ d,o.dst=some d->g d=σ.get d)
include hT hg hgd
theorem b0y {t:TypeId} {s:Nat} {i:Operand} (hop:o.op = .indexAddr t (.tmp s) i) {a0 k j0:Nat} {i0:Int} (hs:g s = .eptr a0 k i0 j0\/(g s = .ptr a0 j0/\k=0/\i0=0))
  {sz mm e:Nat} {zz:List AV} (ht:T t=some { size:=sz,u := .array mm e,zero:=zz }) {td:TD} (hte:T e=some td) {kz:IntKind} {z:Int} (hi:opv T g 0 i=some (.d (.int kz z))) (hsz:td.size=1) (hz0:0<=z) (hz1:z<(mm:Int))
  (h:put σ.n g o.dst (.vptr a0 k i0 j0 mm z)=some (ss,h')):a0f P σ o ss h':=by
 refine a0d hgd h (by simp [hop]) (AV.free_place rfl) ?_;intro G a w R;have h1:=(a0U hg R hi .no).1;cases h1 with | d _ _ _ h1 =>
 generalize hei:a.eval i=vi at h1;cases h1;have hv:a.eval (.tmp s) = .pointer (some ⟨G.β (.o a0),i0.toNat*k+j0,none⟩)/\a0<G.nh/\0<=i0:=by
  rcases hs with hs | ⟨hs,rfl,rfl⟩
  ·exact eptr_val hg R (x := .tmp s) hs
  obtain ⟨h1,h2⟩:=b2I hg R hs;exact ⟨by simpa using h1,h2,Int.le_refl _⟩
 obtain ⟨hv,hnh,hi0⟩:=hv;refine ⟨.pointer (some ⟨G.β (.o a0),i0.toNat*k+(j0+z.toNat),none⟩),?_,fun d => .vptr _ _ _ _ _ _ _ hnh hi0 hz0 hz1⟩;simp [execOp,hop,hv,hei,Instr.indexAt,asIntOf,Go.underlying,hT.array ht,Instr.sureAddr,hz0,hz1,hT.size hte,Addr.add_none,hsz,Nat.add_assoc]
theorem b5g {t:TypeId} {s:Nat} (hop:o.op = .load t (.tmp s)) {a0 j mm:Nat} {i z:Int} {cs:List AV} (hs:g s = .vptr a0 0 i j mm z) (hHi:σ.heap[a0]?=some (.cells cs)) {td:TD} (ht:T t=some td) (hsz:td.size=1) (hag:td.isAgg=false)
  {y:D} (hy:cs[j+z.toNat]?=some (.d y)) (hp:put σ.n g o.dst (.d y)=some (ss,h')):a0f P σ o ss h':=by
 refine a0d hgd hp (by simp [hop]) (AV.free_place rfl) ?_;intro G a w R;obtain ⟨⟨hv,hnh,hi⟩,_⟩:=a3o hg R hs;have hjl:j+z.toNat<cs.length:=(zp2.1 hy).1;have hrd:a0H td cs (j+z.toNat)=some (.d y):=by
  unfold a0H cut;rw [hsz,if_pos (by omega)];simp only [hag,Bool.false_eq_true,if_false];have:((cs.drop (j+z.toNat)).take 1).head?=some (.d y):=by
   rw [List.head?_take,if_neg (by omega),List.head?_drop];exact hy
  rw [this];rfl
 obtain ⟨v,hr,_,hrep⟩:=a3n hT ht R (A := .obj a0 (j+z.toNat)) (b:=G.β (.o a0)) (off:=j+z.toNat) ⟨hnh,rfl⟩ (av := .d y) ⟨_,cs,hHi,rfl,hrd⟩;refine ⟨v,?_,fun d=>hrep _⟩;rw [Nat.mul_zero,Nat.zero_add] at hv;simp [execOp,hop,hv,Instr.loadAt,Instr.sureAddr,hr]
theorem b2S {t:TypeId} {s:Nat} {yo:Operand} (hop:o.op = .store t (.tmp s) yo) {a0 j mm:Nat} {i z:Int} {cs:List AV} (hs:g s = .vptr a0 0 i j mm z) (hHi:σ.heap[a0]?=some (.cells cs)) {td:TD} (ht:T t=some td) (hsz:td.size=1)
  {v:D} (hv:opD T g t yo=some v) (h1v:v.isOne=true) (hdst:o.dst=none) (hoff:j+z.toNat<cs.length):a0f P σ o [] (some (σ.heap.set a0 (.cells (cs.set (j+z.toNat) (.d v))))):=by
 have hnd : ∀ c,o.op ≠ .defer c:=by simp [hop]
 intro r n m G a w Q next hm R hn
 obtain ⟨⟨hpt,hnh,hi⟩,_⟩:=a3o hg R hs;rw [Nat.mul_zero,Nat.zero_add] at hpt;have hrv:=a0B hg R hv;obtain ⟨cur,e,hO,hw,hs',hh,hcc⟩:=R.h.objs a0 _ hHi;have hone:=a1v h1v;obtain ⟨hvs,hvc,hv1⟩:=hrv.cells;have hvs1:(a.eval yo).cells.size=1:=by rw [hvs,hone];rfl
 have hcore:=a1V R (off:=j+z.toNat) (nv:=[.d v]) (vs:=(a.eval yo).cells.toList) hHi hw (by simp;omega) (by simpa using hvs1)
  (fun q hq=>by
   have hq0:q=0:=by simpa using hq
   subst hq0;have:=hvc 0 (by rw [hone];exact Nat.one_pos);simp only [hone,List.getElem_cons_zero] at this;have e0:(a.eval yo).cells.toList.getD 0 Go.undef=(a.eval yo).cells.getD 0 Go.undef:=by simp [List.getD,zp5]
   rw [e0];exact .d _ _ _ this) (by simp [AV.isCell];cases v <;> first | rfl | (simp [D.isOne] at h1v))
 have honev : ∀ x∈(a.eval yo).cells.toList,x.oneCell'=true:=by
  intro x hx;obtain ⟨q,hq,rfl⟩:=List.mem_iff_getElem.1 hx;have hq1:q<(a.eval yo).cells.size:=by simpa using hq
  have:=hv1 q (by omega);simpa [Array.getD,hq1] using this
 have hrun:=a0K hT ht hw (off:=j+z.toNat) (v:=a.eval yo) (by omega) (by omega) honev;refine a1r hnd (w':=w.setRow (G.β (.o a0)) (rowOf cur (j+z.toNat) (a.eval yo).cells.toList)) (by simp [execOp,hop,hpt,Instr.storeAt,Instr.sureAddr,hrun]) (hn _ _ _ ?_ (Ext.setRow hO _));rw [hdst];have hset:a0S cs (j+z.toNat) [AV.d v]=cs.set (j+z.toNat) (.d v):=by
  simp only [a0S,List.length_singleton];rw [List.set_eq_take_append_cons_drop,if_pos hoff];simp
 rw [hset] at hcore;simpa [Act.put] using hcore
theorem b5h (hH : ∀ (i:Nat) (ob:Obj),H[i]?=some ob->σ.heap[i]?=some ob) (hHe:a0I an g o=true->H=σ.heap) (h:a4l Ar.std T an σ.n g H o=some (some (ss,h'))):a0f P σ o ss h':=by
 unfold a4l at h;split at h
 ·rename_i t s i hop;split at h
  ·split at h
   ·simp only [zp3] at h;split at h
    ·rename_i sz mm e zz kz z ht hi;split at h
     ·rename_i td hte;split at h
      ·rename_i hc;simp [Ar.std] at hc;obtain ⟨⟨h1,h2⟩,h3⟩:=hc;split at h
       ·rename_i a0 off hs;exact b0y hT hg hgd hop (.inr ⟨hs,rfl,rfl⟩) ht hte hi h1 h2 h3 h
       ·rename_i a0 k i0 j0 hs;exact b0y hT hg hgd hop (.inl hs) ht hte hi h1 h2 h3 h
       cases h
      cases h
     cases h
    cases h
   cases h
  cases h
 ·rename_i t s hop;split at h
  ·rename_i a0 k i j mm z hs;simp only [zp3] at h;split at h
   ·rename_i td ob ht hHi;split at h
    ·rename_i hc;obtain ⟨hsz,hag⟩:=hc;split at h
     ·rename_i ds hw;split at h
      ·rename_i y hy;refine a0f.ofRep fun ⟨G,a,w,R⟩ => ?_;obtain ⟨_,hz0,hz1⟩:=a3o hg R hs;have hy':ds[z.toNat]?=some y:=by simpa [Ar.std] using hy
       unfold b9n at hw;split at hw
       ·rename_i cs;split at hw
        ·rename_i hkk;obtain ⟨rfl,hlen⟩:=hkk;have hpl:=a3d hw;refine b5g hT hg hgd hop hs (hH _ _ hHi) ht hsz hag ?_ h;have:((cs.drop j).take mm)[z.toNat]?=some (.d y):=by rw [hpl,List.getElem?_map,hy'];rfl
         rw [List.getElem?_take_of_lt (by omega),List.getElem?_drop] at this;exact this
        cases hw
       ·rename_i k' l;split at hw
        ·rename_i hkk;subst hkk;split at hw
         ·rename_i cs hl;split at hw
          ·rename_i hlen;cases hw;have hone:y.isOne=true:=by
            obtain ⟨_,q1,q2,hu,q3⟩:=R.h.objs a0 _ (hH _ _ hHi);have hl':l[i.toNat]?=some (.agg cs):=by simpa [Ar.std] using hl
            have hlt:i.toNat<l.length:=(zp2.1 hl').1;obtain ⟨vs,e,hO,hww,hss,hh1,hh⟩:=q3 (by omega);rw [List.getElem?_take_of_lt (by omega),List.getElem?_drop] at hy';have hjq:j+z.toNat<cs.length:=(zp2.1 hy').1;have hk:cs.length=k':=hu _ (List.mem_of_getElem? hl');have hfg:=a0A hu hl' (j+z.toNat) (by omega);have hfl:=a0b hu;have hmul:i.toNat*k'+k'<=l.length*k':=by rw [<-Nat.succ_mul];exact Nat.mul_le_mul_right _ hlt
            have hj:i.toNat*k'+(j+z.toNat)<(D.flat l).length:=by omega
            rw [zp1 hj] at hfg;have hfg2:(D.flat l)[i.toNat*k'+(j+z.toNat)]=y:=by
             have:(D.agg cs).cells[j+z.toNat]?=some y:=hy';rw [this] at hfg;exact Option.some.inj hfg
            have h3:=hh _ hj;rw [hfg2] at h3;exact a2o h3 (hh1 _ hj)
           refine b0w hT hg hgd hop (fun R=>(a3o hg R hs).1) (hH _ _ hHi) ht (by simpa [Ar.std] using hl) (av := .d y) (fun _ => ?_) h;rw [List.getElem?_take_of_lt (by omega),List.getElem?_drop] at hy';have hjq:j+z.toNat<cs.length:=(zp2.1 hy').1;unfold a0H cut;rw [hsz,if_pos (by simp [D.cells];omega)];simp only [hag,Bool.false_eq_true,if_false];have:((((D.agg cs).cells.map AV.d).drop (j+z.toNat)).take 1).head?=some (.d y):=by
            rw [List.head?_take,if_neg (by omega),List.head?_drop,List.getElem?_map];show (cs[j+z.toNat]?).map AV.d=_;rw [hy'];rfl
           rw [this];rfl
          cases hw
         cases hw
        cases hw
       cases hw
      cases h
     cases h
    cases h
   cases h
  cases h
 ·rename_i t s yo hop;split at h
  ·rename_i a0 k i j mm z hs;have hHσ:H=σ.heap:=hHe (by simp [a0I,hop,hs]);subst hHσ;simp only [zp3] at h;split at h
   ·rename_i td ob v ht hHi hv hdst;split at h
    ·rename_i hc;obtain ⟨hsz,hone⟩:=hc;simp only [Option.map_eq_some_iff] at h;obtain ⟨ob',hob,he⟩:=h;cases he;refine a0f.ofRep fun ⟨G,a,w,R⟩ => ?_;obtain ⟨_,hz0,hz1⟩:=a3o hg R hs;unfold b6b at hob;split at hob
     ·rename_i cs;split at hob
      ·rename_i hkk;obtain ⟨rfl,hlen⟩:=hkk;split at hob
       ·rename_i ds hpl;cases hob;have hcs:=a3d hpl;have hdl:ds.length=mm:=by
         have:((cs.drop j).take mm).length=(ds.map AV.d).length:=by rw [hcs]
         simp at this;omega
        have e1:cs.take j++(a6l Ar.std z v 0 ds).map .d++cs.drop (j+mm)=cs.set (j+z.toNat) (.d v):=by
         rw [a8F v hz0 (by omega),List.map_set,<-hcs];exact b2R hlen (by omega) _
        rw [e1];exact b2S hT hg hgd hop hs hHi ht hsz hv hone hdst (by omega)
       cases hob
      cases hob
     ·rename_i k' l;split at hob
      ·rename_i hkk;subst hkk;split at hob
       ·rename_i cs hl;split at hob
        ·rename_i hlen;cases hob;have e1:cs.take j++a6l Ar.std z v 0 ((cs.drop j).take mm)++cs.drop (j+mm)=cs.set (j+z.toNat) v:=by
          rw [a8F v hz0 (by simp;omega)];exact b2R hlen (by omega) _
         rw [e1];refine a8C hT hg hgd hop (fun R=>(a3o hg R hs).1) hHi ht hv hdst (by omega) (by rw [a1v hone,hsz];rfl) (by simpa [Ar.std] using hl) (fun hyk => ?_);replace hyk:cs.length=k':=hyk;refine ⟨by simpa [D.cells] using hyk,by omega,fun q hq => ?_⟩;show (cs.set (j+z.toNat) v)[q]?=if _ then v.cells[q-(j+z.toNat)]? else cs[q]?
         rw [List.getElem?_set,a1v hone,hsz];by_cases hqj:j+z.toNat=q
         ·rw [if_pos hqj,if_pos (by omega),if_pos (by omega),show q-(j+z.toNat)=0 by omega];rfl
         rw [if_neg hqj,if_neg (by omega)]
        cases hob
       cases hob
      cases hob
     cases hob
    cases h
   cases h
  cases h
 cases h
end
theorem b2T {A:Ar} {T:a0l} {an:Ann} {n:Nat} {g:Nat->AV} {H H':List Obj} {o:Oper} {ss:a1p} (h:a4l A T an n g H o=some (some (ss,some H'))):H.length<=H'.length:=by
 unfold a4l at h;have hput : ∀ {dst v},put n g dst v≠some (ss,some H'):=by
  intro dst v h;obtain ⟨h,_⟩:=a0G h;cases h
 repeat' (split at h)
 all_goals first
  | (cases h;done)
  | (exact absurd (Option.some.inj h) hput)
  | (simp only [zp3,Option.map_eq_some_iff] at h
     obtain ⟨ob',_,he⟩:=h;simp only [Prod.mk.injEq,zp3] at he;rw [<-he.2];simp)
  | (simp at h;done)
theorem a4Y {P:Program} {w:World} {len nl nh:Nat} {low high:Option Value} (hlo:(low=none/\nl=0) \/ ∃ k,low=some (.int k nl))
  (hhi:(high=none/\nh=len) \/ ∃ k,high=some (.int k nh)) (h1:nl<=nh) (h2:nh<=len):(Instr.sliceBounds false len len low high none).run P w = .ok (nl,nh,len) w:=by
 have c1:=Nat.not_lt.2 h1;have c2:=Nat.not_lt.2 h2;rcases hhi with ⟨rfl,rfl⟩ | ⟨kh,rfl⟩ <;> rcases hlo with ⟨rfl,rfl⟩ | ⟨kl,rfl⟩ <;> simp [Instr.sliceBounds,Instr.sliceBound,asIntOf,h1,h2,c1,c2]
theorem Rel.unlimS {G:Gh} {σ:St} {a:Act} {w:World} (R:Rel G σ a w) {s k:Nat} (hs:σ.get s = .lim k []):Rel G (σ.upd [(s,.own k [])] none) a w:=by
 have hrep:=R.slots s;have hr:RepV G w (.s s) (.own k []) (a.tmps.getD s Go.undef):=by
  rw [hs] at hrep;generalize hv:a.tmps.getD s Go.undef=v at hrep;cases hrep with | lim _ _ _ _ h ht =>
  refine .own _ _ _ _ h fun a n cap e hc => ?_;have:=ht _ _ _ e;rcases h.slice with ⟨_,oa,hv⟩ | ⟨b,off,cap',hv⟩
  ·rw [hv] at e;simp at e;omega
  rw [hv] at e;simp at e;omega
 refine ⟨R.h,by simpa [St.upd] using R.size,?_,?_,R.df⟩
 ·intro t;simp only [St.upd,St.get,a0t,List.foldl_cons,List.foldl_nil,a0e];split
  ·rename_i e;subst e;exact hr
  exact R.slots t
 intro t r' off ht;simp only [St.upd,St.get,a0t,List.foldl_cons,List.foldl_nil,a0e] at ht ⊢;split at ht
 ·cases ht
 obtain ⟨cs,hcs⟩:=R.places t r' off ht;refine ⟨cs,?_⟩;split
 ·rename_i e;subst e;rw [hcs] at hs;cases hs
 exact hcs
section
variable {P:Program} {T:a0l} (hT:TOk P T) {σ:St} {g:Nat->AV} {o:Oper} {ss:a1p} {h':Option (List Obj)} {H:List Obj} {an:Ann}
 (hg:Less g σ) (hgd : ∀ d,o.dst=some d->g d=σ.get d)
include hT hg hgd
theorem b5i {t:TypeId} {s:Nat} {x:Operand} (hop:o.op = .indexAddr t (.tmp s) x) {a0 k:Nat} {lo ln:Int} (hs:g s = .mref a0 k lo ln) {sz e:Nat} {zc:List AV} {td:TD} {kz:IntKind} {z:Int}
  (ht:T t=some { size:=sz,u := .slice e,zero:=zc }) (hte:T e=some td) (hi:opv T g 0 x=some (.d (.int kz z))) (hz0:0<=z) (hz1:z<ln) (hk:k=td.size) (h:put σ.n g o.dst (.eptr a0 1 ((lo+z)*(k:Int)) 0)=some (ss,h')):a0f P σ o ss h':=by
 subst hk;refine a0d hgd h (by simp [hop]) (AV.free_place rfl) ?_;intro G a w R;have h1:=(a0U hg R hi .no).1;cases h1 with | d _ _ _ h1 =>
 generalize hei:a.eval x=vi at h1;cases h1;obtain ⟨b,off,cap,hv,hnh,hlo,hn,hcap,hbo⟩:=a1g hg R (x := .tmp s) hs;obtain ⟨rfl,rfl⟩:=hbo (by omega);have hzz:z<(ln.toNat:Int):=by omega
 have hmx : ¬ max ln 0<=z:=by omega
 refine ⟨.pointer (some ⟨G.β (.o a0),lo.toNat*td.size+z.toNat*td.size,none⟩),?_,fun d => ?_⟩
 ·simp [execOp,hop,hv,hei,Instr.indexAt,asIntOf,Go.underlying,hT.slice ht,hz0,hzz,hmx,hT.size hte,Addr.add_none]
 obtain ⟨L,rfl⟩:=zp9 hlo;obtain ⟨Z,rfl⟩:=zp9 hz0;have e1:(((L:Nat):Int)+((Z:Nat):Int))*((td.size:Nat):Int)=(((L+Z)*td.size:Nat):Int):=by rw [Int.natCast_mul,Int.natCast_add]
 have:=RepV.eptr (G:=G) (w:=w) (.s d) a0 1 ((((L:Nat):Int)+((Z:Nat):Int))*((td.size:Nat):Int)) 0 hnh (by rw [e1];exact Int.natCast_nonneg _);have e:((((L:Nat):Int)+((Z:Nat):Int))*((td.size:Nat):Int)).toNat*1+0=((L:Nat):Int).toNat*td.size+((Z:Nat):Int).toNat*td.size:=by
  rw [e1];simp only [Int.toNat_natCast,Nat.mul_one,Nat.add_zero,Nat.add_mul]
 rw [e] at this;exact this
theorem a8G {G:Gh} {a:Act} {w:World} (R:Rel G σ a w) {s:Nat} {lo hi:Option Operand} {a0 j:Nat} {i:Int} (h:a3Q (g s) lo hi=some (a0,i,j)) :
  a.eval (.tmp s) = .pointer (some ⟨G.β (.o a0),(i+(j:Int)).toNat,none⟩)/\a0<G.nh:=by
 have:=hg.rep R s;generalize hv:a.tmps.getD s Go.undef=v at this;have hev:a.eval (.tmp s)=v:=hv;unfold a3Q at h;split at h
 ·rename_i a1 i1 j1 hc;cases h;rw [hc] at this;cases this with | eptr _ _ _ _ _ h1 h2 =>
  rw [hev];refine ⟨?_,h1⟩;congr 3;omega
 ·rename_i a1 off hc;split at h
  ·cases h
  cases h;rw [hc] at this;cases this with | ptr _ _ _ h1 =>
  rw [hev];refine ⟨?_,h1⟩;congr 3;omega
 cases h
theorem b0z {t:TypeId} {s:Nat} {lo hi:Option Operand} (hop:o.op = .slice t (.tmp s) lo hi none) {a0 j:Nat} {i:Int} (hb:a3Q (g s) lo hi=some (a0,i,j)) {sz m e:Nat} {z:List AV} {td:TD}
  (ht:T t=some { size:=sz,u := .array m e,zero:=z }) (hte:T e=some td) {zh zl q:Int} (hbh:bound g T (Int.ofNat m) hi=some zh) (hbl:bound g T 0 lo=some zl) (hz0:0<=zl) (hz1:zl<=zh) (hz2:zh<=Int.ofNat m)
  (hp:0<=i+(j:Int)) (hq0:0<=q) (hq:q*(td.size:Int)=i+(j:Int)) (h:put σ.n g o.dst (.mref a0 td.size (q+zl) (zh-zl))=some (ss,h')):a0f P σ o ss h':=by
 refine a0d hgd h (by simp [hop]) (AV.free_place rfl) ?_;intro G a w R;obtain ⟨hv,hnh⟩:=a8G hT hg hgd R hb;obtain ⟨nl,rfl⟩:=zp9 hz0;obtain ⟨nh,rfl⟩:=zp9 (Int.le_trans hz0 hz1);obtain ⟨Q,rfl⟩:=zp9 hq0;have hbl':(lo.map a.eval=none/\nl=0) \/ ∃ k,lo.map a.eval=some (.int k nl):=by
  cases lo with
  | none=>simp only [bound,zp3] at hbl;exact .inl ⟨rfl,by omega⟩
  | some x=>obtain ⟨k,e1⟩:=a0z hg hbl R;exact .inr ⟨k,by simp [e1]⟩
 have hbh':(hi.map a.eval=none/\nh=m) \/ ∃ k,hi.map a.eval=some (.int k nh):=by
  cases hi with
  | none=>simp only [bound,zp3] at hbh;refine .inl ⟨rfl,?_⟩;have:(m:Int)=nh:=hbh;omega
  | some x=>obtain ⟨k,e1⟩:=a0z hg hbh R;exact .inr ⟨k,by simp [e1]⟩
 have hz2':nh<=m:=by have:(nh:Int)<=(m:Int):=hz2;omega
 have hrun:=a4Y (P:=P) (w:=w) (len:=m) (nl:=nl) (nh:=nh) hbl' hbh' (by omega) hz2';refine ⟨_,by simp [execOp,hop,Instr.sliceAt,Go.underlying,hT.array ht,hv,Instr.sureAddr,hrun,hT.size hte];rfl,fun d => ?_⟩;have hoff:(i+(j:Int)).toNat=Q*td.size:=by rw [<-hq,<-Int.natCast_mul,Int.toNat_natCast]
 have e4:((nh:Int)-(nl:Int)).toNat=nh-nl:=by omega
 by_cases hm:m=nl
 ·rw [if_pos hm];have:=RepV.mref (G:=G) (w:=w) (.s d) a0 td.size ((Q:Int)+nl) ((nh:Int)-nl) (G.β (.o a0)) (i+(j:Int)).toNat (m-nl) hnh (by omega) (by omega) (by omega) (by omega)
  rwa [e4] at this
 rw [if_neg hm];have:=RepV.mref (G:=G) (w:=w) (.s d) a0 td.size ((Q:Int)+nl) ((nh:Int)-nl) (G.β (.o a0)) ((i+(j:Int)).toNat+nl*td.size) (m-nl) hnh (by omega) (by omega) (by omega) (fun hlt=>by
  refine ⟨rfl,?_⟩;rw [hoff,<-Nat.add_mul];congr 1)
 rw [e4] at this;simpa [Addr.add_none] using this
theorem b7j {t:TypeId} {s:Nat} {hi mx:Operand} (hop:o.op = .slice t (.tmp s) none (some hi) (some mx)) {a0 k:Nat} {l0 ln:Int} (hs:g s = .mref a0 k l0 ln) {es:Nat}
  (hes:a0j T t=some es) (hbh:bound g T 1 (some hi)=some 0) (hbm:bound g T 1 (some mx)=some 0) (hk:es=k)
  (h:put σ.n g o.dst (.lim k [])=some (ss,h')):a0f P σ o ss h':=by
 obtain ⟨sz,e,z,td,ht,hte,rfl⟩:=a0p hes;subst hk;refine a0d hgd h (by simp [hop]) (fun _ _ e=>by cases e) ?_;intro G a w R;obtain ⟨b,off,cap,hv,hnh,hlo,hn,hcap,hbo⟩:=a1g hg R (x := .tmp s) hs;obtain ⟨k2,e2⟩:=a0z hg hbh R;obtain ⟨k3,e3⟩:=a0z hg hbm R;have hrun:=a0J (P:=P) (w:=w) (len:=ln.toNat) (cap:=cap) (nl:=0) (nh:=0) (m:=0) (low:=none) (high:=some (a.eval hi)) (max:=some (a.eval mx))
  (.inl ⟨rfl,rfl⟩) (.inr ⟨k2,by rw [e2];rfl⟩) (.inr ⟨⟨k3,by rw [e3];rfl⟩,rfl⟩) (by omega) (by omega) (by omega)
 refine ⟨.slice (some ⟨b,off,none⟩) 0 0,by simp [execOp,hop,Instr.sliceAt,Instr.slice,Go.underlying,hT.slice ht,hv,hrun,hT.size hte],fun d => ?_⟩;exact .lim _ _ _ _ (.none0 _ _) (fun a n cap e=>by cases e;rfl)
theorem b9v {t:TypeId} {s:Nat} {t':TypeId} (hop:o.op = .binOp .eql t (.tmp s) (.const (.slice none 0 0)) t') {sz:Nat} {e:TypeId} {z:List AV} (ht:T t=some ⟨sz,.slice e,z⟩) {a0 k:Nat} {l0 ln:Int} (hs:g s = .mref a0 k l0 ln)
  (h:put σ.n g o.dst (.d (.bool false))=some (ss,h')):a0f P σ o ss h':=by
 have hnd : ∀ c,o.op ≠ .defer c:=by simp [hop]
 refine a0d hgd h hnd (AV.free_place rfl) ?_;intro G a w R;obtain ⟨b,off,cap,hv,hnh,hlo,hn,hcap,hbo⟩:=a1g hg R (x := .tmp s) hs;refine ⟨.bool false,?_,fun d => .d _ _ _ (.bool _)⟩;have he:=run_equal_slice_nil (P:=P) w t e (some ⟨b,off,none⟩) ln.toNat cap (hT.slice ht);have hgd:(eqGuard .eql t (.tmp s) (.const (.slice none 0 0)) (.slice (some ⟨b,off,none⟩) ln.toNat cap) (.slice none 0 0)).run P w = .ok () w:=by
  unfold eqGuard;simp
 have hbo:(Go.binOp .eql t (.slice (some ⟨b,off,none⟩) ln.toNat cap) (.slice none 0 0)).run P w = .ok (.bool false) w:=by
  simp [Go.binOp,he]
 have hc:a.eval (.const (.slice none 0 0)) = .slice none 0 0:=rfl;simp [execOp,hop,hv,hc,hgd,hbo]
theorem b7k {s y:Nat} {t u:TypeId} (hop:o.op = .call { callee := .builtin .copy,args := #[.tmp s,.tmp y],argTypes := #[t,u] }) {a0 k:Nat} {lo n1 lo2 n2:Int} {l:List D}
  (hs:g s = .mref a0 k lo n1) (hy:g y = .mref a0 k lo2 n2) (het:a0j T t=some k) (hHi:σ.heap[a0]?=some (.arr 1 l)) (hk:0<k)
  (hc1:n2<=n1) (hc2:(lo+n1)*(k:Int)<=(l.length:Int)) (hc3:(lo2+n2)*(k:Int)<=(l.length:Int)) {ss1:a1p} {h1:Option (List Obj)} (hp:put σ.n g o.dst (.d (.int .i64 n2))=some (ss1,h1)) :
  a0f P σ o ss1 (some (σ.heap.set a0 (.arr 1 (Ar.std.spl l (lo*(k:Int)) (Ar.std.sub l (lo2*(k:Int)) ((lo2+n2)*(k:Int))))))):=by
 have hnd : ∀ c,o.op ≠ .defer c:=by simp [hop]
 obtain ⟨sz,e,zz,td,hTt,hTe,hks⟩:=a0p het;obtain ⟨rfl,hcase⟩:=a0G hp;intro r n m G a w Q next hm R hn
 obtain ⟨b,off,cap,hv,hnh,hlo,hn0,hnc,hbo⟩:=a1g hg R (x := .tmp s) hs;obtain ⟨b2,off2,cap2,hv2,_,hlo2,hn2,hcap2,hbo2⟩:=a1g hg R (x := .tmp y) hy;obtain ⟨vs,ec,hO,hw,hu,hsz,hone,hh⟩:=R.h.objs a0 _ hHi;have hfl:=a0b hu;obtain ⟨LO,rfl⟩:=zp9 hlo;obtain ⟨N1,rfl⟩:=zp9 hn0;obtain ⟨L2,rfl⟩:=zp9 hlo2;obtain ⟨N2,rfl⟩:=zp9 hn2;have hb2:LO*k+N1*k<=l.length:=by
  have:(((LO+N1)*k:Nat):Int)<=(l.length:Int):=by simpa using hc2
  rw [<-Nat.add_mul];omega
 have hb2':L2*k+N2*k<=l.length:=by
  have:(((L2+N2)*k:Nat):Int)<=(l.length:Int):=by simpa using hc3
  rw [<-Nat.add_mul];omega
 have hb3:N2*k<=N1*k:=Nat.mul_le_mul_right _ (by omega);obtain ⟨l',hl'⟩ : ∃ l',Ar.std.spl l (((LO:Nat):Int)*(k:Int)) (Ar.std.sub l (((L2:Nat):Int)*(k:Int)) ((((L2:Nat):Int)+((N2:Nat):Int))*(k:Int)))=l':=⟨_,rfl⟩;rw [hl'] at hn;have hl'':l'=l.take (LO*k)++(l.drop (L2*k)).take (N2*k)++l.drop (LO*k+N2*k):=by
  rw [<-hl'];have e2:(((LO:Nat):Int)*(k:Int)).toNat=LO*k:=by rw [<-Int.natCast_mul,Int.toNat_natCast]
  have e3:(((L2:Nat):Int)*(k:Int)).toNat=L2*k:=by rw [<-Int.natCast_mul,Int.toNat_natCast]
  have e4:((((L2:Nat):Int)+((N2:Nat):Int))*(k:Int)).toNat=L2*k+N2*k:=by
   rw [<-Int.natCast_add,<-Int.natCast_mul,Int.toNat_natCast,Nat.add_mul]
  have e5:L2*k+N2*k-L2*k=N2*k:=by omega
  have e6:((l.drop (L2*k)).take (N2*k)).length=N2*k:=by simp;omega
  simp only [Ar.std,e2,e3,e4,e5,e6]
 have hdst' : ∀ (w':World),Rel G (σ.upd [] (some (σ.heap.set a0 (.arr 1 l')))) a w' ->
   Rel G (σ.upd ss1 (some (σ.heap.set a0 (.arr 1 l')))) (a.put o.dst (.int .i64 (N2:Int))) w':=by
  intro w' R';rcases hcase with ⟨hd,rfl⟩ | ⟨d,hd,rfl,hlt,hbx⟩
  ·rw [hd];simpa [Act.put,St.upd,a0t] using R'
  rw [hd];have hrep:RepV G w' (.s d) (.d (.int .i64 (N2:Int))) (.int .i64 (N2:Int)) := .d _ _ _ (.int _ _);have:=R'.put (d:=d) hrep (fun r off e=>by cases e) (by rw [hgd d hd] at hbx;exact hbx) hlt;simpa [St.upd,a0t] using this
 have hmin:Nat.min N2 N1=N2:=Nat.min_eq_left (by omega);have hmin':min N2 N1=N2:=hmin;simp only [Int.toNat_natCast] at hv hbo hv2 hbo2;by_cases hz:N2=0
 ·subst hz;have hll:l'=l:=by rw [hl''];simp
  have hset:σ.heap.set a0 (.arr 1 l')=σ.heap:=by
   rw [hll];apply List.ext_getElem?;intro i;by_cases hi:a0=i
   ·subst hi;rw [List.getElem?_set_self (zp2.1 hHi).1,hHi]
   rw [List.getElem?_set_ne hi]
  have hrun:(execOp a.eval o).run P w = .ok (.value (.int .i64 0)) w:=by
   simp [execOp,hop,resolve,invoke,Go.builtin,Builtin.copy_,hv,hv2,Go.underlying,hT.slice hTt,hT.size hTe,Builtin.lenOf,hks,Builtin.firstCells,loadCells,loadCellsFrom,storeCells,goInt]
  have:=hdst' w (by rw [hset];simpa [St.upd,a0t] using R);refine a0x hnd hrun (hn G _ _ this (Ext.refl _ _ _))
 obtain ⟨rfl,rfl⟩:=hbo (by omega);obtain ⟨rfl,rfl⟩:=hbo2 (by omega);let zs:List Value:=(List.range (N2*k)).map fun j=>vs.getD (L2*k+j) Go.undef;have hzl:zs.length=N2*k:=by simp [zs]
 have hzg : ∀ q,q<N2*k->zs.getD q Go.undef=vs.getD (L2*k+q) Go.undef:=by
  intro q hq;simp [zs,List.getD,hq]
 have hld:=run_loadCells (P:=P) w ⟨G.β (.o a0),L2*k,none⟩ (N2*k) (fun j=>vs.getD (L2*k+j) Go.undef) (fun j hj=>by
  rw [Addr.add_none];exact a0P hw (by omega))
 have hst:=run_storeCells_at P (G.β (.o a0)) (LO*k) ec zs 0 vs w hw (by omega) (fun v hv=>by
  obtain ⟨q,hq,rfl⟩:=List.mem_iff_getElem.1 hv;have hq':q<N2*k:=by omega
  have:=hzg q hq';rw [List.getD_eq_getElem?_getD,zp1 hq] at this;simp only [Option.getD_some] at this;rw [this];exact hone _ (by omega))
 simp only [Nat.add_zero] at hst;have hrun:(execOp a.eval o).run P w = .ok (.value (.int .i64 (N2:Int))) (w.setRow (G.β (.o a0)) (rowOf vs (LO*k) zs)):=by
  have hfc:(Builtin.firstCells k N2 (.slice (some ⟨G.β (.o a0),L2*k,none⟩) N2 cap2)).run P w = .ok zs.toArray w:=by
   simp [Builtin.firstCells,hld,zs]
  simp [execOp,hop,resolve,invoke,Go.builtin,Builtin.copy_,hv,hv2,Go.underlying,hT.slice hTt,hT.size hTe,Builtin.lenOf,hks,hmin,hmin',hfc,hst,rowOf,goInt]
 have huf:a0m 1 l':=by
  intro x hx;rw [hl''] at hx;simp only [List.mem_append] at hx;rcases hx with (hx | hx) | hx
  ·exact hu x (List.mem_of_mem_take hx)
  ·exact hu x (List.mem_of_mem_drop (List.mem_of_mem_take hx))
  exact hu x (List.mem_of_mem_drop hx)
 have hll:l'.length=l.length:=by rw [hl''];simp;omega
 have hff:(D.flat l').length=(D.flat l).length:=by rw [a0b huf,a0b hu,hll]
 have hflat:D.flat l'=(D.flat l).take (LO*k)++((D.flat l).drop (L2*k)).take (N2*k)++(D.flat l).drop (LO*k+N2*k):=by
  have e1:=a0X hu (n:=LO*k);have e2:=a1A hu (n:=LO*k+N2*k);have e3:=a1A hu (n:=L2*k);have e4:=a0X (l:=l.drop (L2*k)) (k:=1) (n:=N2*k) (fun x hx=>hu x (List.mem_of_mem_drop hx));simp only [Nat.mul_one] at e1 e2 e3 e4;rw [hl'',a0T,a0T,e1,e2,e4,e3]
 have hrs:LO*k+zs.length<=vs.size:=by rw [hzl];omega
 have hget : ∀ q,q<(D.flat l').length -> ∃ q',q'<(D.flat l).length/\(D.flat l')[q]?=(D.flat l)[q']?/\(rowOf vs (LO*k) zs).getD q Go.undef=vs.getD q' Go.undef:=by
  intro q hq;rw [a0Y hrs,hzl,hflat];have hlen1:((D.flat l).take (LO*k)).length=LO*k:=by simp;omega
  have hlen2:(((D.flat l).drop (L2*k)).take (N2*k)).length=N2*k:=by simp;omega
  by_cases c1:q<LO*k
  ·refine ⟨q,by omega,?_,by rw [if_pos c1]⟩;rw [List.append_assoc,zp7 (by omega),List.getElem?_take_of_lt c1]
  by_cases c2:q<LO*k+N2*k
  ·refine ⟨L2*k+(q-LO*k),by omega,?_,by rw [if_neg c1,if_pos c2,hzg _ (by omega)]⟩;rw [List.append_assoc,zp8 (by omega),hlen1,zp7 (by omega),List.getElem?_take_of_lt (by omega),List.getElem?_drop]
  refine ⟨q,by omega,?_,by rw [if_neg c1,if_neg c2]⟩;rw [zp8 (by simp;omega),List.getElem?_drop];congr 1;simp only [List.length_append,hlen1,hlen2];omega
 have each : ∀ (q:Nat) (hq:q<(D.flat l').length),RepD G.K (D.flat l')[q] ((rowOf vs (LO*k) zs).getD q Go.undef)/\((rowOf vs (LO*k) zs).getD q Go.undef).oneCell'=true:=by
  intro q hq;obtain ⟨q',h1,h2,h3⟩:=hget q hq;rw [zp1 hq,zp1 h1] at h2;rw [h3,Option.some.inj h2];exact ⟨hh q' h1,hone q' h1⟩
 obtain ⟨hcore,hext⟩:=a1D R hHi hw (l':=l') (row:=rowOf vs (LO*k) zs) huf (by rw [a0L hrs];omega) (fun q hq=>(each q hq).2) (fun q hq=>(each q hq).1);exact a0x hnd hrun (hn G _ _ (hdst' _ hcore) (hext m))
theorem b0A {y k:Nat} {a0:Nat} {lo ln:Int} {l:List D} (hy:g y = .mref a0 k lo ln) (hHi:σ.heap[a0]?=some (.arr k l)) (hc:lo+ln<=(l.length:Int)) {G:Gh} {a:Act} {w:World} (R:Rel G σ a w) :
  a0m k (Ar.std.sub l lo (lo+ln))/\(∃ b cap,a.eval (.tmp y) = .slice b (Ar.std.sub l lo (lo+ln)).length cap) /\ ∀ w':World,w'.heap=w.heap -> ∃ arr:Array Value,(Builtin.firstCells k (Ar.std.sub l lo (lo+ln)).length (a.eval (.tmp y))).run P w' = .ok arr w'/\arr.size=(D.flat (Ar.std.sub l lo (lo+ln))).length /\
   ∀ (q:Nat) (hq:q<(D.flat (Ar.std.sub l lo (lo+ln))).length),RepD G.K (D.flat (Ar.std.sub l lo (lo+ln)))[q] (arr.getD q Go.undef)/\(arr.getD q Go.undef).oneCell'=true:=by
 obtain ⟨b,off,cap,hv,hnh,hlo,hn0,hcap,hbo⟩:=a1g hg R (x := .tmp y) hy;obtain ⟨vs,ec,hO,hw,hu,hsz,hone,hh⟩:=R.h.objs a0 _ hHi;obtain ⟨LO,rfl⟩:=zp9 hlo;obtain ⟨N,rfl⟩:=zp9 hn0;have hfl:=a0b hu;have e0:Ar.std.sub l (LO:Int) ((LO:Int)+(N:Int))=(l.drop LO).take N:=by
  simp only [Ar.std];have:((LO:Int)+(N:Int)).toNat-(LO:Int).toNat=N:=by omega
  rw [this];rfl
 rw [e0];have hln:((l.drop LO).take N).length=N:=by simp;omega
 have huf:a0m k ((l.drop LO).take N):=fun x hx=>hu x (List.mem_of_mem_drop (List.mem_of_mem_take hx));have hff:=a0b huf;rw [hln] at hff;refine ⟨huf,⟨_,cap,by rw [hln];simpa using hv⟩,fun w' hw' => ?_⟩;rw [hln,hv];simp only [Int.toNat_natCast];have hmul:LO*k+N*k<=l.length*k:=by rw [<-Nat.add_mul];exact Nat.mul_le_mul_right _ (by omega)
 rcases Nat.eq_zero_or_pos N with h0 | h0
 ·subst h0;refine ⟨#[],by simp [Builtin.firstCells,loadCells,loadCellsFrom],?_,fun q hq => ?_⟩
  ·rw [hff];simp
  rw [hff] at hq;omega
 obtain ⟨rfl,rfl⟩:=hbo (by omega);simp only [Int.toNat_natCast];have hl:=run_loadCells (P:=P) w' ⟨G.β (.o a0),LO*k,none⟩ (N*k) (fun j=>vs.getD (LO*k+j) Go.undef) (fun j hj=>by
  rw [Addr.add_none];have:=a0P hw (show LO*k+j<vs.size by omega);unfold World.cell? at *
  rwa [hw'])
 refine ⟨((List.range (N*k)).map fun j=>vs.getD (LO*k+j) Go.undef).toArray,by simp [Builtin.firstCells,hl],by simp [hff],fun q hq => ?_⟩;rw [hff] at hq;have e1:((List.range (N*k)).map fun j=>vs.getD (LO*k+j) Go.undef).toArray.getD q Go.undef=vs.getD (LO*k+q) Go.undef:=by
  simp [hq]
 rw [e1];have e2:D.flat ((l.drop LO).take N)=((D.flat l).drop (LO*k)).take (N*k):=by
  rw [a0X (fun x hx=>hu x (List.mem_of_mem_drop hx)),a1A hu]
 have hj:LO*k+q<(D.flat l).length:=by omega
 have e3:(D.flat ((l.drop LO).take N))[q]'(by rw [hff];exact hq)=(D.flat l)[LO*k+q]:=by
  apply Option.some.inj;rw [<-zp1,<-zp1,e2,List.getElem?_take_of_lt hq,List.getElem?_drop]
 rw [e3];exact ⟨hh _ hj,hone _ hj⟩
theorem b2U {s y d:Nat} {t u:TypeId} (hop:o.op = .call { callee := .builtin .append,args := #[.tmp s,.tmp y],argTypes := #[t,u] }) {a0 k:Nat} {lo ln:Int} {l ll:List D}
  (hs:(g s).ownOf=some (k,l)) (hy:g y = .mref a0 k lo ln) (het:a0j T t=some k) (heu:a0j T u=some k) (hHi:σ.heap[a0]?=some (.arr k ll)) (hk:0<k) (hd:o.dst=some d) (hlt:d<σ.n) (hbx:(g d).isBox=false) (hsd : ¬ s=d)
  (hc:lo+ln<=(ll.length:Int)) (hfits:(l.length:Int)+(Ar.std.sub ll lo (lo+ln)).length<4294967296):a0f P σ o [(s,.d (.list k l)),(d,.own k (l++Ar.std.sub ll lo (lo+ln)))] none:=by
 have hcase:g s = .own k l\/(g s = .lim k []/\l=[]):=by
  unfold AV.ownOf at hs;split at hs
  ·rename_i h;cases hs;exact .inl h
  ·rename_i h;cases hs;exact .inr ⟨h,rfl⟩
  cases hs
 rcases hcase with hgs | ⟨hgs,rfl⟩
 ·have h9:=hg.eq hgs (by simp);exact a3H (z:=true) hT hg hgd hop het heu (fun R=>b0A hT hg hgd hy hHi hc R) hd (.inl h9) (fun h=>by cases h) hk hlt hbx hsd hfits
 have hσ:=hg.eq hgs (by simp);intro r n m G a w Q next hm R hn
 have R':=R.unlimS hσ;let g':Nat->AV:=fun q=>if q=s then .own k [] else g q
 have hg':Less g' (σ.upd [(s,.own k [])] none):=by
  intro q;simp only [g',St.upd,St.get,a0t,List.foldl_cons,List.foldl_nil,a0e];by_cases hq:q=s
  ·subst hq;simp
  rw [if_neg hq,if_neg (Ne.symm hq)];exact hg q
 have hgd' : ∀ d,o.dst=some d->g' d=(σ.upd [(s,.own k [])] none).get d:=by
  intro d' hd';rw [hd] at hd';cases hd';simp only [g',St.upd,St.get,a0t,List.foldl_cons,List.foldl_nil,a0e];rw [if_neg (Ne.symm hsd),if_neg hsd];exact hgd d hd
 have hys : ¬ y=s:=by rintro rfl;rw [hgs] at hy;cases hy
 have hy':g' y = .mref a0 k lo ln:=by simp only [g'];rw [if_neg hys];exact hy
 have hHi':(σ.upd [(s,.own k [])] none).heap[a0]?=some (.arr k ll):=hHi;have key:=a3H (σ:=σ.upd [(s,.own k [])] none) (z:=true) hT hg' hgd' hop het heu (fun R=>b0A hT hg' hgd' hy' hHi' hc R) hd (.inl (by simp [St.upd,St.get,a0t,a0e,AV.ownZ])) (fun h=>by cases h) hk hlt (by simp only [g'];rw [if_neg (Ne.symm hsd)];exact hbx) hsd hfits;refine key r n m G a w Q next hm R' (fun G' a' w' R2 hE=>hn G' a' w' ?_ hE)
 have e:(σ.upd [(s,.own k [])] none).upd [(s,.d (.list k [])),(d,AV.ownZ true k ([]++Ar.std.sub ll lo (lo+ln)))] none=σ.upd [(s,.d (.list k [])),(d,.own k ([]++Ar.std.sub ll lo (lo+ln)))] none:=by
  simp only [St.upd,a0t,List.foldl_cons,List.foldl_nil,a5q,AV.ownZ,if_true]
  rfl
 rw [e] at R2;exact R2
theorem b5j (hHe:a0I an g o=true->H=σ.heap) (h:a4n Ar.std T σ.n g H o=some (some (ss,h'))):a0f P σ o ss h':=by
 unfold a4n at h;split at h
 ·rename_i t s x hop;split at h
  ·rename_i a0 k lo ln hs;have hHσ:H=σ.heap:=hHe (by simp [a0I,hop,hs]);subst hHσ;split at h
   ·rename_i ll hHi;split at h
    ·cases h
    simp only [zp3] at h;split at h
    ·rename_i sz e zc kz z ht hi;split at h
     ·rename_i td hte;split at h
      ·rename_i hc;simp [Ar.std] at hc;exact b5i hT hg hgd hop hs ht hte hi hc.1.1 hc.1.2 hc.2 h
      cases h
     cases h
    cases h
   cases h
  cases h
 ·rename_i t s lo hi hop;split at h
  ·rename_i a0 i j hb;have hHσ:H=σ.heap:=hHe (by
    unfold a3Q at hb;split at hb
    ·rename_i hs;simp [a0I,hop,hs]
    ·rename_i hs;simp [a0I,hop,hs]
    cases hb)
   subst hHσ;split at h
   ·rename_i ll hHi;simp only [zp3] at h;split at h
    ·rename_i sz m e z ht;split at h
     ·rename_i td zh zl hte hbh hbl;split at h
      ·rename_i hc;simp [Ar.std] at hc;obtain ⟨⟨⟨⟨h1,h2⟩,h3⟩,h4⟩,h5⟩:=hc;split at h
       ·rename_i h6;have h':=h;rw [<-h6] at h';exact b0z hT hg hgd hop hb ht hte hbh hbl h1 h2 (by simpa using h3) h4 (q:=i+(j:Int)) h4 (by rw [h6];simp) (by rw [h6];rw [h6] at h';exact h')
       split at h
       ·rename_i hq;simp only [zp4] at hq;have hq1:0<=Ar.std.quo .i64 (Ar.std.zadd i (Int.ofNat j)) (Int.ofNat td.size):=by simpa [Ar.std] using hq.1
        have hq2:Ar.std.quo .i64 (Ar.std.zadd i (Int.ofNat j)) (Int.ofNat td.size)*(td.size:Int)=i+(j:Int):=by simpa [Ar.std] using hq.2
        exact b0z hT hg hgd hop hb ht hte hbh hbl h1 h2 (by simpa using h3) h4 hq1 hq2 h
       cases h
      cases h
     cases h
    cases h
   cases h
  cases h
 ·rename_i t s hi mx hop;split at h
  ·rename_i a0 k l0 ln hs;simp only [zp3] at h;split at h
   ·rename_i es zh zm hes hbh hbm;split at h
    ·rename_i hc;simp only [zp4,decide_eq_true_eq] at hc;obtain ⟨⟨h1,rfl⟩,rfl⟩:=hc;exact b7j hT hg hgd hop hs hes hbh hbm h1 h
    cases h
   cases h
  cases h
 ·rename_i t s t' hop;split at h
  ·rename_i a0 k l0 ln hs;simp only [zp3] at h;split at h
   ·rename_i sz e z ht;exact b9v hT hg hgd hop ht hs h
   cases h
  cases h
 ·rename_i args ts hop;split at h
  ·rename_i s y t u hargs hts;obtain rfl:args = #[.tmp s,.tmp y]:=by cases args;simp_all
   obtain rfl:ts = #[t,u]:=by cases ts;simp_all
   split at h
   ·rename_i a0 k lo n1 a1 k1 lo2 n2 hs hy;have hHσ:H=σ.heap:=hHe (by simp [a0I,hop,hs]);subst hHσ;simp only [zp3] at h;split at h
    ·rename_i es l het hHi;split at h
     ·rename_i hc;simp [Ar.std] at hc;obtain ⟨⟨⟨⟨⟨⟨q1,q2⟩,q3⟩,hk⟩,hc1⟩,hc2⟩,hc3⟩:=hc;subst q1 q2 q3;simp only [Option.map_eq_some_iff] at h;obtain ⟨⟨ss1,h1⟩,hp,he⟩:=h;simp only [Prod.mk.injEq] at he;obtain ⟨rfl,rfl⟩:=he;exact b7k hT hg hgd hop hs hy het hHi hk hc1 hc2 hc3 hp
     cases h
    cases h
   cases h
  cases h
 ·rename_i args ts hop;split at h
  ·rename_i s y t u d hargs hts hd;obtain rfl:args = #[.tmp s,.tmp y]:=by cases args;simp_all
   obtain rfl:ts = #[t,u]:=by cases ts;simp_all
   split at h
   ·rename_i k1 l a0 k2 lo ln hs hy;have hHσ:H=σ.heap:=hHe (by simp [a0I,hop,hy]);subst hHσ;simp only [zp3] at h;split at h
    ·rename_i k k1' k3 ll het heu hHi;split at h
     ·rename_i hc;simp only [zp4,decide_eq_true_eq,Bool.not_eq_true'] at hc;obtain ⟨⟨⟨⟨⟨⟨⟨⟨⟨q1,q2⟩,q3⟩,q4⟩,hk⟩,hlt⟩,hbx⟩,hsd⟩,hc1⟩,hc2⟩:=hc;subst q1 q2 q3 q4;simp only [zp3,Prod.mk.injEq] at h;obtain ⟨rfl,rfl⟩:=h;exact b2U hT hg hgd hop hs hy het heu hHi hk hd hlt hbx hsd (by simpa [Ar.std] using hc1) (by simpa [Ar.std] using hc2)
     cases h
    cases h
   cases h
  cases h
 cases h
end
theorem b2V {A:Ar} {T:a0l} {n:Nat} {g:Nat->AV} {H H':List Obj} {o:Oper} {ss:a1p} (h:a4n A T n g H o=some (some (ss,some H'))):H.length<=H'.length:=by
 unfold a4n at h
 repeat' split at h
 all_goals first
  | (cases h;done)
  | (simp only [zp3] at h;exact absurd (a0G h).1 (by simp))
  | (simp at h;done)
  | (simp only [zp3,Option.map_eq_some_iff] at h
     obtain ⟨p,_,hp⟩:=h;simp only [Prod.mk.injEq,zp3] at hp;rw [<-hp.2];simp)
theorem b2W {x:AV} (h:x.lent=true):x.free=true/\x.isCell=true/\x.copy=x:=by
 cases x <;> simp [AV.lent] at h <;> exact ⟨rfl,rfl,rfl⟩
theorem Rel.groJag {G:Gh} {σ:St} {a:Act} {w:World} (R:Rel G σ a w) {i k:Nat} {l:List D} (hi:σ.heap[i]?=some (.gro 1 l)) (hl : ∀ x∈l,∃ l',x = .list k l')
  (hent : ∀ vs e,0<G.β (.o (i+1))->w.heap[G.β (.o i)]?=some (.cells vs e (0,0)) -> ∀ (j:Nat) (hj:j<l.length),RepV G w (.oc i j) (a2y k none j l[j]) (vs.getD j Go.undef)) :
  Rel G { σ with heap:=σ.heap.set i (.jag k l none) } a w:=by
 refine ⟨⟨R.h.sane,by simpa using R.h.nh,fun x ob hob => ?_,R.h.kept,R.h.disj⟩,R.size,R.slots,R.places,R.df⟩;by_cases hx:i=x
 ·subst hx;simp only at hob;rw [List.getElem?_set_self (zp2.1 hi).1] at hob;injection hob with hob;subst hob
  obtain ⟨g0,g1,g2,g3,g4⟩:=R.h.objs i _ hi;refine ⟨g0,g1,g2,hl,fun p e=>(by cases e),fun hc => ?_⟩;obtain ⟨vs,e,h1,h2,h3,_,_⟩:=g4 hc;exact ⟨vs,e,h1,h2,by omega,hent vs e hc h2⟩
 rw [List.getElem?_set_ne hx] at hob;exact R.h.objs x ob hob
theorem a3V {G:Gh} {σ:St} {a:Act} {w:World} (R:Rel G σ a w) {i k:Nat} {l l':List D} {o o':Option (Int×AV)} {cur row:Array Value} {e:TypeId} (hi:σ.heap[i]?=some (.jag k l o)) (hne:0<l.length)
  (hw:w.heap[G.β (.o i)]?=some (.cells cur e (0,0))) (hll:l'.length=l.length) (hu : ∀ x∈l',∃ y,x = .list k y) (ho : ∀ p,o'=some p->p.2.isCell=true/\p.2.free=true) (hrs:row.size=cur.size)
  (hh : ∀ (j:Nat) (hj:j<l'.length),RepV G w (.oc i j) (a2y k o' j l'[j]) (row.getD j Go.undef)) :
  Rel G (σ.upd [] (some (σ.heap.set i (.jag k l' o')))) a (w.setRow (G.β (.o i)) row) /\ ∀ m,Ext m G w G (w.setRow (G.β (.o i)) row):=by
 obtain ⟨g0,g1,g2,g3,go,g4⟩:=R.h.objs i _ hi;obtain ⟨vs0,e0,hO,hw0,hsz0,_⟩:=g4 (by omega);rw [hw] at hw0;simp at hw0;obtain ⟨rfl,rfl⟩:=hw0;have hpr:=a2d (w:=w) hO row;have hil:i<σ.heap.length:=(zp2.1 hi).1;refine ⟨⟨⟨R.h.sane,by simpa [St.upd] using R.h.nh,fun i' ob hob => ?_,a2e R.h.kept (fun j=>(R.h.disj _ _ _ hO).2 j (Nat.zero_le _)) hO _,fun b ℓ f h => ?_⟩,by simpa [St.upd] using R.size,?_,?_,?_⟩,fun m=>Ext.setRow hO _⟩
 ·simp only [St.upd,Option.getD_some] at hob;by_cases hii:i=i'
  ·subst hii;rw [List.getElem?_set_self hil] at hob;injection hob with hob;subst hob
   refine ⟨g0,by rw [hll];exact g1,by rw [hll];exact g2,hu,ho,fun _=>⟨row,_,hO,setRow_heap _ _ _ _ _ _ hw,by rw [hrs];exact hsz0,fun j hj => ?_⟩⟩;obtain ⟨y,hy⟩:=hu _ (zp6 hj);exact (hh j hj).pres R.h.sane hpr (by simp) (fun r off e=>absurd e (AV.not_place (a2a hy ho).1 r off)) (fun t e=>by cases e)
  rw [List.getElem?_set_ne hii] at hob;exact (R.h.objs i' ob hob).pres R.h.sane (by rw [<-R.h.nh];exact (zp2.1 hob).1) hpr (by simp;exact fun e=>hii e.symm) (by simp)
 ·have:=R.h.disj b ℓ f h;exact ⟨by simpa using this.1,this.2⟩
 ·intro t;exact (R.slots t).pres R.h.sane hpr (by simp) (fun _ _ _=>rfl) (fun t' e' _=>⟨rfl,fun j=>by simp⟩)
 ·intro t r'' off' ht;exact R.places t r'' off' ht
 refine ⟨R.df.1,fun x hx => ?_⟩;obtain ⟨r0,h1,h2,h3⟩:=R.df.2 x hx;exact ⟨r0,h1,h2,by rw [setRow_other _ _ _ _ (by rintro rfl;rw [hO] at h2;cases h2)];exact h3⟩
theorem b0B {k:Nat} {o:Option (Int×AV)} {i:Int} (h:a8r Ar.std i o=true) {j:Nat} (hj:j≠i.toNat) (x:D):a2y k o j x=frA k x:=by
 unfold a2y;split
 ·rename_i t x;have:i=t:=by simpa [a8r,Ar.std] using h
  subst this;rw [if_neg hj]
 rfl
section
variable {P:Program} {T:a0l} (hT:TOk P T) {σ:St} {g:Nat->AV} {o:Oper} {ss:a1p} {h':Option (List Obj)} {H:List Obj} {an:Ann}
 (hg:Less g σ) (hgd : ∀ d,o.dst=some d->g d=σ.get d)
include hT hg hgd
theorem b9w {t:TypeId} {s:Nat} (hop:o.op = .call { callee := .builtin .len,args := #[.tmp s],argTypes := #[t] }) {a0 k:Nat} {l:List D} {w0:Option (Int×AV)} (hs:g s = .gref a0 1) (hHi:σ.heap[a0]?=some (.jag k l w0))
  {sz e:Nat} {z:List AV} (ht:T t=some { size:=sz,u := .slice e,zero:=z }) (h:put σ.n g o.dst (.d (.int .i64 (Ar.std.len l)))=some (ss,h')):a0f P σ o ss h':=by
 refine a0d hgd h (by simp [hop]) (AV.free_place rfl) ?_;intro G a w R;obtain ⟨p,hv,_,_,_⟩:=a1L hg R hs;obtain ⟨_,q1,_⟩:=R.h.objs a0 _ hHi;refine ⟨.int .i64 (Ar.std.len l),?_,fun d => .d _ _ _ (.int _ _)⟩;simp [execOp,hop,resolve,invoke,Go.builtin,Builtin.len_,Builtin.lenOf,hv,goInt,Go.underlying,hT.slice ht,Ar.std,q1]
theorem b5k {t:TypeId} {s:Nat} {i:Operand} (hop:o.op = .indexAddr t (.tmp s) i) {a0 k:Nat} {l:List D} {w0:Option (Int×AV)} (hs:g s = .gref a0 1) (hHi:σ.heap[a0]?=some (.jag k l w0))
  {sz e:Nat} {zz:List AV} (ht:T t=some { size:=sz,u := .slice e,zero:=zz }) {td:TD} (hte:T e=some td) {kz:IntKind} {z:Int} (hi:opv T g 0 i=some (.d (.int kz z))) (hk:td.size=1) (hz0:0<=z) (hz1:z<(l.length:Int))
  (h:put σ.n g o.dst (.eptr a0 1 z 0)=some (ss,h')):a0f P σ o ss h':=by
 refine a0d hgd h (by simp [hop]) (AV.free_place rfl) ?_;intro G a w R;have h1:=(a0U hg R hi .no).1;cases h1 with | d _ _ _ h1 =>
 generalize hei:a.eval i=vi at h1;cases h1;obtain ⟨p,hv,hnh,hle,hp⟩:=a1L hg R hs;obtain ⟨_,q1,q2,_⟩:=R.h.objs a0 _ hHi;obtain rfl:=hp (by omega);have hzz:z<((G.β (.o (a0+2)):Nat):Int):=by omega
 refine ⟨.pointer (some ⟨G.β (.o a0),0+z.toNat*td.size,none⟩),?_,fun d => ?_⟩
 ·have hmx : ¬ ((G.β (.o (a0+2)):Nat):Int)<=z:=by omega
  simp [execOp,hop,hv,hei,Instr.indexAt,asIntOf,Go.underlying,hT.slice ht,hz0,hzz,hmx,hT.size hte,Addr.add_none]
 rw [hk];have:=RepV.eptr (G:=G) (w:=w) (.s d) a0 1 z 0 (by omega) hz0;simpa using this
theorem b7l {t:TypeId} {s:Nat} (hop:o.op = .load t (.tmp s)) {a0 k:Nat} {l:List D} {i z:Int} {x:AV} (hs:g s = .eptr a0 1 i 0) (hHi:σ.heap[a0]?=some (.jag k l (some (z,x)))) {td:TD} (ht:T t=some td)
  (hsz:td.size=1) (hag:td.isAgg=false) (hx:x.lent=true) (hiz:i=z) (hil:i<(l.length:Int)) (hp:put σ.n g o.dst x=some (ss,h')):a0f P σ o ss h':=by
 subst hiz;obtain ⟨hfree,hcell,hcopy⟩:=b2W hx;refine a0d hgd hp (by simp [hop]) (AV.free_place (AV.free_isLocal hfree)) ?_;intro G a w R;obtain ⟨hv,hnh,hi⟩:=eptr_val hg R (x := .tmp s) hs;obtain ⟨g0,g1,g2,g3,go,g4⟩:=R.h.objs a0 _ hHi;have hlt:i.toNat<l.length:=by omega
 obtain ⟨vs,e,hO,hw,hsv,hent⟩:=g4 (by omega);have he:=hent i.toNat hlt;have e5:a2y k (some (i,x)) i.toNat l[i.toNat]=x:=by simp [a2y]
 rw [e5] at he;obtain ⟨v,hr,_,hrep⟩:=a1x hT ht (G:=G) (w:=w) (b:=G.β (.o a0)) (o:=i.toNat*1) (off:=0) (cs:=[x]) (vs:=fun q=>vs.getD (i.toNat*1+q) Go.undef)
  (fun q hq=>by simp at hq;subst hq;exact a0P hw (by omega)) (fun q hq=>by simp at hq;subst hq;exact ⟨_,by simpa using he⟩) (fun c hc=>by simp at hc;subst hc;exact hcell)
  (av:=x.copy) (b1v hsz rfl hag)
 rw [hcopy] at hrep;simp only [Nat.mul_one,Nat.add_zero] at hr hv;exact ⟨v,by simp [execOp,hop,hv,Instr.loadAt,Instr.sureAddr,hr],fun d=>hrep _⟩
theorem b2X {t:TypeId} {s q:Nat} (hop:o.op = .store t (.tmp s) (.tmp q)) {a0 k:Nat} {l y:List D} {i:Int} {w0:Option (Int×AV)} (hs:g s = .eptr a0 1 i 0) (hq:g q = .fresh k y) (hHi:σ.heap[a0]?=some (.jag k l w0)) {td:TD} (ht:T t=some td)
  (hsz:td.size=1) (hw0:a8r Ar.std i w0=true) (hil:i<(l.length:Int)) (hdst:o.dst=none):a0f P σ o [(q,.undef)] (some (σ.heap.set a0 (.jag k (l.set i.toNat (.list k y)) none))):=by
 have hnd : ∀ c,o.op ≠ .defer c:=by simp [hop]
 intro r n m G a w Q next hm R hn
 obtain ⟨hpt,hnh,hi⟩:=eptr_val hg R (x := .tmp s) hs;have hsg:σ.get q = .fresh k y:=(hg.eq hq (by simp));obtain ⟨R1,hrep1⟩:=R.giveF hsg (.oc a0 i.toNat) (by simp [Loc.root]);obtain ⟨g0,g1,g2,g3,go,g4⟩:=R1.h.objs a0 _ hHi;have hlt:i.toNat<l.length:=by omega
 obtain ⟨cur,e,hO,hw,hsv,hent⟩:=g4 (by omega);have hval:a.eval (.tmp q)=a.tmps.getD q Go.undef:=rfl;generalize hvv:a.tmps.getD q Go.undef=vv at hrep1;have hcells:vv.cells = #[vv]:=by
  cases hrep1 with | fresh _ _ _ _ hr =>
  obtain ⟨p,cap,rfl,_⟩:=hr;rfl
 have hone : ∀ x∈vv.cells.toList,x.oneCell'=true:=by
  rw [hcells];simp;exact hrep1.oneCell rfl
 have hrun:=a0K hT ht hw (off:=i.toNat*1+0) (v:=vv) (by rw [hcells];simp [hsz]) (by omega) hone;have hrs:(i.toNat*1+0)+[vv].length<=cur.size:=by simp;omega
 obtain ⟨hcore,hext⟩:=a3V R1 (l':=l.set i.toNat (.list k y)) (o':=none) (row:=rowOf cur (i.toNat*1+0) [vv]) hHi (by omega) hw (by simp) (fun x hx=>by
   rcases List.mem_or_eq_of_mem_set hx with hx | rfl
   ·exact g3 x hx
   exact ⟨y,rfl⟩) (fun p e=>by cases e) (a0L hrs) (fun j hj=>by
  rw [a0Y hrs];simp only [List.length_singleton];by_cases hji:j=i.toNat
  ·subst hji;rw [if_neg (by omega),if_pos (by omega),List.getElem_set_self];simp only [a2y,frA,if_true];rw [show i.toNat-(i.toNat*1+0)=0 by omega];exact hrep1
  have hj':j<l.length:=by simpa using hj
  have h5:=hent j hj';rw [b0B hw0 hji] at h5;rw [List.getElem_set_ne (Ne.symm hji)];have:(if j<i.toNat*1+0 then cur.getD j Go.undef else if j<i.toNat*1+0+1 then [vv].getD (j-(i.toNat*1+0)) Go.undef else cur.getD j Go.undef)=cur.getD j Go.undef:=by
   split
   ·rfl
   rw [if_neg (by omega)]
  rw [this];exact h5)
 have hβ:(G.move (.s q) (.oc a0 i.toNat)).β=G.β:=rfl;rw [hβ] at hrun hcore hO hext;rw [hcells] at hrun;refine a1r hnd (w':=w.setRow (G.β (.o a0)) (rowOf cur (i.toNat*1+0) [vv])) (by simp only [Nat.mul_one,Nat.add_zero] at hrun hpt ⊢;simp [execOp,hop,hpt,Instr.storeAt,Instr.sureAddr,hval,hvv,hrun]) (hn _ _ _ ?_ ((Ext.move m G w _ _).trans (hext m)));rw [hdst];have hcore':=hcore;simp only [show (σ.upd [(q,AV.undef)] none).heap=σ.heap from rfl] at hcore';rw [a7f] at hcore';simpa [Act.put] using hcore'
theorem a8H {t:TypeId} {s q:Nat} (hop:o.op = .store t (.tmp s) (.tmp q)) {a0 k:Nat} {l:List D} {i:Int} {w0:Option (Int×AV)} {x:AV} (hs:g s = .eptr a0 1 i 0) (hq:g q=x) (hx:x.lent=true) (hHi:σ.heap[a0]?=some (.jag k l w0)) {td:TD} (ht:T t=some td)
  (hsz:td.size=1) (hw0:a8r Ar.std i w0=true) (hil:i<(l.length:Int)) (hdst:o.dst=none):a0f P σ o [] (some (σ.heap.set a0 (.jag k l (some (i,x))))):=by
 have hnd : ∀ c,o.op ≠ .defer c:=by simp [hop]
 obtain ⟨hfree,hcell,hcopy⟩:=b2W hx;intro r n m G a w Q next hm R hn
 obtain ⟨hpt,hnh,hi⟩:=eptr_val hg R (x := .tmp s) hs;obtain ⟨g0,g1,g2,g3,go,g4⟩:=R.h.objs a0 _ hHi;have hlt:i.toNat<l.length:=by omega
 obtain ⟨cur,e,hO,hw,hsv,hent⟩:=g4 (by omega);have hval:a.eval (.tmp q)=a.tmps.getD q Go.undef:=rfl;have hrep1:=hg.rep R q;rw [hq] at hrep1;generalize hvv:a.tmps.getD q Go.undef=vv at hrep1;have hcells:vv.cells = #[vv]:=by
  cases hrep1 <;> first | rfl | (simp [AV.lent] at hx)
 have hone : ∀ x∈vv.cells.toList,x.oneCell'=true:=by
  rw [hcells];simp;exact hrep1.oneCell hcell
 have hrun:=a0K hT ht hw (off:=i.toNat*1+0) (v:=vv) (by rw [hcells];simp [hsz]) (by omega) hone;have hrs:(i.toNat*1+0)+[vv].length<=cur.size:=by simp;omega
 obtain ⟨hcore,hext⟩:=a3V R (l':=l) (o':=some (i,x)) (row:=rowOf cur (i.toNat*1+0) [vv]) hHi (by omega) hw rfl g3 (fun p e=>by cases e;exact ⟨hcell,hfree⟩) (a0L hrs) (fun j hj=>by
  rw [a0Y hrs];simp only [List.length_singleton];by_cases hji:j=i.toNat
  ·subst hji;rw [if_neg (by omega),if_pos (by omega)];simp only [a2y,if_true];rw [show i.toNat-(i.toNat*1+0)=0 by omega];exact hrep1.anywhere hfree _
  have h5:=hent j hj;rw [b0B hw0 hji] at h5;have e6:a2y k (some (i,x)) j l[j]=frA k l[j]:=by simp only [a2y,if_neg hji]
  rw [e6];have:(if j<i.toNat*1+0 then cur.getD j Go.undef else if j<i.toNat*1+0+1 then [vv].getD (j-(i.toNat*1+0)) Go.undef else cur.getD j Go.undef)=cur.getD j Go.undef:=by
   split
   ·rfl
   rw [if_neg (by omega)]
  rw [this];exact h5)
 rw [hcells] at hrun;refine a1r hnd (w':=w.setRow (G.β (.o a0)) (rowOf cur (i.toNat*1+0) [vv])) (by simp only [Nat.mul_one,Nat.add_zero] at hrun hpt ⊢;simp [execOp,hop,hpt,Instr.storeAt,Instr.sureAddr,hval,hvv,hrun]) (hn _ _ _ ?_ (hext m));rw [hdst];simpa [Act.put] using hcore
theorem b7m {t:TypeId} {ln cp:Operand} (hop:o.op = .makeSlice t ln cp) {d:Nat} (hdst:o.dst=some d) {sz e:Nat} {zz:List AV} (ht:T t=some { size:=sz,u := .slice e,zero:=zz }) {td:TD} (hte:T e=some td) {kz kz':IntKind} {z:Int}
  (hln:opD T g 0 ln=some (.int kz z)) (hcp:opD T g 0 cp=some (.int kz' z)) {k:Nat} (hzr:td.zero=[.own k []]) (hag:td.isAgg=false) (hlt:d<σ.n) (hb:(g d).isBox=false) (hsz:td.size=1) (hz0:0<=z) (hfit:z<4294967296) :
  a0f P σ o [(d,.gref σ.heap.length 1)] (some (σ.heap++[.jag k (Ar.std.rep z (.list k [])) none,.dead,.dead])):=by
 have hnd : ∀ c,o.op ≠ .defer c:=by simp [hop]
 intro r n m G a w Q next hm R hn
 have h1:=a0B hg R hln;have h2:=a0B hg R hcp;obtain ⟨ie,de,hie,hde,hisz,hbytes,_,z0,hz0',hz0s,hzl,hzc⟩:=hT.info hte;have hzv:z0.cells.getD 0 Go.undef = .slice none 0 0:=by
  have h:=hzc 0 (by rw [hzr];simp);have e0:td.zero[0]'(by rw [hzr];simp) = .own k []:=by simp [hzr]
  rw [e0] at h;generalize z0.cells.getD 0 Go.undef=v at h;revert h;generalize hA:AV.own k []=A0;intro h;unfold zeroCell at h;split at h
  all_goals first
   | rfl
   | (cases hA;done)
   | (cases h;done)
 obtain ⟨N,rfl⟩:=zp9 hz0;have e1:a.eval ln = .int kz N:=by generalize hv:a.eval ln=v at h1;cases h1;rfl
 have e2:a.eval cp = .int kz' N:=by generalize hv:a.eval cp=v at h2;cases h2;rfl
 have hmk:=run_make (P:=P) w t e ie z0 (hT.slice ht) hie hz0' kz kz' N N (by omega) (by omega) (by
  have:ie.bytes*N<=4096*4294967296:=Nat.mul_le_mul hbytes (by omega);have h3:((ie.bytes*N:Nat):Int)<=281474976710656:=by omega
  rwa [Int.natCast_mul] at h3) (by omega)
 simp only [Int.toNat_natCast,hisz] at hmk;rw [hsz,Nat.mul_one] at hmk;have hu:a0m 1 (List.replicate N (D.list k [])):=fun x hx=>by rw [(List.mem_replicate.1 hx).2];rfl
 have hfl:=a0b hu;have hget : ∀ q,q<N->(madeCells z0.cells N).getD q Go.undef = .slice none 0 0:=by
  intro q hq;rw [<-hzv];simp [madeCells,hz0s,hsz,hq,Array.getD,Nat.mod_one]
 have hrep0:Ar.std.rep (N:Int) (D.list k [])=List.replicate N (D.list k []):=by simp [Ar.std]
 rw [hrep0] at hn;have hrun:(execOp a.eval o).run P w = .ok (.value (.slice (some ⟨w.heap.size,0,none⟩) N N)) (w.alloc (.cells (madeCells z0.cells N) e)):=by simp [execOp,hop,e1,e2,hmk]
 have each : ∀ (q:Nat) (hq:q<(D.flat (List.replicate N (D.list k []))).length),RepD G.K (D.flat (List.replicate N (D.list k [])))[q] ((madeCells z0.cells N).getD q Go.undef)/\((madeCells z0.cells N).getD q Go.undef).oneCell'=true:=by
  intro q hq;have hq':q<N:=by simpa [hfl] using hq
  have e3:(D.flat (List.replicate N (D.list k [])))[q]=D.list k []:=by
   have hfg:=a0A hu (i:=q) (y:=D.list k []) (by rw [List.getElem?_replicate,if_pos hq']) 0 (by omega);simp only [Nat.mul_one,Nat.add_zero] at hfg;rw [zp1 hq] at hfg;simpa [D.cells] using hfg
  rw [e3,hget q hq'];exact ⟨.nil k,rfl⟩
 obtain ⟨R2,hext,hrep⟩:=R.toGro (w':=w.alloc (.cells (madeCells z0.cells N) e)) (k:=1) (l:=List.replicate N (D.list k [])) (cap:=N) (b:=w.heap.size) (p:=some ⟨w.heap.size,0,none⟩) (fun _=>rfl) hu (by simp) (by simp)
  ⟨rfl,rfl,fun ad _=>frozen?_alloc_new _ _ (fun _ _ _ e=>by cases e;rfl) ad,rfl,Nat.le_refl _⟩ (fun b' hb' _=>a0o hb') (fun _ =>
   ⟨by simp,.inl (Nat.le_refl _),_,e,heap_alloc_new,by rw [size_madeCells];omega,fun q hq=>(each q hq).2,fun q hq=>(each q hq).1⟩)
 have R3:=R2.groJag (i:=σ.heap.length) (k:=k) (l:=List.replicate N (D.list k [])) (by simp) (fun x hx=>⟨[],(List.mem_replicate.1 hx).2⟩) (fun vs e' hc hw j hj=>by
  have hb:(G.gro σ.heap.length w.heap.size N (List.replicate N (D.list k [])).length).β (.o σ.heap.length)=w.heap.size:=by simp [Gh.gro]
  rw [hb,heap_alloc_new] at hw;simp at hw;obtain ⟨rfl,rfl⟩:=hw;have hj':j<N:=by simpa using hj
  rw [hget j hj'];simp only [a2y,frA,List.getElem_replicate,if_true];exact .fresh _ _ _ _ ⟨none,0,rfl,fun x hx=>by simp at hx,Nat.le_refl _,fun h=>by omega⟩)
 have eset:(σ.heap++[Obj.gro 1 (List.replicate N (D.list k [])),.dead,.dead]).set σ.heap.length (.jag k (List.replicate N (D.list k [])) none)=σ.heap++[.jag k (List.replicate N (D.list k [])) none,.dead,.dead]:=by
  rw [List.set_append_right _ _ (Nat.le_refl _)];simp
 simp only [eset] at R3;refine a0x hnd hrun (hn _ _ _ ?_ (hext m hm));rw [hdst];simp only [List.length_replicate] at R3 hrep;have:=R3.put (d:=d) (hrep _) (fun r off e=>by cases e) (by show (σ.get d).isBox=false;rw [<-hgd d hdst];exact hb) hlt;simpa [St.upd,a0t] using this
end
def b2Y (σ:St) (x:Loc):Prop:=lets σ x \/ ∃ i j,x = .oc i j/\σ.heap[i]?=some .dead
def Gh.jag (G:Gh) (mv:Loc->Option Nat) (N b cap len:Nat):Gh where
 K:=G.K
 O:=fun x=>if 0<cap/\x=b then some (.o N,0) else match G.O x with
  | some (ℓ,f)=>match mv ℓ with | some j=>some (.oc N j,f) | none=>some (ℓ,f)
  | none=>none
 β:=fun r=>if r = .o N then b else if r = .o (N+1) then cap else if r = .o (N+2) then len else G.β r
 nh:=N+3
theorem Rel.toJag {G:Gh} {σ:St} {a:Act} {w w':World} (R:Rel G σ a w) (mv:Loc->Option Nat) {k:Nat} {l:List D} {cap b:Nat} {p:Option Addr} (hp:0<cap->p=some ⟨b,0,none⟩) (hu : ∀ x∈l,∃ y,x = .list k y) (hl:l.length<=cap)
  (hsz:w.heap.size<=w'.heap.size) (hio:w'.os=w.os/\w'.output=w.output/\(∀ a,a.block<w.heap.size->w'.frozen? a=w.frozen? a)/\w'.tape=w.tape/\w.drawn<=w'.drawn)
  (hoth : ∀ b',b'<w.heap.size->(0<cap->b'≠b)->w'.heap[b']?=w.heap[b']?) (hmv : ∀ ℓ j,mv ℓ=some j->b2Y σ ℓ)
  (hb:0<cap->b<w'.heap.size/\(w.heap.size<=b \/ ∃ ℓ0,G.O b=some (ℓ0,0)/\mv ℓ0=none/\b2Y σ ℓ0) /\ ∃ vs e,w'.heap[b]?=some (.cells vs e (0,0))/\cap<=vs.size /\
   ∀ (j:Nat) (hj:j<l.length),∃ ℓ y,l[j] = .list k y/\mv ℓ=some j/\a4p G w ℓ k y (vs.getD j Go.undef)) :
  Rel (G.jag mv σ.heap.length b cap l.length) { σ with heap:=σ.heap++[.jag k l none,.dead,.dead] } a w'/\(∀ m,m<=G.nh->Ext m G w (G.jag mv σ.heap.length b cap l.length) w') /\
   ∀ ℓ,RepV (G.jag mv σ.heap.length b cap l.length) w' ℓ (.gref σ.heap.length 1) (.slice p l.length cap):=by
 have hnh:=R.h.nh;generalize hN:σ.heap.length=N at hnh ⊢;let G':Gh:=G.jag mv N b cap l.length;show Rel G' _ a w'/\(∀ m,m<=G.nh->Ext m G w G' w') /\ ∀ ℓ,RepV G' w' ℓ _ _;have hb0:G'.β (.o N)=b:=by simp [G',Gh.jag]
 have hb1:G'.β (.o (N+1))=cap:=by simp [G',Gh.jag]
 have hb2:G'.β (.o (N+2))=l.length:=by simp [G',Gh.jag]
 have hβold : ∀ i,i<G.nh->G'.β (.o i)=G.β (.o i):=by
  intro i hi;simp only [G',Gh.jag,Root.o.injEq];rw [if_neg (by omega),if_neg (by omega),if_neg (by omega)]
 have hβs : ∀ t,G'.β (.s t)=G.β (.s t):=fun t=>by simp [G',Gh.jag]
 let S:Loc->Prop:=fun x=>mv x=none/\(0<cap -> ∀ f,G.O b≠some (x,f))

 have hOmv : ∀ b' ℓ f,G.O b'=some (ℓ,f)->(0<cap->b'≠b)->w'.heap[b']?=w.heap[b']? /\ ∀ j,mv ℓ=some j->G'.O b'=some (.oc N j,f):=by
  intro b' ℓ f h hne;refine ⟨hoth b' (R.h.disj b' ℓ f h).1 hne,fun j hj => ?_⟩;simp only [G',Gh.jag];rw [if_neg (by rintro ⟨hc,rfl⟩;exact hne hc rfl)];simp only [h,hj]
 have hOold : ∀ x b' f,S x->G.O b'=some (x,f)->G'.O b'=some (x,f)/\w'.heap[b']?=w.heap[b']?:=by
  intro x b' f hx h;have hne:0<cap->b'≠b:=by rintro hc rfl;exact hx.2 hc f h
  refine ⟨?_,hoth b' (R.h.disj b' x f h).1 hne⟩;simp only [G',Gh.jag];rw [if_neg (by rintro ⟨hc,rfl⟩;exact hne hc rfl)];simp only [h,hx.1]
 have hpr:Pres G G' w w' S:=⟨KLe.refl _,fun b' x f hx h=>hOold x b' f hx h,hβold,by rw [<-hnh];simp [G',Gh.jag]⟩;have hno:Pres G G' w w' (· = .no):=hpr.no R.h.sane;have own0 : ∀ x,¬ S x->b2Y σ x:=by
  intro x hx;cases hm:mv x with
  | some j=>exact hmv x j hm
  | none =>
    rcases Nat.eq_zero_or_pos cap with hc | hc
    ·exact absurd ⟨hm,fun h=>by omega⟩ hx
    rcases (hb hc).2.1 with h | ⟨ℓ0,h,_,hl0⟩
    ·exact absurd ⟨hm,fun _ f hO=>by have:=(R.h.disj _ _ _ hO).1;omega⟩ hx
    have:x=ℓ0:=Classical.byContradiction fun hne=>hx ⟨hm,fun _ f hO=>by rw [h] at hO;simp at hO;exact hne hO.1.symm⟩;subst this;exact hl0
 have hS : ∀ x,¬ b2Y σ x->S x:=fun x hx=>Classical.byContradiction fun h=>hx (own0 x h);have hfreeV : ∀ {ℓ:Loc} {c:AV} {v:Value},RepV G w ℓ c v->c.free=true -> ∀ ℓ',RepV G' w' ℓ' c v:=by
  intro ℓ c v h hf ℓ';refine ((h.anywhere hf .no).pres R.h.sane hno rfl (fun r off e => ?_) (fun t e=>by cases e)).anywhere hf ℓ';subst e;simp [AV.free] at hf
 have hslot : ∀ t,RepV G' w' (.s t) (σ.get t) (a.tmps.getD t Go.undef):=by
  intro t;by_cases h:S (.s t)
  ·refine (R.slots t).pres R.h.sane hpr h (fun r off e=>hβs r) (fun t' e hbx=>⟨hβs t',fun j=>hS _ ?_⟩);rintro (h | ⟨i,j',h,_⟩)
   ·simp [lets] at h
   cases h
  rcases own0 _ h with h | ⟨i,j,h,_⟩
  ·exact hfreeV (R.slots t) h _
  cases h
 have hobj : ∀ i ob,σ.heap[i]?=some ob->a1H G' w' i ob:=by
  intro i ob hob;have hi:i<G.nh:=by rw [<-hnh,<-hN];exact (zp2.1 hob).1
  by_cases hd:ob = .dead
  ·subst hd;trivial

  have oc0 : ∀ j,¬ S (.oc i j)->(∃ cs,ob = .cells cs /\ ∀ c,cs[j]?=some c->c.free=true) \/ ∃ k l t x,ob = .jag k l (some (t,x))/\j=t.toNat:=by
   intro j hj;rcases own0 _ hj with h | ⟨i',j',h,h'⟩
   ·rcases h with ⟨cs,hcs,hcj⟩ | ⟨k1,l1,t1,x1,hcs,hjt⟩
    ·rw [hob] at hcs;cases hcs;exact .inl ⟨cs,rfl,hcj⟩
    rw [hob] at hcs;cases hcs;exact .inr ⟨k1,l1,t1,x1,rfl,hjt⟩
   cases h;rw [hob] at h';cases h';exact absurd rfl hd
  by_cases h:S (.o i)
  ·by_cases h2 : ∀ j,S (.oc i j)
   ·exact (R.h.objs i ob hob).pres R.h.sane hi hpr h h2
   have h2' : ∃ j,¬ S (.oc i j):=Classical.byContradiction fun hh=>h2 fun j=>Classical.byContradiction fun hj=>hh ⟨j,hj⟩;obtain ⟨j0,hj0⟩:=h2';rcases oc0 j0 hj0 with ⟨cs,rfl,hcj⟩ | ⟨k1,l1,t1,x1,rfl,hjt⟩
   ·obtain ⟨vs,e,h1,h3,h4,h5,h6⟩:=R.h.objs i _ hob;obtain ⟨h7,h8⟩:=hOold _ _ _ h h1;rw [<-hβold i hi] at h3 h7 h8;refine ⟨vs,e,h7,h8.trans h3,h4,fun j hj => ?_,h6⟩;by_cases hs:S (.oc i j)
    ·exact (h5 j hj).pres R.h.sane hpr hs (fun r off e=>absurd e (AV.not_place (AV.isLocal_of_isCell (h6 _ (zp6 hj))) r off)) (fun t e=>by cases e)
    rcases oc0 j hs with ⟨cs',hcs',hcj'⟩ | ⟨_,_,_,_,hcs',_⟩
    ·cases hcs';exact hfreeV (h5 j hj) (hcj' _ (zp1 hj)) _
    cases hcs'
   obtain ⟨g0,g1,g2,g3,go,g4⟩:=R.h.objs i _ hob;have hb1:=hβold (i+1) (by omega);have hb2:=hβold (i+2) g0;refine ⟨by simp only [G',Gh.jag];omega,by rw [hb2];exact g1,by rw [hb1];exact g2,g3,go,fun hcc => ?_⟩;rw [hb1] at hcc;obtain ⟨vs,e,h1,h3,h4,h5⟩:=g4 hcc;obtain ⟨h7,h8⟩:=hOold _ _ _ h h1;rw [<-hβold i hi] at h3 h7 h8;refine ⟨vs,e,h7,h8.trans h3,by rw [hb1];exact h4,fun j hj => ?_⟩;obtain ⟨l',hx⟩:=g3 _ (zp6 hj);by_cases hs:S (.oc i j)
   ·exact (h5 j hj).pres R.h.sane hpr hs (fun r off e=>absurd e (AV.not_place (a2a hx go).1 r off)) (fun t e=>by cases e)
   rcases oc0 j hs with ⟨cs',hcs',hcj'⟩ | ⟨k2,l2,t2,x2,hcs',hjt'⟩
   ·cases hcs'
   injection hcs' with e1 e2 e3;injection e3 with e3;injection e3 with e3 e4
   subst e3 e4 hjt';have:=h5 _ hj;have e5:a2y k1 (some (t1,x1)) t1.toNat l1[t1.toNat]=x1:=by simp [a2y]
   rw [e5] at this ⊢;exact hfreeV this (go _ rfl).2 _
  rcases own0 _ h with h | ⟨i',j',h,_⟩
  ·simp only [lets] at h;rw [hob] at h;injection h with h;exact absurd h hd
  cases h
 have hdisj : ∀ b' ℓ f,G'.O b'=some (ℓ,f)->b'<w'.heap.size/\(∀ j,f<=j->G'.K ⟨b',j,none⟩=none)/\ℓ.root ≠ .no:=by
  intro b' ℓ f h;simp only [G',Gh.jag] at h;split at h
  ·rename_i hc;obtain ⟨hc,rfl⟩:=hc;obtain ⟨h1,h2,_⟩:=hb hc;cases h;refine ⟨h1,fun j _ => ?_,by simp [Loc.root]⟩;show G.K _=none;rcases h2 with h2 | ⟨ℓ0,h2,_⟩
   ·cases hK:G.K ⟨b',j,none⟩ with
    | none=>rfl
    | some v=>have:=World.block_lt_of_cell? w _ (R.h.kept _ _ hK);simp at this;omega
   exact (R.h.disj _ _ _ h2).2 j (Nat.zero_le _)
  split at h
  ·rename_i ℓ1 f1 hO1;obtain ⟨h1,h2⟩:=R.h.disj b' ℓ1 f1 hO1;have h3:=R.h.sane.no b' ℓ1 f1 hO1;split at h
   ·cases h;exact ⟨by omega,h2,by simp [Loc.root]⟩
   cases h;exact ⟨by omega,h2,h3⟩
  cases h
 have hkept : ∀ x v,G'.K x=some v->w'.cell? x=some v:=by
  intro x v h;have hx:=R.h.kept x v h;have hlt:=World.block_lt_of_cell? w _ hx;have hne:0<cap->x.block≠b:=by
   intro hc hxb;have hspot:=World.cell?_spot hx;obtain ⟨xb,j,s⟩:=x;simp at hspot hxb;subst hspot hxb;rcases (hb hc).2.1 with h2 | ⟨ℓ0,h2,_⟩
   ·simp at hlt;omega
   have:=(R.h.disj _ _ _ h2).2 j (Nat.zero_le _);have h':G.K ⟨xb,j,none⟩=some v:=h;rw [this] at h';cases h'
  unfold World.cell? at *
  rwa [hoth _ hlt hne]
 refine ⟨⟨⟨⟨fun b' x f h=>(hdisj b' x f h).2.2⟩,by simp [G',Gh.jag,hN],fun i ob hob => ?_,hkept,fun b' x f h=>⟨(hdisj b' x f h).1,(hdisj b' x f h).2.1⟩⟩,R.size,hslot,R.places,?_⟩,fun m hm => ?_,fun ℓ => ?_⟩
 ·simp only at hob;rcases Nat.lt_or_ge i N with hi | hi
  ·rw [zp7 (by omega)] at hob;exact hobj i ob hob
  rw [zp8 (by omega),hN] at hob
  match hq:i-N,hob with
  | 0,hob =>
    obtain rfl:i=N:=by omega
    simp at hob;subst hob;show i+2<G'.nh/\_;refine ⟨by simp [G',Gh.jag],by rw [hb2],by rw [hb1];exact hl,hu,fun p e=>(by cases e),fun hc => ?_⟩;rw [hb1] at hc ⊢;obtain ⟨h1,h2,vs,e,h3,h4,h5⟩:=hb hc;rw [hb0];refine ⟨vs,e,by simp only [G',Gh.jag];rw [if_pos ⟨hc,trivial⟩],h3,h4,fun j hj => ?_⟩;obtain ⟨ℓ,y,e1,e2,e3⟩:=h5 j hj;rw [e1];simp only [a2y,frA,if_true];refine .fresh _ _ _ _ (e3.mono (KLe.refl _) (fun b' hO => ?_));have hne:0<cap->b'≠b:=by
     rintro _ rfl;rcases h2 with h2 | ⟨ℓ0,h2,h6,_⟩
     ·have:=(R.h.disj _ _ _ hO).1;omega
     rw [hO] at h2;simp at h2;rw [h2,h6] at e2;cases e2
    obtain ⟨q1,q2⟩:=hOmv b' ℓ 0 hO hne;exact ⟨q2 j e2,q1⟩
  | 1,hob=>simp at hob;subst hob;trivial
  | 2,hob=>simp at hob;subst hob;trivial
  | q+3,hob=>simp at hob
 ·refine ⟨R.df.1,fun x hx => ?_⟩;obtain ⟨r0,h1,h2,h3⟩:=R.df.2 x hx;obtain ⟨h4,h5⟩:=hOold _ _ _ (hS .df (fun h=>by
   rcases h with h | ⟨i,j,h,_⟩
   ·simp [lets] at h
   cases h)) h2
  exact ⟨r0,h1,h4,h5.trans h3⟩
 ·refine ⟨KLe.refl _,fun x v h => .inl h,fun b' hb' h => ?_,hsz,fun i hi=>hβold i (by omega),hio⟩;have hne:0<cap->b'≠b:=by
   rintro hc rfl;rcases (hb hc).2.1 with h2 | ⟨ℓ0,h2,_⟩
   ·omega
   rw [h] at h2;cases h2
  refine ⟨hoth b' hb' hne,?_⟩;simp only [G',Gh.jag];rw [if_neg (by rintro ⟨hc,rfl⟩;exact hne hc rfl)];simp only [h]
 have:=RepV.gref (G:=G') (w:=w') ℓ N 1 p (by simp [G',Gh.jag]) (by rw [hb1,hb2];exact hl) (by rw [hb1,hb0];exact hp)
 rwa [hb1,hb2] at this
section
variable {P:Program} {T:a0l} (hT:TOk P T) {σ:St} {g:Nat->AV} {o:Oper} {ss:a1p} {h':Option (List Obj)} {H:List Obj} {an:Ann}
 (hg:Less g σ) (hgd : ∀ d,o.dst=some d->g d=σ.get d)
include hT hg hgd
theorem b5l {t:TypeId} {q:Nat} (hop:o.op = .buildSlice t 1 #[(0,.tmp q)]) {d k:Nat} {y:List D} (hdst:o.dst=some d) {sz e:Nat} {zz:List AV} (ht:T t=some { size:=sz,u := .slice e,zero:=zz }) {td:TD} (hte:T e=some td)
  (hsz:td.size=1) (hlt:d<σ.n) (hb:(g d).isBox=false) (hqd : ¬ q=d) (hq:g q = .fresh k y) :
  a0f P σ o [(q,.undef),(d,.gref σ.heap.length 1)] (some (σ.heap++[.jag k [.list k y] none,.dead,.dead])):=by
 have hnd : ∀ c,o.op ≠ .defer c:=by simp [hop]
 intro r n m G a w Q next hm R hn
 have hsg:σ.get q = .fresh k y:=(hg.eq hq (by simp));have hrep:=R.slots q;rw [hsg] at hrep;have hval:a.eval (.tmp q)=a.tmps.getD q Go.undef:=rfl;generalize hvv:a.tmps.getD q Go.undef=vv at hrep;cases hrep with | fresh _ _ _ _ hfr =>
 obtain ⟨p0,cap0,hv0,_⟩:=id hfr;have hcells:vv.cells = #[vv]:=by rw [hv0];rfl
 obtain ⟨i,dd,hi,hdd,hisz,hbytes,huok,z0,hz,hzs,hzl,hzc⟩:=hT.info hte;obtain ⟨cells',k1,k2,k3⟩:=a5x (k:=1) [((0:Nat),vv)] 0 ((Array.range (1*td.size)).map (z0.cells[· % z0.cells.size]!)) (fun j hj=>by simp at hj;subst hj;rfl) (fun p hp=>by simp at hp;subst hp;rw [hcells];rfl) (by simp [hsz]);have hc0:cells'.getD 0 Go.undef=vv:=by
  rw [k3 0,if_pos (by simp)];simp [cellsOf,hcells]
 have hcs:cells'.size=1:=by rw [k2];simp [hsz]
 have hrun:(execOp a.eval o).run P w = .ok (.value (.slice (some ⟨w.heap.size,0,none⟩) 1 1)) (w.alloc (.cells cells' e)):=by
  have k1':Instr.fill (fun i=>some (i*td.size,td.size)) ((Array.range (1*td.size)).map (z0.cells[· % z0.cells.size]!)) [((0:Nat),vv)]=some cells':=by
   rw [hsz] at k1 ⊢;simpa using k1
  have key:(Instr.buildSlice t 1 #[((0:Nat),vv)]).run P w = .ok (.slice (some ⟨w.heap.size,0,none⟩) 1 1) (w.alloc (.cells cells' e)):=by
   unfold Instr.buildSlice;simp only [Sem.run_bind,Go.underlying,run_program,Result.andThen_ok,hT.slice ht,Sem.run_pure,hT.size hte,gt_iff_lt];rw [if_neg (by rw [hsz];decide),if_neg (by rw [hsz];decide)];simp only [zeroValue,typeInfo,Sem.run_bind,run_program,hi,hz,Result.andThen_ok,Sem.run_pure];rw [k1'];simp [newRow]
  simp only [execOp,hop,Sem.run_bind,List.map_toArray,List.map_cons,List.map_nil,hval,hvv];rw [key];simp

 have R1:=R.reSlotG (s:=q) (c := .undef) (.undef _ _) rfl (by rw [hsg];rfl);let σ1:St:={ σ with env:=eset σ.env q .undef }
 have hfr1:a4p G w (.s q) k y vv:=hfr;obtain ⟨R2,hext,hrep2⟩:=R1.toJag (fun ℓ=>if ℓ = .s q then some 0 else none) (w':=w.alloc (.cells cells' e)) (k:=k) (l:=[.list k y]) (cap:=1) (b:=w.heap.size) (p:=some ⟨w.heap.size,0,none⟩) (fun _=>rfl) (fun x hx=>by simp at hx;exact ⟨y,hx⟩) (by simp) (by simp)
  ⟨rfl,rfl,fun ad _=>frozen?_alloc_new _ _ (fun _ _ _ e=>by cases e;rfl) ad,rfl,Nat.le_refl _⟩ (fun b' hb' _=>a0o hb') (fun ℓ j h=>by
   split at h
   ·rename_i e;subst e;exact .inl (by show ((σ1).get q).free=true;simp [σ1,St.get,a0e,AV.free])
   cases h) (fun _=>⟨by simp,.inl (Nat.le_refl _),cells',e,heap_alloc_new,by omega,fun j hj=>by
   have:j=0:=by simpa using hj
   subst this;exact ⟨.s q,y,rfl,by simp,by rw [hc0];exact hfr1⟩⟩)
 refine a0x hnd hrun (hn _ _ _ ?_ (hext m hm));rw [hdst];have hbd:(σ.get d).isBox=false:=by rw [<-hgd d hdst];exact hb
 have:=R2.put (d:=d) (hrep2 _) (fun r off e=>by cases e) (by show ((eset σ.env q .undef |> fun e=>({ σ with env:=e }:St)).get d).isBox=false;simp only [St.get,a0e,if_neg hqd];exact hbd) hlt
 simpa [St.upd,a0t] using this
theorem b5m {t:TypeId} {ln cp:Operand} (hop:o.op = .makeSlice t ln cp) {d:Nat} (hdst:o.dst=some d) {sz e:Nat} {zz:List AV} (ht:T t=some { size:=sz,u := .slice e,zero:=zz }) {td:TD} (hte:T e=some td) {kz kz':IntKind} {z z':Int}
  (hln:opD T g 0 ln=some (.int kz z)) (hcp:opD T g 0 cp=some (.int kz' z')) {y:D} (hy:a4V td=some y) (hlt:d<σ.n) (hb:(g d).isBox=false) (hpos:0<td.size) (hz0:0<=z) (hzz:z<=z') (hfit:z'<4294967296) :
  a0f P σ o [(d,.fresh td.size (Ar.std.rep z y))] none:=by
 have hnd : ∀ c,o.op ≠ .defer c:=by simp [hop]
 intro r n m G a w Q next hm R hn
 have h1:=a0B hg R hln;have h2:=a0B hg R hcp;obtain ⟨ie,de,hie,hde,hisz,hbytes,_⟩:=hT.info hte;obtain ⟨z0,hz0',hz0s,hyl,hzr⟩:=a3T hT hte hy hie;obtain ⟨N,rfl⟩:=zp9 hz0;obtain ⟨M,rfl⟩:=zp9 (show 0<=z' by omega);have hNM:N<=M:=by omega
 have e1:a.eval ln = .int kz N:=by generalize hv:a.eval ln=v at h1;cases h1;rfl
 have e2:a.eval cp = .int kz' M:=by generalize hv:a.eval cp=v at h2;cases h2;rfl
 have hmk:=run_make (P:=P) w t e ie z0 (hT.slice ht) hie hz0' kz kz' N M (by omega) (by omega) (by
  have:ie.bytes*M<=4096*4294967296:=Nat.mul_le_mul hbytes (by omega);have h3:((ie.bytes*M:Nat):Int)<=281474976710656:=by omega
  rwa [Int.natCast_mul] at h3) (by omega)
 simp only [Int.toNat_natCast,hisz] at hmk;have hu:a0m td.size (List.replicate N y):=fun x hx=>by rw [(List.mem_replicate.1 hx).2];exact hyl
 have hfl:=a0b hu;have hmul:N*td.size<=M*td.size:=Nat.mul_le_mul_right _ hNM;have hget : ∀ q,q<N*td.size->(madeCells z0.cells (M*td.size)).getD q Go.undef=z0.cells.getD (q%td.size) Go.undef:=by
  intro q hq;have hm:=Nat.mod_lt q hpos;have hq2:q<M*td.size:=by omega
  simp [madeCells,hz0s,hq2,Array.getD,hm]
 have hrep0:Ar.std.rep (N:Int) y=List.replicate N y:=by simp [Ar.std]
 rw [hrep0] at hn;have hrun:(execOp a.eval o).run P w = .ok (.value (.slice (some ⟨w.heap.size,0,none⟩) N M)) (w.alloc (.cells (madeCells z0.cells (M*td.size)) e)):=by simp [execOp,hop,e1,e2,hmk]
 have each : ∀ (q:Nat) (hq:q<(D.flat (List.replicate N y)).length),RepD G.K (D.flat (List.replicate N y))[q] ((madeCells z0.cells (M*td.size)).getD q Go.undef)/\((madeCells z0.cells (M*td.size)).getD q Go.undef).oneCell'=true:=by
  intro q hq;have hq':q<N*td.size:=by simpa [hfl] using hq
  have hqm:q%td.size<td.size:=Nat.mod_lt _ hpos;have hqd:q / td.size<N:=by rw [Nat.div_lt_iff_lt_mul hpos];exact hq'
  have hqq:q / td.size*td.size+q%td.size=q:=by rw [Nat.mul_comm];exact Nat.div_add_mod _ _
  have hfg:=a0A hu (i:=q / td.size) (y:=y) (by rw [List.getElem?_replicate,if_pos hqd]) (q%td.size) hqm;rw [hqq,zp1 hq,zp1 (by omega)] at hfg;rw [Option.some.inj hfg,hget q hq'];exact hzr _ _ _
 obtain ⟨R2,hext,hrep⟩:=R.toLoc (.s d) (by simp [Loc.root]) (w':=w.alloc (.cells (madeCells z0.cells (M*td.size)) e)) (k:=td.size) (l:=List.replicate N y) (cap:=M) (b:=w.heap.size) (p:=some ⟨w.heap.size,0,none⟩) (fun _=>rfl) hu (by simp;omega) (by simp)
  ⟨rfl,rfl,fun ad _=>frozen?_alloc_new _ _ (fun _ _ _ e=>by cases e;rfl) ad,rfl,Nat.le_refl _⟩ (fun b' hb' _=>a0o hb') (fun _ =>
   ⟨by simp,.inl (Nat.le_refl _),_,e,heap_alloc_new,by rw [size_madeCells];simp,fun q hq=>(each q hq).2,fun q hq=>(each q hq).1⟩)
 refine a0x hnd hrun (hn _ _ _ ?_ (hext m hm));rw [hdst];simp only [List.length_replicate] at R2 hrep;have:=R2.put (d:=d) (.fresh _ _ _ _ hrep) (fun r off e=>by cases e) (by show (σ.get d).isBox=false;rw [<-hgd d hdst];exact hb) hlt;simpa [St.upd,a0t] using this
theorem b2Z {t:TypeId} (hop:o.op = .buildSlice t 1 #[(0,.const (.slice none 0 0))]) {d k:Nat} (hdst:o.dst=some d) {sz e:Nat} {zz:List AV} (ht:T t=some { size:=sz,u := .slice e,zero:=zz }) {td:TD} (hte:T e=some td)
  (hsz:td.size=1) (hlt:d<σ.n) (hb:(g d).isBox=false) :
  a0f P σ o [(d,.gref σ.heap.length 1)] (some (σ.heap++[.jag k [.list k []] none,.dead,.dead])):=by
 have hnd : ∀ c,o.op ≠ .defer c:=by simp [hop]
 intro r n m G a w Q next hm R hn
 obtain ⟨i,dd,hi,hdd,hisz,hbytes,huok,z0,hz,hzs,hzl,hzc⟩:=hT.info hte;obtain ⟨cells',k1,k2,k3⟩:=a5x (k:=1) [((0:Nat),(Value.slice none 0 0))] 0 ((Array.range (1*td.size)).map (z0.cells[· % z0.cells.size]!)) (fun j hj=>by simp at hj;subst hj;rfl) (fun p hp=>by simp at hp;subst hp;rfl) (by simp [hsz]);have hc0:cells'.getD 0 Go.undef = .slice none 0 0:=by
  rw [k3 0,if_pos (by simp)];simp [cellsOf,Value.cells]
 have hcs:cells'.size=1:=by rw [k2];simp [hsz]
 have hrun:(execOp a.eval o).run P w = .ok (.value (.slice (some ⟨w.heap.size,0,none⟩) 1 1)) (w.alloc (.cells cells' e)):=by
  have k1':Instr.fill (fun i=>some (i*td.size,td.size)) ((Array.range (1*td.size)).map (z0.cells[· % z0.cells.size]!)) [((0:Nat),(Value.slice none 0 0))]=some cells':=by
   rw [hsz] at k1 ⊢;simpa using k1
  have key:(Instr.buildSlice t 1 #[((0:Nat),(Value.slice none 0 0))]).run P w = .ok (.slice (some ⟨w.heap.size,0,none⟩) 1 1) (w.alloc (.cells cells' e)):=by
   unfold Instr.buildSlice;simp only [Sem.run_bind,Go.underlying,run_program,Result.andThen_ok,hT.slice ht,Sem.run_pure,hT.size hte,gt_iff_lt];rw [if_neg (by rw [hsz];decide),if_neg (by rw [hsz];decide)];simp only [zeroValue,typeInfo,Sem.run_bind,run_program,hi,hz,Result.andThen_ok,Sem.run_pure];rw [k1'];simp [newRow]
  have hev:a.eval (.const (.slice none 0 0)) = .slice none 0 0:=rfl;simp only [execOp,hop,Sem.run_bind,List.map_toArray,List.map_cons,List.map_nil,hev];rw [key];simp
 have hu:a0m 1 [D.list k []]:=fun x hx=>by simp at hx;subst hx;rfl
 have hfl:D.flat [D.list k []]=[D.list k []]:=rfl;obtain ⟨R2,hext,hrep⟩:=R.toGro (w':=w.alloc (.cells cells' e)) (k:=1) (l:=[D.list k []]) (cap:=1) (b:=w.heap.size) (p:=some ⟨w.heap.size,0,none⟩) (fun _=>rfl) hu (by simp) (by simp)
  ⟨rfl,rfl,fun ad _=>frozen?_alloc_new _ _ (fun _ _ _ e=>by cases e;rfl) ad,rfl,Nat.le_refl _⟩ (fun b' hb' _=>a0o hb') (fun _ =>
   ⟨by simp,.inl (Nat.le_refl _),_,e,heap_alloc_new,by omega,fun q hq=>by
    have:q=0:=by rw [hfl] at hq;simpa using hq
    subst this;rw [hc0];rfl,fun q hq=>by
    have:q=0:=by rw [hfl] at hq;simpa using hq
    subst this;rw [hc0];exact .nil k⟩)
 have R3:=R2.groJag (i:=σ.heap.length) (k:=k) (l:=[D.list k []]) (by simp) (fun x hx=>⟨[],by simpa using hx⟩) (fun vs e' hc hw j hj=>by
  have hb:(G.gro σ.heap.length w.heap.size 1 [D.list k []].length).β (.o σ.heap.length)=w.heap.size:=by simp [Gh.gro]
  rw [hb,heap_alloc_new] at hw;simp at hw;obtain ⟨rfl,rfl⟩:=hw;have hj':j=0:=by simpa using hj
  subst hj';rw [hc0];simp only [a2y,frA,List.getElem_cons_zero,if_true];exact .fresh _ _ _ _ ⟨none,0,rfl,fun x hx=>by simp at hx,Nat.le_refl _,fun h=>by omega⟩)
 have eset:(σ.heap++[Obj.gro 1 [D.list k []],.dead,.dead]).set σ.heap.length (.jag k [D.list k []] none)=σ.heap++[.jag k [D.list k []] none,.dead,.dead]:=by
  rw [List.set_append_right _ _ (Nat.le_refl _)];simp
 simp only [eset] at R3;refine a0x hnd hrun (hn _ _ _ ?_ (hext m hm));rw [hdst];have:=R3.put (d:=d) (hrep _) (fun r off e=>by cases e) (by show (σ.get d).isBox=false;rw [<-hgd d hdst];exact hb) hlt;simpa [St.upd,a0t] using this
theorem b3a {y k:Nat} {a0:Nat} {lo ln:Int} {l:List D} (hy:g y = .mref a0 k lo ln) (hHi:σ.heap[a0]?=some (.gro k l)) (hc:lo+ln<=(l.length:Int)) {G:Gh} {a:Act} {w:World} (R:Rel G σ a w) :
  a0m k (Ar.std.sub l lo (lo+ln))/\(∃ b cap,a.eval (.tmp y) = .slice b (Ar.std.sub l lo (lo+ln)).length cap) /\ ∀ w':World,w'.heap=w.heap -> ∃ arr:Array Value,(Builtin.firstCells k (Ar.std.sub l lo (lo+ln)).length (a.eval (.tmp y))).run P w' = .ok arr w'/\arr.size=(D.flat (Ar.std.sub l lo (lo+ln))).length /\
   ∀ (q:Nat) (hq:q<(D.flat (Ar.std.sub l lo (lo+ln))).length),RepD G.K (D.flat (Ar.std.sub l lo (lo+ln)))[q] (arr.getD q Go.undef)/\(arr.getD q Go.undef).oneCell'=true:=by
 obtain ⟨b,off,cap,hv,hnh,hlo,hn0,hcap,hbo⟩:=a1g hg R (x := .tmp y) hy;obtain ⟨_,hlen,hlc,hu,hrow⟩:=R.h.objs a0 _ hHi;obtain ⟨LO,rfl⟩:=zp9 hlo;obtain ⟨N,rfl⟩:=zp9 hn0;have hfl:=a0b hu;have e0:Ar.std.sub l (LO:Int) ((LO:Int)+(N:Int))=(l.drop LO).take N:=by
  simp only [Ar.std];have:((LO:Int)+(N:Int)).toNat-(LO:Int).toNat=N:=by omega
  rw [this];rfl
 rw [e0];have hln:((l.drop LO).take N).length=N:=by simp;omega
 have huf:a0m k ((l.drop LO).take N):=fun x hx=>hu x (List.mem_of_mem_drop (List.mem_of_mem_take hx));have hff:=a0b huf;rw [hln] at hff;refine ⟨huf,⟨_,cap,by rw [hln];simpa using hv⟩,fun w' hw' => ?_⟩;rw [hln,hv];simp only [Int.toNat_natCast];have hmul:LO*k+N*k<=l.length*k:=by rw [<-Nat.add_mul];exact Nat.mul_le_mul_right _ (by omega)
 rcases Nat.eq_zero_or_pos N with h0 | h0
 ·subst h0;refine ⟨#[],by simp [Builtin.firstCells,loadCells,loadCellsFrom],?_,fun q hq => ?_⟩
  ·rw [hff];simp
  rw [hff] at hq;omega
 obtain ⟨rfl,rfl⟩:=hbo (by omega);obtain ⟨vs,e,hO,hw,hsz,hone,hh⟩:=hrow (by omega);have hmulc:l.length*k<=G.β (.o (a0+1))*k:=Nat.mul_le_mul_right _ hlc;simp only [Int.toNat_natCast];have hl:=run_loadCells (P:=P) w' ⟨G.β (.o a0),LO*k,none⟩ (N*k) (fun j=>vs.getD (LO*k+j) Go.undef) (fun j hj=>by
  rw [Addr.add_none];have:=a0P hw (show LO*k+j<vs.size by omega);unfold World.cell? at *
  rwa [hw'])
 refine ⟨((List.range (N*k)).map fun j=>vs.getD (LO*k+j) Go.undef).toArray,by simp [Builtin.firstCells,hl],by simp [hff],fun q hq => ?_⟩;rw [hff] at hq;have e1:((List.range (N*k)).map fun j=>vs.getD (LO*k+j) Go.undef).toArray.getD q Go.undef=vs.getD (LO*k+q) Go.undef:=by
  simp [hq]
 rw [e1];have e2:D.flat ((l.drop LO).take N)=((D.flat l).drop (LO*k)).take (N*k):=by
  rw [a0X (fun x hx=>hu x (List.mem_of_mem_drop hx)),a1A hu]
 have hj:LO*k+q<(D.flat l).length:=by omega
 have e3:(D.flat ((l.drop LO).take N))[q]'(by rw [hff];exact hq)=(D.flat l)[LO*k+q]:=by
  apply Option.some.inj;rw [<-zp1,<-zp1,e2,List.getElem?_take_of_lt hq,List.getElem?_drop]
 rw [e3];exact ⟨hh _ hj,hone _ hj⟩
theorem b3b {t:TypeId} {s:Nat} {lo:Operand} (hop:o.op = .slice t (.tmp s) (some lo) none none) {a0 k:Nat} {l:List D} (hs:g s = .gref a0 k) (hHi:σ.heap[a0]?=some (.gro k l)) {z:Int}
  (hes:a0j T t=some k) (hb:bound g T 0 (some lo)=some z) (hz0:0<=z) (hz1:z<=(l.length:Int)) (hne:0<l.length) (h:put σ.n g o.dst (.mref a0 k z ((l.length:Int)-z))=some (ss,h')):a0f P σ o ss h':=by
 obtain ⟨sz,e,zz,td,ht,hte,rfl⟩:=a0p hes;refine a0d hgd h (by simp [hop]) (AV.free_place rfl) ?_;intro G a w R;obtain ⟨p,hv,hnh,hle,hp⟩:=a1L hg R hs;obtain ⟨_,q1,q2,hu,q3⟩:=R.h.objs a0 _ hHi;obtain rfl:=hp (by omega);obtain ⟨nl,rfl⟩:=zp9 hz0;obtain ⟨kk,e1⟩:=a0z hg hb R;have hrun:=a0J (P:=P) (w:=w) (len:=G.β (.o (a0+2))) (cap:=G.β (.o (a0+1))) (nl:=nl) (nh:=G.β (.o (a0+2))) (m:=G.β (.o (a0+1))) (low:=some (a.eval lo)) (high:=none) (max:=none)
  (.inr ⟨kk,by rw [e1]⟩) (.inl ⟨rfl,rfl⟩) (.inl ⟨rfl,rfl⟩) (by omega) hle (Nat.le_refl _)
 refine ⟨_,by simp [execOp,hop,Instr.sliceAt,Instr.slice,Go.underlying,hT.slice ht,hv,hrun,hT.size hte];rfl,fun d => ?_⟩;have e2:((l.length:Int)-(nl:Int)).toNat=G.β (.o (a0+2))-nl:=by omega
 have hnh0:a0<G.nh:=by omega
 by_cases hm:G.β (.o (a0+1))=nl
 ·rw [if_pos hm];have:=RepV.mref (G:=G) (w:=w) (.s d) a0 td.size (nl:Int) ((l.length:Int)-nl) (G.β (.o a0)) 0 (G.β (.o (a0+1))-nl) hnh0 (by omega) (by omega) (by omega) (by omega)
  rwa [e2] at this
 rw [if_neg hm];have:=RepV.mref (G:=G) (w:=w) (.s d) a0 td.size (nl:Int) ((l.length:Int)-nl) (G.β (.o a0)) (nl*td.size) (G.β (.o (a0+1))-nl) hnh0 (by omega) (by omega) (by omega) (fun _=>⟨rfl,by simp⟩);rw [e2] at this;simpa [Addr.add_none] using this
theorem b3c {s q:Nat} {t u:TypeId} (hop:o.op = .call { callee := .builtin .append,args := #[.tmp s,.tmp q],argTypes := #[t,u] }) {a0 a1 k d:Nat} {l ys:List D} (hs:g s = .gref a0 1) (hHi:σ.heap[a0]?=some (.jag k l none))
  (hq:g q = .gref a1 1) (hHq:σ.heap[a1]?=some (.jag k ys none)) (hne:a0≠a1) (het:a0j T t=some 1) (heu:a0j T u=some 1) (hdst:o.dst=some d) (hlt:d<σ.n) (hbx:(g d).isBox=false) (hfits:(l.length:Int)+ys.length<4294967296) :
  a0f P σ o [(d,.gref σ.heap.length 1)] (some ((σ.heap.set a0 .dead).set a1 .dead++[.jag k (l++ys) none,.dead,.dead])):=by
 have hnd : ∀ c,o.op ≠ .defer c:=by simp [hop]
 obtain ⟨sz,e,zz,td,hTt,hTe,hks⟩:=a0p het;obtain ⟨sz1,e1,zz1,td1,hTt1,hTe1,hks1⟩:=a0p heu;obtain ⟨ie,dd,hie,hdd,hsz,hbytes,huok,z0,hz,hzs,hzl,hzc⟩:=hT.info hTe;have hks:td.size=1:=hks.symm▸rfl;intro r n m G a w Q next hm R hn
 obtain ⟨p,hsv,hnh,hle,hp⟩:=a1L hg R hs;obtain ⟨p',hyv,hnh',hle',hp'⟩:=a1L hg R hq;obtain ⟨g0,g1,g2,g3,go,g4⟩:=R.h.objs a0 _ hHi;obtain ⟨j0,j1,j2,j3,jo,j4⟩:=R.h.objs a1 _ hHq;generalize hcs:G.β (.o (a0+1))=cs at *;generalize hcy:G.β (.o (a1+1))=cy at *;rw [<-g1] at hsv;rw [<-j1] at hyv

 obtain ⟨arrY,f1,f2,f4⟩ : ∃ arrY:Array Value,(∀ w':World,w'.heap=w.heap->(Builtin.firstCells 1 ys.length (Value.slice p' ys.length cy)).run P w' = .ok arrY w')/\arrY.size=ys.length /\
   ∀ (j:Nat) (hj:j<ys.length),∃ y,ys[j] = .list k y/\a4p G w (.oc a1 j) k y (arrY.getD j Go.undef)/\(arrY.getD j Go.undef).oneCell'=true:=by
  rcases Nat.eq_zero_or_pos ys.length with h0 | h0
  ·refine ⟨#[],fun w' _ => ?_,by simp [h0],fun j hj=>by omega⟩;rw [h0];cases p' <;> simp [Builtin.firstCells,loadCells,loadCellsFrom]
  obtain rfl:=hp' (by omega);obtain ⟨vs,e',o1,o2,o3,o4⟩:=j4 (by omega);refine ⟨((List.range (ys.length*1)).map fun j=>vs.getD j Go.undef).toArray,fun w' hw'=>a1M (P:=P) (w:=w') (by rw [hw'];exact o2) (by omega),by simp,fun j hj => ?_⟩;have e3:((List.range (ys.length*1)).map fun j=>vs.getD j Go.undef).toArray.getD j Go.undef=vs.getD j Go.undef:=by simp [hj]
  rw [e3];obtain ⟨y,hy⟩:=j3 _ (zp6 hj);have:=o4 j hj;rw [hy] at this;simp only [a2y,frA,if_true] at this;have h1:=this.oneCell rfl;cases this with | fresh _ _ _ _ hf=>exact ⟨y,hy,hf,h1⟩

 obtain ⟨arrS,s1,s2,s4⟩ : ∃ arrS:Array Value,(∀ w':World,w'.heap=w.heap->(Builtin.firstCells 1 l.length (Value.slice p l.length cs)).run P w' = .ok arrS w')/\arrS.size=l.length /\
   ∀ (j:Nat) (hj:j<l.length),∃ y,l[j] = .list k y/\a4p G w (.oc a0 j) k y (arrS.getD j Go.undef)/\(arrS.getD j Go.undef).oneCell'=true:=by
  rcases Nat.eq_zero_or_pos l.length with h0 | h0
  ·refine ⟨#[],fun w' _ => ?_,by simp [h0],fun j hj=>by omega⟩;rw [h0];cases p <;> simp [Builtin.firstCells,loadCells,loadCellsFrom]
  obtain rfl:=hp (by omega);obtain ⟨vs,e',o1,o2,o3,o4⟩:=g4 (by omega);refine ⟨((List.range (l.length*1)).map fun j=>vs.getD j Go.undef).toArray,fun w' hw'=>a1M (P:=P) (w:=w') (by rw [hw'];exact o2) (by omega),by simp,fun j hj => ?_⟩;have e3:((List.range (l.length*1)).map fun j=>vs.getD j Go.undef).toArray.getD j Go.undef=vs.getD j Go.undef:=by simp [hj]
  rw [e3];obtain ⟨y,hy⟩:=g3 _ (zp6 hj);have:=o4 j hj;rw [hy] at this;simp only [a2y,frA,if_true] at this;have h1:=this.oneCell rfl;cases this with | fresh _ _ _ _ hf=>exact ⟨y,hy,hf,h1⟩
 have R1:=(R.kill a0).kill a1;let σ1:St:={ σ with heap:=(σ.heap.set a0 .dead).set a1 .dead }
 have hd0:σ1.heap[a0]?=some .dead:=by
  show ((σ.heap.set a0 .dead).set a1 .dead)[a0]?=_;rw [List.getElem?_set_ne (Ne.symm hne),List.getElem?_set_self (zp2.1 hHi).1]
 have hd1:σ1.heap[a1]?=some .dead:=by
  show ((σ.heap.set a0 .dead).set a1 .dead)[a1]?=_;rw [List.getElem?_set_self (by simpa using (zp2.1 hHq).1)]
 let mv:Loc->Option Nat:=fun ℓ=>match ℓ with
  | .oc i j=>if i=a0 then some j else if i=a1 then some (l.length+j) else none
  | _=>none
 have hmv : ∀ ℓ j,mv ℓ=some j->b2Y σ1 ℓ:=by
  intro ℓ j h;simp only [mv] at h;split at h
  ·rename_i i j';split at h
   ·rename_i e;subst e;exact .inr ⟨_,_,rfl,hd0⟩
   split at h
   ·rename_i e;subst e;exact .inr ⟨_,_,rfl,hd1⟩
   cases h
  cases h
 have hll : ∀ x∈l++ys,∃ y,x = .list k y:=fun x hx=>(List.mem_append.1 hx).elim (g3 x) (j3 x);have hlen1:σ1.heap.length=σ.heap.length:=by simp [σ1]

 have fin : ∀ (b' cap':Nat) (p1:Option Addr) (w':World),(execOp a.eval o).run P w = .ok (.value (.slice p1 (l++ys).length cap')) w'->Rel (G.jag mv σ1.heap.length b' cap' (l++ys).length) { σ1 with heap:=σ1.heap++[.jag k (l++ys) none,.dead,.dead] } a w' /\
   (∀ m,m<=G.nh->Ext m G w (G.jag mv σ1.heap.length b' cap' (l++ys).length) w')/\(∀ ℓ,RepV (G.jag mv σ1.heap.length b' cap' (l++ys).length) w' ℓ (.gref σ1.heap.length 1) (.slice p1 (l++ys).length cap'))->o.wpIn (Wd r) n P a w next Q:=by
  rintro b' cap' p1 w' hrun ⟨R2,hext,hrep⟩;refine a0x hnd hrun (hn _ _ _ ?_ (hext m hm));rw [hdst];have hbd:(σ.get d).isBox=false:=by rw [<-hgd d hdst];exact hbx
  have:=R2.put (d:=d) (hrep _) (fun r off e=>by cases e) hbd hlt;rw [hlen1] at this;simpa [St.upd,a0t,σ1] using this
 have oneY : ∀ v∈arrY.toList,v.oneCell'=true:=by
  intro v hv;obtain ⟨q,hq,rfl⟩:=List.mem_iff_getElem.1 hv;have hq1:q<arrY.size:=by simpa using hq
  obtain ⟨_,_,_,h1⟩:=f4 q (by omega);simpa [Array.getD,hq1] using h1
 by_cases hcap:l.length+ys.length<=cs
 ·by_cases hy0:ys.length=0
  ·have hye:ys=[]:=List.eq_nil_of_length_eq_zero hy0;have harr:arrY = #[]:=Array.eq_empty_of_size_eq_zero (by omega);have hrun:(execOp a.eval o).run P w = .ok (.value (.slice p (l++ys).length cs)) w:=by
    have f1':=f1 w rfl;rw [harr,hy0] at f1';have hcap':l.length<=cs:=by omega
    cases p with
    | none=>simp [execOp,hop,resolve,invoke,Go.builtin,Builtin.append_,hsv,hyv,Go.underlying,hT.slice hTt,hT.slice hTt1,hT.size hTe,Builtin.lenOf,hks,hy0,f1',hcap',hye]
    | some b=>simp [execOp,hop,resolve,invoke,Go.builtin,Builtin.append_,hsv,hyv,Go.underlying,hT.slice hTt,hT.slice hTt1,hT.size hTe,Builtin.lenOf,hks,hy0,f1',hcap',storeCells,hye]
   refine fin (G.β (.o a0)) cs p _ hrun ?_;refine R1.toJag mv (w':=w) (k:=k) (l:=l++ys) (cap:=cs) (b:=G.β (.o a0)) (p:=p) hp hll (by simp;omega) (Nat.le_refl _) ⟨rfl,rfl,fun _ _=>rfl,rfl,Nat.le_refl _⟩ (fun _ _ _=>rfl) hmv (fun hc => ?_);obtain ⟨vs,e',o1,o2,o3,o4⟩:=g4 hc;refine ⟨(Array.getElem?_eq_some_iff.1 o2).1,.inr ⟨_,o1,rfl,.inl hd0⟩,vs,e',o2,o3,fun j hj => ?_⟩;subst hye;have hj':j<l.length:=by simpa using hj
   obtain ⟨y,hy⟩:=g3 _ (zp6 hj');have:=o4 j hj';rw [hy] at this;simp only [a2y,frA,if_true] at this;cases this with | fresh _ _ _ _ hf=>exact ⟨.oc a0 j,y,by simpa using hy,by simp [mv],hf⟩
  obtain rfl:=hp (by omega);obtain ⟨cur,ec,o1,o2,o3,o4⟩:=g4 (by omega);have hlenY:arrY.toList.length=ys.length:=by simpa using f2
  have hst:=run_storeCells_at P (G.β (.o a0)) (0+l.length*1) ec arrY.toList 0 cur w o2 (by omega) oneY;have hrs:(0+l.length*1)+arrY.toList.length<=cur.size:=by omega
  have hrun:(execOp a.eval o).run P w = .ok (.value (.slice (some ⟨G.β (.o a0),0,none⟩) (l++ys).length cs)) (w.setRow (G.β (.o a0)) (rowOf cur (0+l.length*1) arrY.toList)):=by
   simp only [Nat.add_zero] at hst;simp [execOp,hop,resolve,invoke,Go.builtin,Builtin.append_,hsv,hyv,Go.underlying,hT.slice hTt,hT.slice hTt1,hT.size hTe,Builtin.lenOf,hks,f1 w rfl,hcap,Addr.add_none];simp only [Nat.zero_add,Nat.mul_one] at hst ⊢;simp [hst,rowOf]
  refine fin (G.β (.o a0)) cs _ _ hrun ?_;refine R1.toJag mv (w':=w.setRow (G.β (.o a0)) (rowOf cur (0+l.length*1) arrY.toList)) (k:=k) (l:=l++ys) (cap:=cs) (b:=G.β (.o a0)) (p:=some ⟨G.β (.o a0),0,none⟩) (fun _=>rfl) hll (by simpa using hcap) (by simp)
   ⟨rfl,rfl,fun ad _=>a1B _ _ _ ad,rfl,Nat.le_refl _⟩ (fun b' hb' hne'=>setRow_other _ _ _ _ (hne' (by omega))) hmv (fun hc => ?_)
  refine ⟨by simpa using (Array.getElem?_eq_some_iff.1 o2).1,.inr ⟨_,o1,rfl,.inl hd0⟩,_,ec,setRow_heap _ _ _ _ _ _ o2,by rw [a0L hrs];exact o3,fun j hj => ?_⟩;rw [a0Y hrs];by_cases c1:j<l.length
  ·rw [if_pos (by omega)];obtain ⟨y,hy⟩:=g3 _ (zp6 c1);have:=o4 j c1;rw [hy] at this;simp only [a2y,frA,if_true] at this;cases this with | fresh _ _ _ _ hf=>exact ⟨.oc a0 j,y,by rw [List.getElem_append_left c1];exact hy,by simp [mv],hf⟩
  have hj2:j-l.length<ys.length:=by simp at hj;omega
  rw [if_neg (by omega),if_pos (by omega)];obtain ⟨y,hy,hf,_⟩:=f4 _ hj2;refine ⟨.oc a1 (j-l.length),y,by rw [List.getElem_append_right (by omega)];exact hy,?_,?_⟩
  ·simp only [mv];rw [if_neg (Ne.symm hne),if_pos trivial];congr 1;omega
  have e0:arrY.toList.getD (j-(0+l.length*1)) Go.undef=arrY.getD (j-l.length) Go.undef:=by
   rw [Nat.zero_add,Nat.mul_one];simp [List.getD,zp5]
  rw [e0];exact hf
 have hneed:l.length+ys.length<4294967296:=by omega
 have hbig : ¬ Builtin.nextslicecap (l.length+ys.length) cs*ie.bytes>2 ^ 48:=by
  have h1:=a2f (need:=l.length+ys.length) (cap:=cs) (by omega);have h2:Builtin.nextslicecap (l.length+ys.length) cs*ie.bytes<=(2*(l.length+ys.length)+200)*4096:=Nat.mul_le_mul h1 hbytes;omega
 let qn:=Question.appendCap (l.length+ys.length) cs e;let nc:=qn.cut (w.tape w.drawn qn);let wd:=w.drew;have hwd:wd.heap=w.heap:=rfl;have hnc:l.length+ys.length<=nc:=by simp [nc,qn,Question.cut]
 let rest:=Builtin.zeroCells z0.cells (nc-(l.length+ys.length));have hrest:rest.size=nc-(l.length+ys.length):=by simp [rest,Builtin.zeroCells,hzs,hks]
 have hrun:(execOp a.eval o).run P w = .ok (.value (.slice (some ⟨w.heap.size,0,none⟩) (l++ys).length nc)) (wd.alloc (.cells (arrS++arrY++rest) e)):=by
  have key:(Builtin.append_ #[t,u] o.type #[.slice p l.length cs,a.eval (.tmp q)]).run P w = .ok (.slice (some ⟨w.heap.size,0,none⟩) (l.length+ys.length) nc) (wd.alloc (.cells (arrS++arrY++rest) e)):=by
   unfold Builtin.append_;simp [Go.underlying,hT.slice hTt,hT.slice hTt1,hT.size hTe,Builtin.lenOf,hyv,hcap,hks,typeInfo,hie,hbig];have hmax' : ¬ ((9223372036854775807:Int)<(l.length:Int)+(ys.length:Int)/\ie.bytes=0):=by
    intro hh;omega
   rw [if_neg hmax'];have hforced':(Question.appendCap (l.length+ys.length) cs e).forced=false:=rfl;simp only [hforced',Bool.false_eq_true,if_false];rw [show (Builtin.firstCells 1 l.length (Value.slice p l.length cs)).run P w.drew=_ from s1 _ hwd];simp only [Result.andThen_ok];rw [show (Builtin.firstCells 1 ys.length (Value.slice p' ys.length cy)).run P w.drew=_ from f1 _ hwd];simp only [Result.andThen_ok,zeroValue,typeInfo,Sem.run_bind,run_program,hie,hz,Sem.run_pure,newRow,run_newObj];simp [rest,nc,qn,wd]
   rfl
  simp only [execOp,hop,resolve,invoke,Go.builtin,Sem.run_bind,Sem.run_pure,Result.andThen_ok];simp [hsv,key]
 have hnew:(wd.alloc (.cells (arrS++arrY++rest) e)).heap[w.heap.size]?=some (.cells (arrS++arrY++rest) e (0,0)):=heap_alloc_new (w:=wd);refine fin w.heap.size nc _ _ hrun ?_;refine R1.toJag mv (w':=wd.alloc (.cells (arrS++arrY++rest) e)) (k:=k) (l:=l++ys) (cap:=nc) (b:=w.heap.size) (p:=some ⟨w.heap.size,0,none⟩) (fun _=>rfl) hll (by simpa using hnc) (by simp [wd])
  ⟨rfl,rfl,fun ad _=>(frozen?_alloc_new _ _ (fun _ _ _ e=>by cases e;rfl) ad).trans rfl,rfl,Nat.le_succ _⟩ (fun b' hb' _=>a0o (w:=wd) hb') hmv (fun _ => ?_)
 refine ⟨by simp [wd],.inl (Nat.le_refl _),_,e,hnew,?_,fun j hj => ?_⟩
 ·simp only [Array.size_append,s2,f2,hrest];omega
 have e0:(arrS++arrY++rest).getD j Go.undef=if j<arrS.size then arrS.getD j Go.undef else arrY.getD (j-arrS.size) Go.undef:=by
  simp only [List.length_append] at hj;simp only [zp5];split
  ·rename_i hq1;rw [Array.getElem?_append_left (by simp;omega),Array.getElem?_append_left hq1]
  rename_i hq1;rw [Array.getElem?_append_left (by simp;omega),Array.getElem?_append_right (by omega)]
 rw [e0];by_cases c1:j<l.length
 ·rw [if_pos (by omega)];obtain ⟨y,hy,hf,_⟩:=s4 j c1;exact ⟨.oc a0 j,y,by rw [List.getElem_append_left c1];exact hy,by simp [mv],hf⟩
 have hj2:j-l.length<ys.length:=by simp at hj;omega
 rw [if_neg (by omega),s2];obtain ⟨y,hy,hf,_⟩:=f4 _ hj2;refine ⟨.oc a1 (j-l.length),y,by rw [List.getElem_append_right (by omega)];exact hy,?_,hf⟩;simp only [mv];rw [if_neg (Ne.symm hne),if_pos trivial];congr 1;omega
end
section
variable {P:Program} {T:a0l} (hT:TOk P T) {σ:St} {g:Nat->AV} {o:Oper} {ss:a1p} {h':Option (List Obj)} {H:List Obj} {an:Ann}
 (hg:Less g σ) (hgd : ∀ d,o.dst=some d->g d=σ.get d)
include hT hg hgd
theorem b5n (hH : ∀ (i:Nat) (ob:Obj),H[i]?=some ob->σ.heap[i]?=some ob) (hHe:a0I an g o=true->H=σ.heap) (h:a4o Ar.std T an σ.n g H o=some (some (ss,h'))):a0f P σ o ss h':=by
 unfold a4o at h;split at h
 ·rename_i args ts hop;split at h
  ·rename_i s t hargs hts;obtain rfl:args = #[.tmp s]:=by cases args;simp_all
   obtain rfl:ts = #[t]:=by cases ts;simp_all
   split at h
   ·rename_i a0 hs;split at h
    ·rename_i k l w0 hHi;simp only [zp3] at h;split at h
     ·rename_i sz e z ht;exact b9w hT hg hgd hop hs (hH _ _ hHi) ht h
     cases h
    cases h
   cases h
  cases h
 ·rename_i t s i hop;split at h
  ·rename_i a0 hs;split at h
   ·rename_i k l w0 hHi;simp only [zp3] at h;split at h
    ·rename_i sz e zz kz z ht hi;split at h
     ·rename_i td hte;split at h
      ·rename_i hc;simp only [zp4,decide_eq_true_eq,a2x] at hc;obtain ⟨⟨hk,hz0⟩,hz1⟩:=hc;exact b5k hT hg hgd hop hs (hH _ _ hHi) ht hte hi hk hz0 (by simpa [Ar.std] using hz1) h
      cases h
     cases h
    cases h
   cases h
  cases h
 ·rename_i t s hop;split at h
  ·rename_i a0 i hs;split at h
   ·rename_i k l z x hHi;simp only [zp3] at h;split at h
    ·rename_i td ht;split at h
     ·rename_i hc;obtain ⟨h1,h2,h3,h4,h5⟩:=hc;exact b7l hT hg hgd hop hs (hH _ _ hHi) ht h1 h2 h3 (by simpa [Ar.std] using h4) (by simpa [Ar.std] using h5) h
     cases h
    cases h
   cases h
  cases h
 ·rename_i t s q hop;split at h
  ·rename_i a0 i hs;have hHσ:H=σ.heap:=hHe (by simp [a0I,hop,hs]);subst hHσ;split at h
   ·rename_i k l w0 hHi;simp only [zp3] at h;split at h
    ·rename_i td ht hdst;split at h
     ·rename_i hc;obtain ⟨h1,h2,h3,h4⟩:=hc;have h4':i<(l.length:Int):=by simpa [Ar.std] using h4
      split at h
      ·rename_i k' y hq;split at h
       ·rename_i hk;subst hk;cases h;exact b2X hT hg hgd hop hs hq hHi ht h1 h3 h4' hdst
       cases h
      ·rename_i b k' lo m hq;cases h;exact a8H hT hg hgd hop hs hq rfl hHi ht h1 h3 h4' hdst
      ·rename_i b k' hq;cases h;exact a8H hT hg hgd hop hs hq rfl hHi ht h1 h3 h4' hdst
      cases h
     cases h
    cases h
   cases h
  cases h
 ·rename_i t ln cp hop;split at h
  ·rename_i d hdst;split at h
   ·rename_i hvx;simp only [zp3] at h;split at h
    ·rename_i sz e zz kz z kz' z' ht hln hcp;split at h
     ·rename_i td hte;split at h
      ·rename_i y hzr;split at h
       ·rename_i hc;simp [Ar.std] at hc;obtain ⟨⟨⟨⟨⟨hlt,hb⟩,hpos⟩,rfl⟩,hfit⟩,hz0⟩:=hc;cases h;exact b5m hT hg hgd hop hdst ht hte hln hcp hzr hlt hb hpos hz0 (Int.le_refl _) hfit
       cases h
      cases h
     cases h
    cases h
   split at h
   ·rename_i hgr;have hHσ:H=σ.heap:=hHe (by simp [a0I,hop]);subst hHσ;simp only [zp3] at h;split at h
    ·rename_i sz e zz kz z kz' z' ht hln hcp;split at h
     ·rename_i td hte;split at h
      ·rename_i k hzr;split at h
       ·rename_i hc;simp [Ar.std] at hc;obtain ⟨⟨⟨⟨⟨⟨hlt,hb⟩,hsz⟩,hag⟩,rfl⟩,hfit⟩,hz0⟩:=hc;cases h;exact b7m hT hg hgd hop hdst ht hte hln hcp hzr hag hlt hb hsz hz0 hfit
       cases h
      cases h
     cases h
    cases h
   cases h
  cases h
 ·rename_i t s lo hop;split at h
  ·rename_i a0 k hs;have hHσ:H=σ.heap:=hHe (by simp [a0I,hop,hs]);subst hHσ;split at h
   ·rename_i k' l hHi;simp only [zp3] at h;split at h
    ·rename_i es z hes hb;split at h
     ·rename_i hc;simp only [Ar.std,zp4,decide_eq_true_eq] at hc;obtain ⟨⟨⟨⟨h1,h2⟩,h3⟩,h4⟩,h5⟩:=hc;subst h1 h2;exact b3b hT hg hgd hop hs hHi hes hb h3 h4 (by omega) h
     cases h
    cases h
   cases h
  cases h
 ·rename_i t cnt parts hop;split at h
  ·rename_i d hdst;split at h
   ·rename_i hgr;have hHσ:H=σ.heap:=hHe (by simp only [a0I,hop,hdst,hgr,Bool.or_true]);subst hHσ;split at h
    ·rename_i q hparts;obtain rfl:parts = #[(0,.tmp q)]:=by cases parts;simp_all
     split at h
     ·rename_i k y hq;simp only [zp3] at h;split at h
      ·rename_i sz e zz ht;split at h
       ·rename_i td hte;split at h
        ·rename_i hc;simp at hc;obtain ⟨⟨⟨hsz,hlt⟩,hb⟩,hqd⟩:=hc;cases h;exact b5l hT hg hgd hop hdst ht hte hsz hlt hb hqd hq
        cases h
       cases h
      cases h
     cases h
    ·rename_i hparts;obtain rfl:parts = #[(0,.const (.slice none 0 0))]:=by cases parts;simp_all
     simp only [zp3] at h;split at h
     ·rename_i sz e zz ht;split at h
      ·rename_i td hte;split at h
       ·rename_i k hzr;split at h
        ·rename_i hc;simp at hc;obtain ⟨⟨hsz,hlt⟩,hb⟩:=hc;cases h;exact b2Z hT hg hgd hop hdst ht hte hsz hlt hb
        cases h
       cases h
      cases h
     cases h
    cases h
   cases h
  cases h
 ·rename_i args ts hop;split at h
  ·rename_i s q t u d hargs hts hdst;obtain rfl:args = #[.tmp s,.tmp q]:=by cases args;simp_all
   obtain rfl:ts = #[t,u]:=by cases ts;simp_all
   split at h
   ·rename_i a0 a1 hs hq;have hHσ:H=σ.heap:=hHe (by simp [a0I,hop,hs]);subst hHσ;split at h
    ·rename_i k l k' ys hHi hHq;simp only [zp3] at h;split at h
     ·rename_i het heu;split at h
      ·rename_i hc;simp [Ar.std] at hc;obtain ⟨⟨⟨⟨rfl,hne⟩,hlt⟩,hb⟩,hfits⟩:=hc;cases h;exact b3c hT hg hgd hop hs hHi hq hHq hne het heu hdst hlt hb hfits
      cases h
     cases h
    cases h
   ·rename_i v v2 a0 k lo ln hy;have hHσ:H=σ.heap:=hHe (by simp [a0I,hop,hy]);subst hHσ;split at h
    ·rename_i k' l hHi;split at h
     ·rename_i hgr;split at h
      ·rename_i k0 hem;simp only [zp3] at h;split at h
       ·rename_i es es' het heu;split at h
        ·rename_i hc;simp only [zp4,decide_eq_true_eq,Bool.not_eq_true'] at hc;obtain ⟨⟨⟨⟨⟨⟨⟨⟨⟨rfl,rfl⟩,rfl⟩,rfl⟩,hk⟩,hlt⟩,hb⟩,hsd⟩,hcc⟩,hfits⟩:=hc;cases h;have hcc':lo+ln<=(l.length:Int):=by simpa [Ar.std] using hcc
         have hf':((Ar.std.sub l lo (lo+ln)).length:Int)<4294967296:=by simpa [Ar.std] using hfits
         exact a6K hT hg hgd hop hem het heu (fun R=>b3a hT hg hgd hy hHi hcc' R) hdst hk hlt hb hsd hf'
        cases h
       cases h
      cases h
     cases h
    cases h
   cases h
  cases h
 cases h
end
theorem b3d {A:Ar} {T:a0l} {an:Ann} {n:Nat} {g:Nat->AV} {H H':List Obj} {o:Oper} {ss:a1p} (h:a4o A T an n g H o=some (some (ss,some H'))):H.length<=H'.length:=by
 unfold a4o at h;have hput : ∀ {dst v},put n g dst v≠some (ss,some H'):=by
  intro dst v h;obtain ⟨h,_⟩:=a0G h;cases h
 repeat' split at h
 all_goals first
  | (cases h;done)
  | (simp only [zp3] at h;exact absurd h hput)
  | (simp at h;done)
  | (simp only [zp3,Prod.mk.injEq] at h;rw [<-h.2];simp)
theorem b3e {P:Program} {T:a0l} (hT:TOk P T) {σ:St} {g:Nat->AV} {o:Oper} {ss:a1p} {h':Option (List Obj)} {H:List Obj} {an:Ann}
  (hg:Less g σ) (hgd : ∀ d,o.dst=some d->g d=σ.get d) (hH : ∀ (i:Nat) (ob:Obj),H[i]?=some ob->σ.heap[i]?=some ob) (hHe:a0I an g o=true->H=σ.heap)
  (h:a0y Ar.std T an σ.n g H o=some (ss,h')):a0f P σ o ss h':=by
 have h0:=h;cases hop:o.op with
 | move x=>exact a8v hg hgd h (.inl hop)
 | assign x=>exact a8v hg hgd h (.inr hop)
 | pick c a b=>exact b2s hg hgd h hop
 | alloc t=>exact b1w hT hg hgd hHe h hop
 | box t x=>exact b4N hT hg hgd hHe h hop
 | build t ps=>exact b1y hT hg hgd h hop
 | buildSlice t n ps=>exact a5y hT hg hgd h hop
 | load t x=>exact b2x hT hg hgd hH h hop hHe
 | store t x y=>exact b1x hT hg hHe h hop
 | binOp op t x y t'=>exact b1r hg hgd h hop
 | unOp op t x =>
   cases op with
   | not=>exact b2t hg hgd h hop
   | _=>simp [a0y,hop] at h
 | convert s t x=>exact a8u hT hg hgd h hop
 | makeFunc fn a b =>
   cases fn with
   | func f=>exact a7e hg hgd h hop
   | _=>simp [a0y,hop] at h
 | slice t x a b c=>exact b1t hT hg hgd h hop
 | fieldAddr t x f=>exact a6m hT hg hgd h hop
 | field t x f=>exact b1s hT hg hgd h hop
 | indexAddr t x i=>exact a6n hT hg hgd h hop
 | extract x i=>exact a8t hg hgd h hop
 | call c =>
   obtain ⟨callee,args,ts⟩:=c;cases callee with
   | builtin b =>
     cases b with
     | len=>exact b4M hT hg hgd h hop
     | append=>exact a9C hT hg hgd h hop
     | _=>simp [a0y,hop] at h
   | _=>simp [a0y,hop] at h
 | _=>simp [a0y,hop] at h
theorem a8I {P:Program} {T:a0l} (hT:TOk P T) {σ:St} {g:Nat->AV} {o:Oper} {ss:a1p} {h':Option (List Obj)} {H:List Obj} {an:Ann}
  (hg:Less g σ) (hgd : ∀ d,o.dst=some d->g d=σ.get d) (hH : ∀ (i:Nat) (ob:Obj),H[i]?=some ob->σ.heap[i]?=some ob) (hHe:a0I an g o=true->H=σ.heap)
  (h:a1w Ar.std T an σ.n g H o=some (ss,h')):a0f P σ o ss h':=by
 unfold a1w at h;split at h
 ·rename_i r hr;subst h;exact b2E hT hg hgd hr
 split at h
 ·rename_i r hr;subst h;exact b5n hT hg hgd hH hHe hr
 split at h
 ·rename_i r hr;subst h;exact b5j hT hg hgd hHe hr
 split at h
 ·rename_i r hr;subst h;exact b5a hT hg hgd hHe hr
 split at h
 ·rename_i r hr;subst h;exact b5h hT hg hgd hH hHe hr
 split at h
 ·rename_i r hr;subst h;exact b5f hT hg hgd hH hHe hr
 split at h
 ·rename_i r hr;subst h;exact b4Y hT hg hgd hH hHe hr
 split at h
 ·rename_i r hr;subst h;exact b4T hT hg hgd hH hHe hr
 exact b3e hT hg hgd hH hHe h
def Post (m:Nat) (G:Gh) (w:World) (Q:Exit->St->Prop):Exit->Act->World->Prop :=
 fun e a' w' => ∃ σ' G',Rel G' σ' a' w'/\Ext m G w G' w'/\m<=G'.nh/\Q e σ'
theorem Post.ext {m:Nat} {G G1:Gh} {w w1:World} {Q:Exit->St->Prop} (h:Ext m G w G1 w1) {e:Exit} {a:Act} {w':World} (hp:Post m G1 w1 Q e a w'):Post m G w Q e a w':=by
 obtain ⟨σ',G',R,hE,hm,hq⟩:=hp;exact ⟨σ',G',R,h.trans hE,hm,hq⟩
def AWp (P:Program) (m:Nat) (c:Code) (Q:Exit->St->Prop) (σ:St):Prop :=
 ∀ (r:Option Nat) (n:Nat) (G:Gh) (a:Act) (w:World),m<=G.nh->Rel G σ a w->c.wpIn (Wd r) n P (Post m G w Q) a w
def a7p (P:Program) (m:Nat) (c:Code) (Q:Exit->St->Prop) (σ:St):Prop :=
 ∀ (n:Nat) (G:Gh) (a:Act) (w:World),m<=G.nh->Rel G σ a w->c.wpIn (Wd none) n P (Post m G w Q) a w
theorem a7p.of {P:Program} {m:Nat} {c:Code} {Q:Exit->St->Prop} {σ:St} (h:AWp P m c Q σ):a7p P m c Q σ:=fun n G a w hm R=>h none n G a w hm R
def AExit.then (K:St->Prop) (Q:Exit->St->Prop):Exit->St->Prop
 | .normal,σ=>K σ
 | e,σ=>Q e σ
def AExit.block (id:Nat) (Q:Exit->St->Prop):Exit->St->Prop
 | .exit j,σ=>if j=id then Q .normal σ else Q (.exit j) σ
 | e,σ=>Q e σ
section
variable {P:Program} {m:Nat} {Q:Exit->St->Prop} {σ:St}
theorem AWp.mono {c:Code} {Q':Exit->St->Prop} (h:AWp P m c Q σ) (hq : ∀ e σ,Q e σ->Q' e σ):AWp P m c Q' σ:=by
 intro r n G a w hm R;refine wpIn_mono (h r n G a w hm R) ?_;rintro e a' w' ⟨σ',G',R',hE,hm',hQ⟩;exact ⟨σ',G',R',hE,hm',hq _ _ hQ⟩
theorem AWp.skip (h:Q .normal σ):AWp P m .skip Q σ:=fun _ _ G _ _ hm R=>wpIn_skip ⟨σ,G,R,Ext.refl _ _ _,hm,h⟩
theorem AWp.exit {id:Nat} (h:Q (.exit id) σ):AWp P m (.exit id) Q σ:=fun _ _ G _ _ hm R=>wpIn_exit ⟨σ,G,R,Ext.refl _ _ _,hm,h⟩
theorem AWp.ret (h:Q .ret σ):AWp P m .ret Q σ:=fun _ _ G _ _ hm R=>wpIn_ret ⟨σ,G,R,Ext.refl _ _ _,hm,h⟩
theorem AWp.seq {x y:Code} (h:AWp P m x (AExit.then (AWp P m y Q) Q) σ):AWp P m (.seq x y) Q σ:=by
 intro r n G a w hm R;refine wpIn_seq (wpIn_mono (h r n G a w hm R) ?_);rintro e a' w' ⟨σ',G',R',hE,hm',hQ⟩;cases e with
 | normal=>exact wpIn_mono (hQ r n G' a' w' hm' R') (fun e a w hp=>hp.ext hE)
 | _=>exact ⟨σ',G',R',hE,hm',hQ⟩
theorem a7p.mono {c:Code} {Q':Exit->St->Prop} (h:a7p P m c Q σ) (hq : ∀ e σ,Q e σ->Q' e σ):a7p P m c Q' σ:=by
 intro n G a w hm R;refine wpIn_mono (h n G a w hm R) ?_;rintro e a' w' ⟨σ',G',R',hE,hm',hQ⟩;exact ⟨σ',G',R',hE,hm',hq _ _ hQ⟩
theorem a7p.seq {x y:Code} (h:a7p P m x (AExit.then (a7p P m y Q) Q) σ):a7p P m (.seq x y) Q σ:=by
 intro n G a w hm R;refine wpIn_seq (wpIn_mono (h n G a w hm R) ?_);rintro e a' w' ⟨σ',G',R',hE,hm',hQ⟩;cases e with
 | normal=>exact wpIn_mono (hQ n G' a' w' hm' R') (fun e a w hp=>hp.ext hE)
 | _=>exact ⟨σ',G',R',hE,hm',hQ⟩
theorem AWp.cond {c:Operand} {x y:Code} {b:Bool} (hc:(match c with | .tmp t=>σ.get t | .const (.bool b) => .d (.bool b) | _ => .undef) = .d (.bool b)) (h:AWp P m (if b then x else y) Q σ):AWp P m (.cond c x y) Q σ:=by
 intro r n G a w hm R;refine wpIn_cond (t:=b) ?_ (h r n G a w hm R);split at hc
 ·rename_i t;have:=R.slots t;rw [hc] at this;show a.tmps.getD t Go.undef=_;generalize a.tmps.getD t Go.undef=v at this;cases this with | d _ _ _ h=>cases h;rfl
 ·rename_i b';simp at hc;subst hc;rfl
 cases hc
theorem AWp.condAny {c:Operand} {x y:Code} (hc:(match c with | .tmp t=>σ.get t | _ => .undef) = .abool) (h1:AWp P m x Q σ) (h2:AWp P m y Q σ):AWp P m (.cond c x y) Q σ:=by
 intro r n G a w hm R;cases c with
 | tmp t =>
   simp only at hc;have:=R.slots t;rw [hc] at this;generalize hv:a.tmps.getD t Go.undef=v at this;cases this with | abool _ b =>
   have hv':a.eval (.tmp t) = .bool b:=hv;cases b with
   | true=>exact wpIn_cond (t:=true) hv' (h1 r n G a w hm R)
   | false=>exact wpIn_cond (t:=false) hv' (h2 r n G a w hm R)
 | _=>cases hc
theorem AWp.block {id:Nat} {c:Code} (h:AWp P m c (AExit.block id Q) σ):AWp P m (.block id c) Q σ:=by
 intro r n G a w hm R;refine wpIn_block (wpIn_mono (h r n G a w hm R) ?_);rintro e a' w' ⟨σ',G',R',hE,hm',hQ⟩;cases e with
 | exit j =>
   simp only [AExit.block] at hQ;simp only [Exit.inBlock];split at hQ
   ·rename_i hj;rw [if_pos hj];exact ⟨σ',G',R',hE,hm',hQ⟩
   rename_i hj;rw [if_neg hj];exact ⟨σ',G',R',hE,hm',hQ⟩
 | _=>exact ⟨σ',G',R',hE,hm',hQ⟩
theorem a7p.block {id:Nat} {c:Code} (h:a7p P m c (AExit.block id Q) σ):a7p P m (.block id c) Q σ:=by
 intro n G a w hm R;refine wpIn_block (wpIn_mono (h n G a w hm R) ?_);rintro e a' w' ⟨σ',G',R',hE,hm',hQ⟩;cases e with
 | exit j =>
   simp only [AExit.block] at hQ;simp only [Exit.inBlock];split at hQ
   ·rename_i hj;rw [if_pos hj];exact ⟨σ',G',R',hE,hm',hQ⟩
   rename_i hj;rw [if_neg hj];exact ⟨σ',G',R',hE,hm',hQ⟩
 | _=>exact ⟨σ',G',R',hE,hm',hQ⟩
theorem AWp.loop {ι:Type} {c:Code} (μ:ι->Nat) (S:ι->St) (i0:ι) (h : ∀ i,AWp P m c (AExit.then (fun σ' => ∃ j,μ j<μ i/\σ'=S j) Q) (S i)):AWp P m (.loop c) Q (S i0):=by
 intro r n G a w hm R b k cs hro hb hr;have key : ∀ (q:Nat) (i:ι),μ i=q -> ∀ (G1:Gh) (a:Act) (w1:World),m<=G1.nh->Rel G1 (S i) a w1->Ext m G w G1 w1 ->
   ∃ e a' w',Post m G w Q e a' w'/\ArrivesIn (Machine.fenced P (Wd r)) P (lone (b.atR a (.code c :: .inLoop c::k)) cs w1) b k cs e a' w':=by
  intro q
  induction q using Nat.strongRecOn with
  | _ q ih =>
    intro i hi G1 a w1 hm1 R1 hE1;obtain ⟨e,a₁,w₁,hq,harr⟩:=h i r n G1 a w1 hm1 R1 b (.inLoop c::k) cs hro hb hr;obtain ⟨σ',G',R',hE,hm',hQ⟩:=hq;cases e with
    | normal =>
      obtain ⟨j,hlt,rfl⟩:=hQ;obtain ⟨e₂,a₂,w₂,hq₂,harr₂⟩:=ih (μ j) (hi▸hlt) j rfl G' a₁ w₁ hm' R' (hE1.trans hE);exact ⟨e₂,a₂,w₂,hq₂,.of_steps (StepsIn.trans harr (.one (fenced_calm hb hr rfl) stepR_inLoop)) harr₂⟩
    | exit id=>exact ⟨_,a₁,w₁,⟨σ',G',R',hE1.trans hE,hm',hQ⟩,.pass (x := .inLoop c) rfl (fun _ _ => .inl (by simp)) harr⟩
    | goto l=>exact ⟨_,a₁,w₁,⟨σ',G',R',hE1.trans hE,hm',hQ⟩,.pass (x := .inLoop c) rfl (fun _ _ => .inl (by simp)) harr⟩
    | ret=>exact ⟨_,a₁,w₁,⟨σ',G',R',hE1.trans hE,hm',hQ⟩,.pass (x := .inLoop c) rfl (fun _ _ => .inl (by simp)) harr⟩
    | panic ch=>exact ⟨_,a₁,w₁,⟨σ',G',R',hE1.trans hE,hm',hQ⟩,.pass (x := .inLoop c) rfl (fun _ _ => .inl (by simp)) harr⟩
    | outgrown=>exact ⟨_,a₁,w₁,⟨σ',G',R',hE1.trans hE,hm',hQ⟩,.pass (x := .inLoop c) rfl (fun _ _ => .inl (by simp)) harr⟩
 obtain ⟨e,a',w',hq,harr⟩:=key _ i0 rfl G a w hm R (Ext.refl _ _ _);exact ⟨e,a',w',hq,.of_steps (.one (fenced_calm hb hr rfl) stepR_loop) harr⟩
end
def a1W (ops:List Oper) (σ:St) (o:Oper):Option Bool :=
 match o.guard with
 | none=>some true
 | some (j,b) =>
   match (ops[j]?).bind (·.dst) with
   | none=>some false
   | some d =>
     match σ.get d with
     | .d (.bool x)=>some (x == b)
     | .tuple []=>some false
     | _=>none
theorem a1X {ops:Array Oper} {σ:St} {o:Oper} {b:Bool} (h:a1W ops.toList σ o=some b) {G:Gh} {a:Act} {w:World} (R:Rel G σ a w):Region.wanted o (yielded ops a.tmps)=b:=by
 unfold a1W at h;unfold Region.wanted;cases hgu:o.guard with
 | none=>simp [hgu] at h;simp [h]
 | some p =>
   obtain ⟨j,b'⟩:=p;simp only [hgu] at h;simp only [yielded];cases hd:(ops[j]?).bind (·.dst) with
   | none =>
     have hd':(ops.toList[j]?).bind (·.dst)=none:=by simpa using hd
     simp only [hd'] at h;simp at h;subst h;simp
   | some d =>
     have hd':(ops.toList[j]?).bind (·.dst)=some d:=by simpa using hd
     simp only [hd'] at h;have hrep:=R.slots d;simp only [Option.bind_some];split at h
     ·rename_i x hx;rw [hx] at hrep;simp at h;generalize hv:a.tmps.getD d Go.undef=v at hrep;cases hrep with | d _ _ _ hr =>
      cases hr;have:a.tmps[d]?=some (.bool x):=by
       rw [zp5] at hv;cases he:a.tmps[d]? with
       | none=>rw [he] at hv;simp [Go.undef] at hv
       | some y=>rw [he] at hv;simpa using hv
      simp only [this];rw [<-h];cases x <;> cases b' <;> rfl
     ·rename_i hx;rw [hx] at hrep;simp at h;subst h;generalize hv:a.tmps.getD d Go.undef=v at hrep;cases hrep with | tuple _ _ vs hs _ _ =>
      have : ∀ x,a.tmps[d]?≠some (.bool x):=by
       intro x he;rw [zp5,he] at hv;simp at hv
      split
      ·rename_i x he;exact absurd he (this x)
      simp
     simp at h
def a1h (P:Program) (m:Nat) (ops:Array Oper) (l:List Oper) (Q:Exit->St->Prop) (σ:St):Prop :=
 ∀ (r:Option Nat) (n:Nat) (G:Gh) (a:Act) (w:World) (Q':Exit->Act->World->Prop),m<=G.nh->Rel G σ a w->(∀ e a' w',Post m G w Q e a' w'->Q' e a' w')->wpListIn (Wd r) n P ops Q' l a w
section
variable {P:Program} {m:Nat} {Q:Exit->St->Prop} {σ:St} {ops:Array Oper} {o:Oper} {l:List Oper}
theorem a1h.nil (h:Q .normal σ):a1h P m ops [] Q σ:=fun _ _ G a w _ hm R hQ=>hQ _ a w ⟨σ,G,R,Ext.refl _ _ _,hm,h⟩
theorem a1h.step {ss:a1p} {h':Option (List Obj)} (hw:a1W ops.toList σ o=some true) (hs:a0f P σ o ss h') (hlen:m<=(σ.upd ss h').heap.length) (h:a1h P m ops l Q (σ.upd ss h')):a1h P m ops (o::l) Q σ:=by
 intro r n G a w Q' hm R hQ;unfold wpListIn;rw [if_pos (a1X hw R)];refine hs r n m G a w Q' _ hm R fun G' a' w' R' hE => ?_;exact h r n G' a' w' Q' (by rw [<-R'.h.nh];exact hlen) R' (fun e a'' w'' hp=>hQ _ _ _ (hp.ext hE))
theorem a1h.skip {d:Nat} (hw:a1W ops.toList σ o=some false) (hd:o.dst=some d) (hlt:d<σ.n) (hb:(σ.get d).isBox=false) (h:a1h P m ops l Q (σ.upd [(d,.tuple [])] none)):a1h P m ops (o::l) Q σ:=by
 intro r n G a w Q' hm R hQ;unfold wpListIn;rw [a1X hw R,if_neg (by simp)];refine ⟨fun _ _=>trivial,?_⟩;rw [hd];exact h r n G _ w Q' hm (R.put (.tuple _ _ #[] rfl (fun i hi=>by simp at hi) (fun c hc=>by simp at hc)) (fun r off e=>by cases e) hb hlt) hQ
theorem a1h.skip0 (hw:a1W ops.toList σ o=some false) (hd:o.dst=none) (h:a1h P m ops l Q σ):a1h P m ops (o::l) Q σ:=by
 intro r n G a w Q' hm R hQ;unfold wpListIn;rw [a1X hw R,if_neg (by simp)];refine ⟨fun _ _=>trivial,?_⟩;rw [hd];exact h r n G _ w Q' hm R hQ
theorem AWp.region {id:Nat} (h:a1h P m ops ops.toList Q σ):AWp P m (.region id ops false) Q σ :=
 fun r n G a w hm R=>wpIn_region_list (h r n G a w _ hm R (fun _ _ _ hp=>hp))
end
theorem b1D {A:Ar} {T:a0l} {an:Ann} {n:Nat} {g:Nat->AV} {H H':List Obj} {o:Oper} {ss:a1p} (h:a0y A T an n g H o=some (ss,some H')):H.length<=H'.length:=by
 have hput : ∀ {dst:Option Tmp} {v:AV},Am.put n g dst v≠some (ss,some H'):=by
  intro dst v e;have:=(a0G e).1;cases this
 have hputO : ∀ {dst:Option Tmp} {v:Option AV},a5d n g dst v≠some (ss,some H'):=by
  intro dst v e;obtain ⟨x,_,e⟩:=a1e e;exact hput e
 have hmap : ∀ {dst:Option Tmp} {v:AV} {q:a1p×Option (List Obj)->a1p},Option.map (fun p=>(q p,p.2)) (Am.put n g dst v)≠some (ss,some H'):=by
  intro dst v q e;simp only [Option.map_eq_some_iff] at e;obtain ⟨⟨s1,h1⟩,e1,e2⟩:=e;have:=(a0G e1).1;simp at e2;rw [this] at e2;exact absurd e2.2 (by simp)
 have hmap2 : ∀ {dst:Option Tmp} {v:AV} {q:a1p×Option (List Obj)->a1p} {H1:List Obj},H1.length=H.length->Option.map (fun p=>(q p,some H1)) (Am.put n g dst v)=some (ss,some H')->H.length<=H'.length:=by
  intro dst v q H1 hl e;simp only [Option.map_eq_some_iff] at e;obtain ⟨⟨s1,h1⟩,e1,e2⟩:=e;simp at e2;rw [<-e2.2,hl];exact Nat.le_refl _
 cases hop:o.op <;> simp only [a0y,hop,b0q] at h
 all_goals (repeat' split at h)
 all_goals first
  | (cases h;done)
  | (exact absurd h hput)
  | (exact absurd h hputO)
  | (exact absurd h hmap)
  | (exact hmap2 (by simp) h)
  | (simp at h;done)
  | (simp at h;rw [<-h.2];simp;done)
  | (simp at h;obtain ⟨_,_,_,rfl⟩:=h;simp;done)
theorem b3f {A:Ar} {T:a0l} {an:Ann} {n:Nat} {g:Nat->AV} {H H':List Obj} {o:Oper} {ss:a1p} (h:a4j A T an n g H o=some (some (ss,some H'))):H.length<=H'.length:=by
 unfold a4j at h;split at h
 ·repeat' split at h
  all_goals first
   | (cases h;done)
   | (simp only [zp3] at h;exact absurd (a0G h).1 (by simp))
   | (simp at h;done)
 ·repeat' split at h
  all_goals first
   | (cases h;done)
   | (simp only [zp3] at h;exact absurd (a0G h).1 (by simp))
   | (simp at h;done)
 ·repeat' split at h
  all_goals first
   | (cases h;done)
   | (simp only [zp3] at h;exact absurd (a0G h).1 (by simp))
   | (simp at h;done)
 ·repeat' split at h
  all_goals first
   | (cases h;done)
   | (simp only [zp3] at h;exact absurd (a0G h).1 (by simp))
   | (simp at h;done)
 ·repeat' split at h
  all_goals first
   | (cases h;done)
   | (simp at h;done)
   | (simp only [zp3,Option.map_eq_some_iff] at h
      obtain ⟨p,_,hp⟩:=h;simp only [Prod.mk.injEq,zp3] at hp;rw [<-hp.2];simp)
 ·repeat' split at h
  all_goals first
   | (cases h;done)
   | (simp only [zp3] at h;exact absurd (a0G h).1 (by simp))
   | (simp at h;done)
 cases h
theorem a6L {A:Ar} {T:a0l} {an:Ann} {n:Nat} {g:Nat->AV} {H H':List Obj} {o:Oper} {ss:a1p} (h:a1w A T an n g H o=some (ss,some H')):H.length<=H'.length:=by
 unfold a1w at h;split at h
 ·rename_i r hr;subst h;exact (a9H hr).elim
 split at h
 ·rename_i r hr;subst h;exact b3d hr
 split at h
 ·rename_i r hr;subst h;exact b2V hr
 split at h
 ·rename_i r hr;subst h;exact b3f hr
 split at h
 ·rename_i r hr;subst h;exact b2T hr
 split at h
 ·rename_i r hr;subst h;exact b2P hr
 split at h
 ·rename_i r hr;subst h;exact b2F hr
 split at h
 ·rename_i r hr;subst h;exact b2D hr
 exact b1D h
end Go.Am
