import Derived.Test.YtkjeamngjnfpkaaGreatAmCap
import Derived.TacticsIn
import Derived.RangeFuncLeaves
set_option linter.unusedSimpArgs false
set_option linter.unusedSectionVars false
set_option linter.unusedVariables false
namespace Go.Am
open Go
def lets (σ:St):Loc->Prop
 | .s t=>(σ.get t).free=true
 | .o i=>σ.heap[i]?=some .dead
 | .oc i j => ∃ cs,σ.heap[i]?=some (.cells cs) /\ ∀ c,cs[j]?=some c->c.free=true
 | _=>False
def Gh.gro (G:Gh) (N b cap len:Nat):Gh where
 K:=G.K
 O:=fun x=>if 0<cap/\x=b then some (.o N,0) else G.O x
 β:=fun r=>if r = .o N then b else if r = .o (N+1) then cap else if r = .o (N+2) then len else G.β r
 nh:=N+3
theorem Rel.toGro {G:Gh} {σ:St} {a:Act} {w w':World} (R:Rel G σ a w) {k:Nat} {l:List D} {cap b:Nat} {p:Option Addr} (hp:0<cap->p=some ⟨b,0,none⟩) (hu:a0u k l) (hl:l.length<=cap)
  (hsz:w.heap.size<=w'.heap.size) (hio:w'.os=w.os/\w'.output=w.output/\(∀ a,a.block<w.heap.size->w'.frozen? a=w.frozen? a)/\w'.tape=w.tape/\w.drawn<=w'.drawn)
  (hoth : ∀ b',b'<w.heap.size->(0<cap->b'≠b)->w'.heap[b']?=w.heap[b']?)
  (hb:0<cap->b<w'.heap.size/\(w.heap.size<=b \/ ∃ ℓ0,G.O b=some (ℓ0,0)/\lets σ ℓ0) /\ ∃ vs e,w'.heap[b]?=some (.cells vs e (0,0))/\cap*k<=vs.size /\
   (∀ j,j<(D.flat l).length->(vs.getD j Go.undef).oneCell'=true) /\ ∀ (j:Nat) (hj:j<(D.flat l).length),RepD G.K (D.flat l)[j] (vs.getD j Go.undef)) :
  Rel (G.gro σ.heap.length b cap l.length) { σ with heap:=σ.heap++[.gro k l,.dead,.dead] } a w'/\(∀ m,m<=G.nh->Ext m G w (G.gro σ.heap.length b cap l.length) w') /\
   ∀ ℓ,RepV (G.gro σ.heap.length b cap l.length) w' ℓ (.gref σ.heap.length k) (.slice p l.length cap):=by
 have hnh:=R.h.nh;generalize hN:σ.heap.length=N at hnh ⊢;let G':Gh:=G.gro N b cap l.length;show Rel G' _ a w'/\(∀ m,m<=G.nh->Ext m G w G' w') /\ ∀ ℓ,RepV G' w' ℓ _ _;have hb0:G'.β (.o N)=b:=by simp [G',Gh.gro]
 have hb1:G'.β (.o (N+1))=cap:=by simp [G',Gh.gro]
 have hb2:G'.β (.o (N+2))=l.length:=by simp [G',Gh.gro]
 have hβold : ∀ i,i<G.nh->G'.β (.o i)=G.β (.o i):=by
  intro i hi;simp only [G',Gh.gro,Root.o.injEq];rw [if_neg (by omega),if_neg (by omega),if_neg (by omega)]
 have hβs : ∀ t,G'.β (.s t)=G.β (.s t):=fun t=>by simp [G',Gh.gro]
 let S:Loc->Prop:=fun x=>0<cap -> ∀ f,G.O b≠some (x,f);have hOold : ∀ x b' f,S x->G.O b'=some (x,f)->G'.O b'=some (x,f)/\w'.heap[b']?=w.heap[b']?:=by
  intro x b' f hx h;have hne:0<cap->b'≠b:=by rintro hc rfl;exact hx hc f h
  refine ⟨?_,hoth b' (R.h.disj b' x f h).1 hne⟩;simp only [G',Gh.gro];rw [if_neg];exact h;rintro ⟨hc,rfl⟩;exact hne hc rfl
 have hpr:Pres G G' w w' S:=⟨KLe.refl _,fun b' x f hx h=>hOold x b' f hx h,hβold,by rw [<-hnh];simp [G',Gh.gro]⟩;have hno:Pres G G' w w' (· = .no):=hpr.no R.h.sane

 have own0 : ∀ x,¬ S x->0<cap/\lets σ x:=by
  intro x hx;rcases Nat.eq_zero_or_pos cap with hc | hc
  ·exact absurd (fun h=>absurd h (by omega)) hx
  refine ⟨hc,?_⟩;rcases (hb hc).2.1 with h | ⟨ℓ0,h,hl0⟩
  ·exact absurd (fun _ f hO=>by have:=(R.h.disj _ _ _ hO).1;omega) hx
  have:x=ℓ0:=Classical.byContradiction fun hne=>hx fun _ f hO=>by rw [h] at hO;simp at hO;exact hne hO.1.symm
  subst this;exact hl0
 have hS : ∀ x,¬ lets σ x->S x:=fun x hx=>Classical.byContradiction fun h=>hx (own0 x h).2;have hfreeV : ∀ {ℓ:Loc} {c:AV} {v:Value},RepV G w ℓ c v->c.free=true -> ∀ ℓ',RepV G' w' ℓ' c v:=by
  intro ℓ c v h hf ℓ';refine ((h.anywhere hf .no).pres R.h.sane hno rfl (fun r off e => ?_) (fun t e=>by cases e)).anywhere hf ℓ';subst e;simp [AV.free] at hf
 have hslot : ∀ t,RepV G' w' (.s t) (σ.get t) (a.tmps.getD t Go.undef):=by
  intro t;by_cases h:S (.s t)
  ·exact (R.slots t).pres R.h.sane hpr h (fun r off e=>hβs r) (fun t' e hbx=>⟨hβs t',fun j=>hS _ (by simp [lets])⟩)
  exact hfreeV (R.slots t) (own0 _ h).2 _
 have hobj : ∀ i ob,σ.heap[i]?=some ob->a2w G' w' i ob:=by
  intro i ob hob;have hi:i<G.nh:=by rw [<-hnh,<-hN];exact (zp2.1 hob).1
  by_cases h:S (.o i)
  ·by_cases h2 : ∀ j,S (.oc i j)
   ·exact (R.h.objs i ob hob).pres R.h.sane hi hpr h h2
   have h2' : ∃ j,¬ S (.oc i j):=Classical.byContradiction fun hh=>h2 fun j=>Classical.byContradiction fun hj=>hh ⟨j,hj⟩;obtain ⟨j0,hj0⟩:=h2';obtain ⟨hc,cs,hcs,hcj⟩:=own0 _ hj0;rw [hob] at hcs;injection hcs with hcs;subst hcs
   obtain ⟨vs,e,h1,h3,h4,h5,h6⟩:=R.h.objs i _ hob;obtain ⟨h7,h8⟩:=hOold _ _ _ h h1;rw [<-hβold i hi] at h3 h7 h8;refine ⟨vs,e,h7,h8.trans h3,h4,fun j hj => ?_,h6⟩;by_cases hs:S (.oc i j)
   ·exact (h5 j hj).pres R.h.sane hpr hs (fun r off e=>absurd e (AV.not_place (AV.isLocal_of_isCell (h6 _ (zp6 hj))) r off)) (fun t e=>by cases e)
   obtain ⟨_,cs',hcs',hcj'⟩:=own0 _ hs;rw [hob] at hcs';injection hcs' with hcs'
   injection hcs' with hcs';subst hcs'
   exact hfreeV (h5 j hj) (hcj' _ (zp1 hj)) _
  have:=(own0 _ h).2;simp only [lets] at this;rw [hob] at this;injection this with this;subst this;trivial
 have hdisj : ∀ b' ℓ f,G'.O b'=some (ℓ,f)->b'<w'.heap.size /\ ∀ j,f<=j->G'.K ⟨b',j,none⟩=none:=by
  intro b' ℓ f h;simp only [G',Gh.gro] at h;split at h
  ·rename_i hc;obtain ⟨hc,rfl⟩:=hc;obtain ⟨h1,h2,_⟩:=hb hc;refine ⟨h1,fun j _ => ?_⟩;show G.K _=none;rcases h2 with h2 | ⟨ℓ0,h2,_⟩
   ·cases hK:G.K ⟨b',j,none⟩ with
    | none=>rfl
    | some v=>have:=World.block_lt_of_cell? w _ (R.h.kept _ _ hK);simp at this;omega
   exact (R.h.disj _ _ _ h2).2 j (Nat.zero_le _)
  obtain ⟨h1,h2⟩:=R.h.disj b' ℓ f h;exact ⟨by omega,h2⟩
 have hkept : ∀ x v,G'.K x=some v->w'.cell? x=some v:=by
  intro x v h;have hx:=R.h.kept x v h;have hlt:=World.block_lt_of_cell? w _ hx;have hne:0<cap->x.block≠b:=by
   intro hc hxb;have hspot:=World.cell?_spot hx;obtain ⟨xb,j,s⟩:=x;simp at hspot hxb;subst hspot hxb;rcases (hb hc).2.1 with h2 | ⟨ℓ0,h2,_⟩
   ·simp at hlt;omega
   have:=(R.h.disj _ _ _ h2).2 j (Nat.zero_le _);have h':G.K ⟨xb,j,none⟩=some v:=h;rw [this] at h';cases h'
  unfold World.cell? at *
  rwa [hoth _ hlt hne]
 refine ⟨⟨⟨⟨fun b' x f h => ?_⟩,by simp [G',Gh.gro,hN],fun i ob hob => ?_,hkept,hdisj⟩,R.size,hslot,R.places,?_⟩,fun m hm => ?_,fun ℓ => ?_⟩
 ·simp only [G',Gh.gro] at h;split at h
  ·simp at h;rw [<-h.1];simp [Loc.root]
  exact R.h.sane.no b' x f h
 ·simp only at hob;rcases Nat.lt_or_ge i N with hi | hi
  ·rw [zp7 (by omega)] at hob;exact hobj i ob hob
  rw [zp8 (by omega),hN] at hob
  match hq:i-N,hob with
  | 0,hob =>
    obtain rfl:i=N:=by omega
    simp at hob;subst hob;show i+2<G'.nh/\_;refine ⟨by simp [G',Gh.gro],by rw [hb2],by rw [hb1];exact hl,hu,fun hc => ?_⟩;rw [hb1] at hc ⊢;obtain ⟨h1,h2,vs,e,h3,h4,h5,h6⟩:=hb hc;rw [hb0];exact ⟨vs,e,by simp only [G',Gh.gro];rw [if_pos ⟨hc,trivial⟩],h3,h4,h5,h6⟩
  | 1,hob=>simp at hob;subst hob;trivial
  | 2,hob=>simp at hob;subst hob;trivial
  | q+3,hob=>simp at hob
 ·refine ⟨R.df.1,fun x hx => ?_⟩;obtain ⟨r0,h1,h2,h3⟩:=R.df.2 x hx;obtain ⟨h4,h5⟩:=hOold _ _ _ (hS .df (by simp [lets])) h2;exact ⟨r0,h1,h4,h5.trans h3⟩
 ·refine ⟨KLe.refl _,fun x v h => .inl h,fun b' hb' h => ?_,hsz,fun i hi=>hβold i (by omega),hio⟩;have hne:0<cap->b'≠b:=by
   rintro hc rfl;rcases (hb hc).2.1 with h2 | ⟨ℓ0,h2,_⟩
   ·omega
   rw [h] at h2;cases h2
  refine ⟨hoth b' hb' hne,?_⟩;simp only [G',Gh.gro];rw [if_neg];exact h;rintro ⟨hc,rfl⟩;exact hne hc rfl
 have:=RepV.gref (G:=G') (w:=w') ℓ N k p (by simp [G',Gh.gro]) (by rw [hb1,hb2];exact hl) (by rw [hb1,hb0];exact hp)
 rwa [hb1,hb2] at this
def Gh.give (G:Gh) (b cap:Nat) (ℓ:Loc):Gh:={ G with O:=fun x=>if 0<cap/\x=b then some (ℓ,0) else G.O x }
theorem Rel.toLoc {G:Gh} {σ:St} {a:Act} {w w':World} (R:Rel G σ a w) (ℓ1:Loc) (hℓ:ℓ1.root ≠ .no) {k:Nat} {l:List D} {cap b:Nat} {p:Option Addr} (hp:0<cap->p=some ⟨b,0,none⟩) (hu:a0u k l) (hl:l.length<=cap)
  (hsz:w.heap.size<=w'.heap.size) (hio:w'.os=w.os/\w'.output=w.output/\(∀ a,a.block<w.heap.size->w'.frozen? a=w.frozen? a)/\w'.tape=w.tape/\w.drawn<=w'.drawn)
  (hoth : ∀ b',b'<w.heap.size->(0<cap->b'≠b)->w'.heap[b']?=w.heap[b']?)
  (hb:0<cap->b<w'.heap.size/\(w.heap.size<=b \/ ∃ ℓ0,G.O b=some (ℓ0,0)/\lets σ ℓ0) /\ ∃ vs e,w'.heap[b]?=some (.cells vs e (0,0))/\cap*k<=vs.size /\
   (∀ j,j<(D.flat l).length->(vs.getD j Go.undef).oneCell'=true) /\ ∀ (j:Nat) (hj:j<(D.flat l).length),RepD G.K (D.flat l)[j] (vs.getD j Go.undef)) :
  Rel (G.give b cap ℓ1) σ a w'/\(∀ m,m<=G.nh->Ext m G w (G.give b cap ℓ1) w')/\a8d (G.give b cap ℓ1) w' ℓ1 k l (.slice p l.length cap):=by
 have hnh:=R.h.nh;let G':Gh:=G.give b cap ℓ1;show Rel G' _ a w'/\(∀ m,m<=G.nh->Ext m G w G' w')/\a8d G' w' ℓ1 k l _;have hβold : ∀ i,i<G.nh->G'.β (.o i)=G.β (.o i):=fun _ _=>rfl;have hβs : ∀ t,G'.β (.s t)=G.β (.s t):=fun t=>rfl;let S:Loc->Prop:=fun x=>0<cap -> ∀ f,G.O b≠some (x,f);have hOold : ∀ x b' f,S x->G.O b'=some (x,f)->G'.O b'=some (x,f)/\w'.heap[b']?=w.heap[b']?:=by
  intro x b' f hx h;have hne:0<cap->b'≠b:=by rintro hc rfl;exact hx hc f h
  refine ⟨?_,hoth b' (R.h.disj b' x f h).1 hne⟩;simp only [G',Gh.give];rw [if_neg];exact h;rintro ⟨hc,rfl⟩;exact hne hc rfl
 have hpr:Pres G G' w w' S:=⟨KLe.refl _,fun b' x f hx h=>hOold x b' f hx h,hβold,Nat.le_refl _⟩;have hno:Pres G G' w w' (· = .no):=hpr.no R.h.sane;have own0 : ∀ x,¬ S x->0<cap/\lets σ x:=by
  intro x hx;rcases Nat.eq_zero_or_pos cap with hc | hc
  ·exact absurd (fun h=>absurd h (by omega)) hx
  refine ⟨hc,?_⟩;rcases (hb hc).2.1 with h | ⟨ℓ0,h,hl0⟩
  ·exact absurd (fun _ f hO=>by have:=(R.h.disj _ _ _ hO).1;omega) hx
  have:x=ℓ0:=Classical.byContradiction fun hne=>hx fun _ f hO=>by rw [h] at hO;simp at hO;exact hne hO.1.symm
  subst this;exact hl0
 have hS : ∀ x,¬ lets σ x->S x:=fun x hx=>Classical.byContradiction fun h=>hx (own0 x h).2;have hfreeV : ∀ {ℓ:Loc} {c:AV} {v:Value},RepV G w ℓ c v->c.free=true -> ∀ ℓ',RepV G' w' ℓ' c v:=by
  intro ℓ c v h hf ℓ';refine ((h.anywhere hf .no).pres R.h.sane hno rfl (fun r off e => ?_) (fun t e=>by cases e)).anywhere hf ℓ';subst e;simp [AV.free] at hf
 have hslot : ∀ t,RepV G' w' (.s t) (σ.get t) (a.tmps.getD t Go.undef):=by
  intro t;by_cases h:S (.s t)
  ·exact (R.slots t).pres R.h.sane hpr h (fun r off e=>hβs r) (fun t' e hbx=>⟨hβs t',fun j=>hS _ (by simp [lets])⟩)
  exact hfreeV (R.slots t) (own0 _ h).2 _
 have hobj : ∀ i ob,σ.heap[i]?=some ob->a2w G' w' i ob:=by
  intro i ob hob;have hi:i<G.nh:=by rw [<-hnh];exact (zp2.1 hob).1
  by_cases h:S (.o i)
  ·by_cases h2 : ∀ j,S (.oc i j)
   ·exact (R.h.objs i ob hob).pres R.h.sane hi hpr h h2
   have h2' : ∃ j,¬ S (.oc i j):=Classical.byContradiction fun hh=>h2 fun j=>Classical.byContradiction fun hj=>hh ⟨j,hj⟩;obtain ⟨j0,hj0⟩:=h2';obtain ⟨hc,cs,hcs,hcj⟩:=own0 _ hj0;rw [hob] at hcs;injection hcs with hcs;subst hcs
   obtain ⟨vs,e,h1,h3,h4,h5,h6⟩:=R.h.objs i _ hob;obtain ⟨h7,h8⟩:=hOold _ _ _ h h1;refine ⟨vs,e,h7,h8.trans h3,h4,fun j hj => ?_,h6⟩;by_cases hs:S (.oc i j)
   ·exact (h5 j hj).pres R.h.sane hpr hs (fun r off e=>absurd e (AV.not_place (AV.isLocal_of_isCell (h6 _ (zp6 hj))) r off)) (fun t e=>by cases e)
   obtain ⟨_,cs',hcs',hcj'⟩:=own0 _ hs;rw [hob] at hcs';injection hcs' with hcs'
   injection hcs' with hcs';subst hcs'
   exact hfreeV (h5 j hj) (hcj' _ (zp1 hj)) _
  have:=(own0 _ h).2;simp only [lets] at this;rw [hob] at this;injection this with this;subst this;trivial
 have hdisj : ∀ b' ℓ f,G'.O b'=some (ℓ,f)->b'<w'.heap.size /\ ∀ j,f<=j->G'.K ⟨b',j,none⟩=none:=by
  intro b' ℓ f h;simp only [G',Gh.give] at h;split at h
  ·rename_i hc;obtain ⟨hc,rfl⟩:=hc;obtain ⟨h1,h2,_⟩:=hb hc;refine ⟨h1,fun j _ => ?_⟩;show G.K _=none;rcases h2 with h2 | ⟨ℓ0,h2,_⟩
   ·cases hK:G.K ⟨b',j,none⟩ with
    | none=>rfl
    | some v=>have:=World.block_lt_of_cell? w _ (R.h.kept _ _ hK);simp at this;omega
   exact (R.h.disj _ _ _ h2).2 j (Nat.zero_le _)
  obtain ⟨h1,h2⟩:=R.h.disj b' ℓ f h;exact ⟨by omega,h2⟩
 have hkept : ∀ x v,G'.K x=some v->w'.cell? x=some v:=by
  intro x v h;have hx:=R.h.kept x v h;have hlt:=World.block_lt_of_cell? w _ hx;have hne:0<cap->x.block≠b:=by
   intro hc hxb;have hspot:=World.cell?_spot hx;obtain ⟨xb,j,s⟩:=x;simp at hspot hxb;subst hspot hxb;rcases (hb hc).2.1 with h2 | ⟨ℓ0,h2,_⟩
   ·simp at hlt;omega
   have:=(R.h.disj _ _ _ h2).2 j (Nat.zero_le _);have h':G.K ⟨xb,j,none⟩=some v:=h;rw [this] at h';cases h'
  unfold World.cell? at *
  rwa [hoth _ hlt hne]
 refine ⟨⟨⟨⟨fun b' x f h => ?_⟩,by simpa [G',Gh.give] using hnh,fun i ob hob=>hobj i ob hob,hkept,hdisj⟩,R.size,hslot,R.places,?_⟩,fun m hm => ?_,⟨p,cap,rfl,hu,hl,fun hc => ?_⟩⟩
 ·simp only [G',Gh.give] at h;split at h
  ·simp at h;rw [<-h.1];exact hℓ
  exact R.h.sane.no b' x f h
 ·refine ⟨R.df.1,fun x hx => ?_⟩;obtain ⟨r0,h1,h2,h3⟩:=R.df.2 x hx;obtain ⟨h4,h5⟩:=hOold _ _ _ (hS .df (by simp [lets])) h2;exact ⟨r0,h1,h4,h5.trans h3⟩
 ·refine ⟨KLe.refl _,fun x v h => .inl h,fun b' hb' h => ?_,hsz,fun i hi=>rfl,hio⟩;have hne:0<cap->b'≠b:=by
   rintro hc rfl;rcases (hb hc).2.1 with h2 | ⟨ℓ0,h2,_⟩
   ·omega
   rw [h] at h2;cases h2
  refine ⟨hoth b' hb' hne,?_⟩;simp only [G',Gh.give];rw [if_neg];exact h;rintro ⟨hc,rfl⟩;exact hne hc rfl
 obtain ⟨_,_,vs,e,h3,h4,h5,h6⟩:=hb hc;exact ⟨b,vs,e,hp hc,by simp only [G',Gh.give];rw [if_pos ⟨hc,trivial⟩],h3,h4,h5,h6⟩
theorem Rel.kill {G:Gh} {σ:St} {a:Act} {w:World} (R:Rel G σ a w) (i:Nat):Rel G { σ with heap:=σ.heap.set i .dead } a w:=by
 refine ⟨⟨R.h.sane,by simpa using R.h.nh,fun j ob hob => ?_,R.h.kept,R.h.disj⟩,R.size,R.slots,R.places,R.df⟩;by_cases hij:i=j
 ·subst hij;have:ob = .dead:=by
   rw [List.getElem?_set] at hob;simp at hob;exact hob.2.symm
  subst this;trivial
 rw [List.getElem?_set_ne hij] at hob;exact R.h.objs j ob hob
theorem a8l {G:Gh} {σ:St} {g:Nat->AV} {a:Act} {w:World} (hg:Less g σ) (R:Rel G σ a w) {s i k:Nat} (h:g s = .gref i k) :
  ∃ p,a.eval (.tmp s) = .slice p (G.β (.o (i+2))) (G.β (.o (i+1)))/\i+2<G.nh/\G.β (.o (i+2))<=G.β (.o (i+1))/\(0<G.β (.o (i+1))->p=some ⟨G.β (.o i),0,none⟩):=by
 have:=hg.rep R s;rw [h] at this;generalize hv:a.tmps.getD s Go.undef=v at this;cases this with | gref _ _ _ p h1 h2 h3=>exact ⟨p,hv,h1,h2,h3⟩
theorem a7t {P:Program} {w:World} {b:Nat} {vs:Array Value} {e:TypeId} (hw:w.heap[b]?=some (.cells vs e (0,0))) {k n cap:Nat} (hn:n*k<=vs.size) :
  (Builtin.firstCells k n (.slice (some ⟨b,0,none⟩) n cap)).run P w = .ok ((List.range (n*k)).map fun j=>vs.getD j Go.undef).toArray w:=by
 have hl:=run_loadCells (P:=P) w ⟨b,0,none⟩ (n*k) (fun j=>vs.getD j Go.undef) (fun j hj=>by rw [Addr.add_none,Nat.zero_add];exact a1m hw (by omega));simp [Builtin.firstCells,hl]
theorem Rel.reSlotG {G:Gh} {σ:St} {a:Act} {w:World} (R:Rel G σ a w) {s:Nat} {c:AV} (hc:RepV G w (.s s) c (a.tmps.getD s Go.undef)) (hl:c.isLocal=false) (hb:(σ.get s).isBox=false):Rel G { σ with env:=a3d σ.env s c } a w:=by
 refine ⟨R.h,R.size,fun t => ?_,fun t r off ht => ?_,R.df⟩
 ·simp only [St.get,a0f];split
  ·rename_i e;subst e;exact hc
  exact R.slots t
 simp only [St.get,a0f] at ht ⊢;split at ht
 ·subst ht;simp [AV.isLocal] at hl
 obtain ⟨cs,hcs⟩:=R.places t r off ht;refine ⟨cs,?_⟩;split
 ·rename_i e;subst e;rw [show σ.get s = .lbox cs from hcs] at hb;simp [AV.isBox] at hb
 exact hcs
theorem Rel.freshGro {G:Gh} {σ:St} {a:Act} {w:World} (R:Rel G σ a w) {s k:Nat} {l:List D} (hs:σ.get s = .fresh k l) :
  ∃ G',Rel G' { σ with env:=a3d σ.env s (.gref σ.heap.length k),heap:=σ.heap++[.gro k l,.dead,.dead] } a w /\ ∀ m,m<=G.nh->Ext m G w G' w:=by
 have h0:=R.slots s;rw [hs] at h0;cases h0 with | fresh _ _ _ _ h0 =>
 obtain ⟨p,cap,hv,hu,hl,hb⟩:=h0;have R1:=R.reSlotG (s:=s) (c := .junk) (by rw [hv];exact .junk _ _ rfl) rfl (by rw [hs];rfl);obtain ⟨b,hb'⟩ : ∃ b,0<cap->p=some ⟨b,0,none⟩/\G.O b=some (.s s,0) /\ ∃ vs e,w.heap[b]?=some (.cells vs e (0,0))/\cap*k<=vs.size /\
   (∀ j,j<(D.flat l).length->(vs.getD j Go.undef).oneCell'=true) /\ ∀ (j:Nat) (hj:j<(D.flat l).length),RepD G.K (D.flat l)[j] (vs.getD j Go.undef):=by
  rcases Nat.eq_zero_or_pos cap with h | h
  ·exact ⟨0,fun h'=>by omega⟩
  obtain ⟨b,vs,e,q1,q2,q3,q4,q5,q6⟩:=hb h;exact ⟨b,fun _=>⟨q1,q2,vs,e,q3,q4,q5,q6⟩⟩
 obtain ⟨R2,hE,hrep⟩:=R1.toGro (w':=w) (k:=k) (l:=l) (cap:=cap) (b:=b) (p:=p) (fun hc=>(hb' hc).1) hu hl (Nat.le_refl _) ⟨rfl,rfl,fun _ _=>rfl,rfl,Nat.le_refl _⟩ (fun _ _ _=>rfl)
  (fun hc=>by
   obtain ⟨q1,q2,vs,e,q3,q4⟩:=hb' hc;refine ⟨(Array.getElem?_eq_some_iff.1 q3).1,.inr ⟨_,q2,?_⟩,vs,e,q3,q4⟩;show ((a3d σ.env s .junk |> fun e=>({ σ with env:=e }:St)).get s).free=true
   simp [St.get,a0f,AV.free])
 have R3:=R2.reSlotG (s:=s) (c := .gref σ.heap.length k) (by rw [hv];exact hrep _) rfl (by simp [St.get,a0f,AV.isBox]);refine ⟨_,⟨R3.h,R3.size,fun t => ?_,fun t r off ht => ?_,R3.df⟩,hE⟩
 ·have:=R3.slots t;have e : ∀ t,St.get { σ with env:=a3d σ.env s (.gref σ.heap.length k),heap:=σ.heap++[.gro k l,.dead,.dead] } t=St.get { σ with env:=a3d (a3d σ.env s .junk) s (.gref σ.heap.length k),heap:=σ.heap++[.gro k l,.dead,.dead] } t:=fun t=>by
   simp only [St.get,a0f];split <;> rfl
  rw [e];exact this
 have e : ∀ t,St.get { σ with env:=a3d σ.env s (.gref σ.heap.length k),heap:=σ.heap++[.gro k l,.dead,.dead] } t=St.get { σ with env:=a3d (a3d σ.env s .junk) s (.gref σ.heap.length k),heap:=σ.heap++[.gro k l,.dead,.dead] } t:=fun t=>by
  simp only [St.get,a0f];split <;> rfl
 rw [e] at ht ⊢;exact R3.places t r off ht
theorem a0k.settle {P:Program} {σ:St} {o:Oper} {d k:Nat} {l:List D} {H1:List Obj} (h:a0k P σ o [(d,.fresh k l)] (some H1)) (hlen:σ.heap.length<=H1.length):a0k P σ o [(d,.gref H1.length k)] (some (H1++[.gro k l,.dead,.dead])):=by
 intro r n m G a w Q next hm R hn
 refine h r n m G a w Q next hm R (fun G' a' w' R' hE => ?_)
 have hm':m<=G'.nh:=by
  have h1:=R.h.nh;have h2:H1.length=G'.nh:=R'.h.nh;omega
 obtain ⟨G2,R2,hE2⟩:=R'.freshGro (s:=d) (k:=k) (l:=l) (by simp [St.upd,St.get,a0A,a0f]);refine hn G2 a' w' ?_ (hE.trans (hE2 m hm'));refine ⟨R2.h,R2.size,fun t => ?_,fun t r off ht => ?_,R2.df⟩
 ·have:=R2.slots t;have e : ∀ t,St.get (σ.upd [(d,.gref H1.length k)] (some (H1++[.gro k l,.dead,.dead]))) t=St.get { σ.upd [(d,.fresh k l)] (some H1) with env:=a3d (σ.upd [(d,.fresh k l)] (some H1)).env d (.gref H1.length k),heap:=H1++[.gro k l,.dead,.dead] } t:=fun t=>by
   simp only [St.upd,St.get,a0A,List.foldl,a0f];split <;> rfl
  rw [e];exact this
 have e : ∀ t,St.get (σ.upd [(d,.gref H1.length k)] (some (H1++[.gro k l,.dead,.dead]))) t=St.get { σ.upd [(d,.fresh k l)] (some H1) with env:=a3d (σ.upd [(d,.fresh k l)] (some H1)).env d (.gref H1.length k),heap:=H1++[.gro k l,.dead,.dead] } t:=fun t=>by
  simp only [St.upd,St.get,a0A,List.foldl,a0f];split <;> rfl
 rw [e] at ht ⊢;exact R2.places t r off ht
section
variable {P:Program} {T:a0m} (hT:TOk P T) {σ:St} {g:Nat->AV} {o:Oper} {ss:a2b} {h':Option (List Obj)} {H:List Obj} {an:Ann}
 (hg:Less g σ) (hgd : ∀ d,o.dst=some d->g d=σ.get d)
include hT hg hgd
theorem c0L {t:TypeId} {s:Nat} (hop:o.op = .call { callee := .builtin .len,args := #[.tmp s],argTypes := #[t] }) {a0 k:Nat} {l:List D} (hs:g s = .gref a0 k) (hHi:σ.heap[a0]?=some (.gro k l))
  {sz e:Nat} {z:List AV} (ht:T t=some { size:=sz,u := .slice e,zero:=z }) (h:put σ.n g o.dst (.d (.int .i64 (Ar.std.len l)))=some (ss,h')):a0k P σ o ss h':=by
 refine a0h hgd h (by simp [hop]) (AV.free_place rfl) ?_;intro G a w R;obtain ⟨p,hv,_,_,_⟩:=a8l hg R hs;obtain ⟨_,q1,_⟩:=R.h.objs a0 _ hHi;refine ⟨.int .i64 (Ar.std.len l),?_,fun d => .d _ _ _ (.int _ _)⟩;simp [execOp,hop,resolve,invoke,Go.builtin,Builtin.len_,Builtin.lenOf,hv,goInt,Go.underlying,hT.slice ht,Ar.std,q1]
theorem b5Q {t:TypeId} {s:Nat} {i:Operand} (hop:o.op = .indexAddr t (.tmp s) i) {a0 k:Nat} {l:List D} (hs:g s = .gref a0 k) (hHi:σ.heap[a0]?=some (.gro k l))
  {sz e:Nat} {zz:List AV} (ht:T t=some { size:=sz,u := .slice e,zero:=zz }) {td:TD} (hte:T e=some td) {kz:IntKind} {z:Int} (hi:opv T g 0 i=some (.d (.int kz z))) (hk:td.size=k) (hz0:0<=z) (hz1:z<(l.length:Int))
  (h:put σ.n g o.dst (.eptr a0 k z 0)=some (ss,h')):a0k P σ o ss h':=by
 subst hk;refine a0h hgd h (by simp [hop]) (AV.free_place rfl) ?_;intro G a w R;have h1:=(a1l hg R hi .no).1;cases h1 with | d _ _ _ h1 =>
 generalize hei:a.eval i=vi at h1;cases h1;obtain ⟨p,hv,hnh,hle,hp⟩:=a8l hg R hs;obtain ⟨_,q1,q2,_⟩:=R.h.objs a0 _ hHi;obtain rfl:=hp (by omega);have hzz:z<((G.β (.o (a0+2)):Nat):Int):=by omega
 refine ⟨.pointer (some ⟨G.β (.o a0),0+z.toNat*td.size,none⟩),?_,fun d => ?_⟩
 ·have hmx : ¬ ((G.β (.o (a0+2)):Nat):Int)<=z:=by omega
  simp [execOp,hop,hv,hei,Instr.indexAt,asIntOf,Go.underlying,hT.slice ht,hz0,hzz,hmx,hT.size hte,Addr.add_none]
 have:=RepV.eptr (G:=G) (w:=w) (.s d) a0 td.size z 0 (by omega) hz0;simpa using this
theorem b1k {t:TypeId} {s:Nat} (hop:o.op = .load t (.tmp s)) {a0 k:Nat} {l:List D} {i:Int} {j:Nat} (hpt0 : ∀ {G:Gh} {a:Act} {w:World},Rel G σ a w->a.eval (.tmp s) = .pointer (some ⟨G.β (.o a0),i.toNat*k+j,none⟩)/\a0<G.nh/\0<=i) (hHi:σ.heap[a0]?=some (.gro k l)) {td:TD} (ht:T t=some td)
  {y:D} (hy:l[i.toNat]?=some y) {av:AV} (hav:a0V td (y.cells.map .d) j=some av) (hp:put σ.n g o.dst av=some (ss,h')):a0k P σ o ss h':=by
 have run : ∀ G a w,Rel G σ a w -> ∃ v,(loadVar t ⟨G.β (.o a0),i.toNat*k+j,none⟩).run P w = .ok v w/\av.free=true /\ ∀ ℓ,RepV G w ℓ av v:=by
  intro G a w R;obtain ⟨_,q1,q2,hu,q3⟩:=R.h.objs a0 _ hHi;have hlt:i.toNat<l.length:=(zp2.1 hy).1;obtain ⟨vs,e,hO,hw,hs,h1,hh⟩:=q3 (by omega);have hyl:y.cells.length=k:=hu y (List.mem_of_getElem? hy);have hfl:=a0e hu;have hmul:i.toNat*k+k<=l.length*k:=by rw [<-Nat.succ_mul];exact Nat.mul_le_mul_right _ hlt
  have hmul2:l.length*k<=G.β (.o (a0+1))*k:=Nat.mul_le_mul_right _ q2;have hcell : ∀ (q:Nat) (hq:q<y.cells.length),RepD G.K y.cells[q] (vs.getD (i.toNat*k+q) Go.undef)/\(vs.getD (i.toNat*k+q) Go.undef).oneCell'=true:=by
   intro q hq;have hfg:=a0M hu hy q (by omega);have hj:i.toNat*k+q<(D.flat l).length:=by omega
   rw [zp1 hj,zp1 hq] at hfg;have:=hh _ hj;rw [Option.some.inj hfg] at this;exact ⟨this,h1 _ hj⟩
  exact a2f hT ht (G:=G) (w:=w) (b:=G.β (.o a0)) (o:=i.toNat*k) (off:=j) (cs:=y.cells.map .d) (vs:=fun q=>vs.getD (i.toNat*k+q) Go.undef)
   (fun q hq=>by simp at hq;exact a1m hw (by omega)) (fun q hq=>⟨.no,by simp at hq;simpa using RepV.d (G:=G) (w:=w) .no _ _ (hcell q hq).1⟩)
   (a1F (K:=G.K) (fun q hq=>(hcell q hq).2) (fun q hq=>(hcell q hq).1)) hav
 intro r n m G a w Q next hm R hn
 obtain ⟨_,_,hfree,_⟩:=run G a w R;refine a0h hgd hp (by simp [hop]) (AV.free_place (AV.free_isLocal hfree)) ?_ r n m G a w Q next hm R hn
 intro G a w R;obtain ⟨hv,hnh,hi⟩:=hpt0 R;obtain ⟨v,hr,_,hrep⟩:=run G a w R;exact ⟨v,by simp [execOp,hop,hv,Instr.loadAt,Instr.sureAddr,hr],fun d=>hrep _⟩
theorem b8c {t:TypeId} {s:Nat} (hop:o.op = .load t (.tmp s)) {a0 k:Nat} {l:List D} {i:Int} {j:Nat} (hs:g s = .eptr a0 k i j) (hHi:σ.heap[a0]?=some (.gro k l)) {td:TD} (ht:T t=some td)
  {y:D} (hy:l[i.toNat]?=some y) {av:AV} (hav:a0V td (y.cells.map .d) j=some av) (hp:put σ.n g o.dst av=some (ss,h')):a0k P σ o ss h' :=
 b1k hT hg hgd hop (fun R=>eptr_val hg R (x := .tmp s) hs) hHi ht hy hav hp
end
theorem Rel.giveF {G:Gh} {σ:St} {a:Act} {w:World} (R:Rel G σ a w) {s k:Nat} {l:List D} (hs:σ.get s = .fresh k l) (ℓ':Loc) (h0:ℓ'.root ≠ .no) :
  Rel (G.move (.s s) ℓ') (σ.upd [(s,.undef)] none) a w/\RepV (G.move (.s s) ℓ') w ℓ' (.fresh k l) (a.tmps.getD s Go.undef):=by
 have hrep:=R.slots s;rw [hs] at hrep;generalize hv:a.tmps.getD s Go.undef=v at hrep;cases hrep with | fresh _ _ _ _ hr =>
 have hpr:=G.move_pres w (.s s) ℓ';refine ⟨⟨R.h.move _ _ h0 ?_,by simpa [St.upd] using R.size,?_,?_,R.df.move (by simp)⟩,.fresh _ _ _ _ (hr.mono (KLe.refl _) (fun b hO=>⟨by simp [Gh.move,hO],rfl⟩))⟩
 ·intro i ob hob;exact (R.h.objs i ob hob).pres R.h.sane (by rw [<-R.h.nh];exact (zp2.1 hob).1) hpr (by simp) (by simp)
 ·intro t;simp only [St.upd,St.get,a0A,List.foldl_cons,List.foldl_nil,a0f];split
  ·exact .undef _ _
  rename_i e2;exact (R.slots t).pres R.h.sane hpr (by simp;exact fun e=>e2 e.symm) (fun _ _ _=>rfl) (fun _ _ _=>⟨rfl,by simp⟩)
 intro t r' off ht;simp only [St.upd,St.get,a0A,List.foldl_cons,List.foldl_nil,a0f] at ht ⊢;split at ht
 ·cases ht
 obtain ⟨cs,hcs⟩:=R.places t r' off ht;refine ⟨cs,?_⟩;split
 ·rename_i e;subst e;rw [hcs] at hs;cases hs
 exact hcs
theorem b3N {G:Gh} {σ:St} {g:Nat->AV} {a:Act} {w:World} (hg:Less g σ) (R:Rel G σ a w) {s i off:Nat} (h:g s = .ptr i off) :
  a.eval (.tmp s) = .pointer (some ⟨G.β (.o i),off,none⟩)/\i<G.nh:=by
 have:=hg.rep R s;rw [h] at this;generalize hv:a.tmps.getD s Go.undef=v at this;cases this with | ptr _ _ _ h1=>exact ⟨hv,h1⟩
theorem a8m {G:Gh} {σ:St} {a:Act} {w:World} (R:Rel G σ a w) {i k:Nat} {l l':List D} {cur row:Array Value} {e:TypeId} (hi:σ.heap[i]?=some (.gro k l)) (hne:0<l.length)
  (hw:w.heap[G.β (.o i)]?=some (.cells cur e (0,0))) (hll:l'.length=l.length) (hu:a0u k l') (hrs:row.size=cur.size)
  (h1 : ∀ j,j<(D.flat l').length->(row.getD j Go.undef).oneCell'=true) (hh : ∀ (j:Nat) (hj:j<(D.flat l').length),RepD G.K (D.flat l')[j] (row.getD j Go.undef)) :
  Rel G (σ.upd [] (some (σ.heap.set i (.gro k l')))) a (w.setRow (G.β (.o i)) row) /\ ∀ m,Ext m G w G (w.setRow (G.β (.o i)) row):=by
 obtain ⟨g0,g1,g2,g3,g4⟩:=R.h.objs i _ hi;obtain ⟨vs0,e0,hO,hw0,hsz0,_,_⟩:=g4 (by omega);rw [hw] at hw0;simp at hw0;obtain ⟨rfl,rfl⟩:=hw0;have hpr:=a3x (w:=w) hO row;have hil:i<σ.heap.length:=(zp2.1 hi).1;refine ⟨⟨⟨R.h.sane,by simpa [St.upd] using R.h.nh,fun i' ob hob => ?_,a3y R.h.kept (fun j=>(R.h.disj _ _ _ hO).2 j (Nat.zero_le _)) hO _,fun b ℓ f h => ?_⟩,by simpa [St.upd] using R.size,?_,?_,?_⟩,fun m=>Ext.setRow hO _⟩
 ·simp only [St.upd,Option.getD_some] at hob;by_cases hii:i=i'
  ·subst hii;rw [List.getElem?_set_self hil] at hob;injection hob with hob;subst hob
   exact ⟨g0,by rw [hll];exact g1,by rw [hll];exact g2,hu,fun _=>⟨row,_,hO,setRow_heap _ _ _ _ _ _ hw,by rw [hrs];exact hsz0,h1,hh⟩⟩
  rw [List.getElem?_set_ne hii] at hob;exact (R.h.objs i' ob hob).pres R.h.sane (by rw [<-R.h.nh];exact (zp2.1 hob).1) hpr (by simp;exact fun e=>hii e.symm) (by simp)
 ·have:=R.h.disj b ℓ f h;exact ⟨by simpa using this.1,this.2⟩
 ·intro t;exact (R.slots t).pres R.h.sane hpr (by simp) (fun _ _ _=>rfl) (fun t' e' _=>⟨rfl,fun j=>by simp⟩)
 ·intro t r'' off' ht;exact R.places t r'' off' ht
 refine ⟨R.df.1,fun x hx => ?_⟩;obtain ⟨r0,h1,h2,h3⟩:=R.df.2 x hx;exact ⟨r0,h1,h2,by rw [setRow_other _ _ _ _ (by rintro rfl;rw [hO] at h2;cases h2)];exact h3⟩
section
variable {P:Program} {T:a0m} (hT:TOk P T) {σ:St} {g:Nat->AV} {o:Oper} {ss:a2b} {h':Option (List Obj)} {H:List Obj} {an:Ann}
 (hg:Less g σ) (hgd : ∀ d,o.dst=some d->g d=σ.get d)
include hT hg hgd
theorem a9p {t:TypeId} {s:Nat} {yo:Operand} (hop:o.op = .store t (.tmp s) yo) {a0 k:Nat} {l:List D} {i:Int} {j:Nat} (hpt0 : ∀ {G:Gh} {a:Act} {w:World},Rel G σ a w->a.eval (.tmp s) = .pointer (some ⟨G.β (.o a0),i.toNat*k+j,none⟩)/\a0<G.nh/\0<=i) (hHi:σ.heap[a0]?=some (.gro k l)) {td:TD} (ht:T t=some td)
  {v:D} (hv:opD T g t yo=some v) (hdst:o.dst=none) (hpos:0<td.size) (hvl:v.cells.length=td.size) {y0:D} (hy0:l[i.toNat]?=some y0) {v':D}
  (hall:y0.cells.length=k->v'.cells.length=k/\j+td.size<=k/\(∀ q,q<k->v'.cells[q]?=if j<=q/\q<j+td.size then v.cells[q-j]? else y0.cells[q]?)) :
  a0k P σ o [] (some (σ.heap.set a0 (.gro k (l.set i.toNat v')))):=by
 have hnd : ∀ c,o.op ≠ .defer c:=by simp [hop]
 intro r n m G a w Q next hm R hn
 obtain ⟨hpt,hnh,hi0⟩:=hpt0 R;have hrv:=a1c hg R hv;have hlt:i.toNat<l.length:=(zp2.1 hy0).1;obtain ⟨_,q1,q2,hu,q3⟩:=R.h.objs a0 _ hHi;obtain ⟨cur,e,hO,hw,hs',h1,hh⟩:=q3 (by omega);obtain ⟨hv',hjk,hcells⟩:=hall (hu y0 (List.mem_of_getElem? hy0));have hk0:0<k:=by omega
 obtain ⟨hu',hl',hget⟩:=b1j hk0 hu hy0 hv';have hfl:=a0e hu;have hmul:i.toNat*k+k<=l.length*k:=by rw [<-Nat.succ_mul];exact Nat.mul_le_mul_right _ hlt
 have hmul2:l.length*k<=G.β (.o (a0+1))*k:=Nat.mul_le_mul_right _ q2;obtain ⟨hvs,hvc,hv1⟩:=hrv.cells;have hvs':(a.eval yo).cells.size=td.size:=by omega
 have hone : ∀ z∈(a.eval yo).cells.toList,z.oneCell'=true:=by
  intro z hz;obtain ⟨q,hq,rfl⟩:=List.mem_iff_getElem.1 hz;have hq1:q<(a.eval yo).cells.size:=by simpa using hq
  have:=hv1 q (by omega);simpa [Array.getD,hq1] using this
 have hrun:=a1b hT ht hw (off:=i.toNat*k+j) (v:=a.eval yo) hvs' (by omega) hone;have hrow : ∀ q,q<(D.flat l).length->(rowOf cur (i.toNat*k+j) (a.eval yo).cells.toList).getD q Go.undef=if i.toNat*k+j<=q/\q<i.toNat*k+j+td.size then (a.eval yo).cells.getD (q-(i.toNat*k+j)) Go.undef else cur.getD q Go.undef:=by
  intro q hq;rw [a1U (by simp;omega)];simp only [Array.length_toList,hvs'];by_cases c1:q<i.toNat*k+j
  ·rw [if_pos c1,if_neg (by omega)]
  rw [if_neg c1];by_cases c2:q<i.toNat*k+j+td.size
  ·rw [if_pos c2,if_pos (by omega)];simp [List.getD,zp5]
  rw [if_neg c2,if_neg (by omega)]
 have each : ∀ (q:Nat) (hq:q<(D.flat (l.set i.toNat v')).length),RepD G.K (D.flat (l.set i.toNat v'))[q] ((rowOf cur (i.toNat*k+j) (a.eval yo).cells.toList).getD q Go.undef) /\
   ((rowOf cur (i.toNat*k+j) (a.eval yo).cells.toList).getD q Go.undef).oneCell'=true:=by
  intro q hq;have hg0:=hget q;rw [zp1 hq] at hg0;rw [hrow q (by omega)];by_cases c:i.toNat*k+j<=q/\q<i.toNat*k+j+td.size
  ·rw [if_pos c];rw [if_pos (by omega),hcells _ (by omega),if_pos (by omega)] at hg0;rw [show q-i.toNat*k-j=q-(i.toNat*k+j) by omega,zp1 (by omega)] at hg0;rw [Option.some.inj hg0];exact ⟨hvc _ (by omega),hv1 _ (by omega)⟩
  rw [if_neg c];have hold:(D.flat (l.set i.toNat v'))[q]=(D.flat l)[q]'(by omega):=by
   by_cases c2:i.toNat*k<=q/\q<i.toNat*k+k
   ·rw [if_pos c2,hcells _ (by omega),if_neg (by omega)] at hg0;have:=a0M hu hy0 (q-i.toNat*k) (by omega);rw [show i.toNat*k+(q-i.toNat*k)=q by omega,zp1 (by omega)] at this;rw [<-this] at hg0;exact Option.some.inj hg0
   rw [if_neg c2,zp1 (by omega)] at hg0;exact Option.some.inj hg0
  rw [hold];exact ⟨hh q (by omega),h1 q (by omega)⟩
 obtain ⟨hcore,hext⟩:=a8m R hHi (by omega) hw (l':=l.set i.toNat v') (row:=rowOf cur (i.toNat*k+j) (a.eval yo).cells.toList) (by simp) hu' (a1x (by simp;omega)) (fun q hq=>(each q hq).2) (fun q hq=>(each q hq).1);refine a2k hnd (w':=w.setRow (G.β (.o a0)) (rowOf cur (i.toNat*k+j) (a.eval yo).cells.toList)) (by simp [execOp,hop,hpt,Instr.storeAt,Instr.sureAddr,hrun]) (hn G _ _ ?_ (hext m));rw [hdst];simpa [Act.put] using hcore
theorem b1l {t:TypeId} {s:Nat} {yo:Operand} (hop:o.op = .store t (.tmp s) yo) {a0 k:Nat} {l:List D} {i:Int} {j:Nat} (hs:g s = .eptr a0 k i j) (hHi:σ.heap[a0]?=some (.gro k l)) {td:TD} (ht:T t=some td)
  {v:D} (hv:opD T g t yo=some v) (hdst:o.dst=none) (hpos:0<td.size) (hvl:v.cells.length=td.size) {y0:D} (hy0:l[i.toNat]?=some y0) {v':D}
  (hall:y0.cells.length=k->v'.cells.length=k/\j+td.size<=k/\(∀ q,q<k->v'.cells[q]?=if j<=q/\q<j+td.size then v.cells[q-j]? else y0.cells[q]?)) :
  a0k P σ o [] (some (σ.heap.set a0 (.gro k (l.set i.toNat v')))) :=
 a9p hT hg hgd hop (fun R=>eptr_val hg R (x := .tmp s) hs) hHi ht hv hdst hpos hvl hy0 hall
theorem b3O {t:TypeId} {s q:Nat} (hop:o.op = .store t (.tmp s) (.tmp q)) {a0 off k:Nat} {l:List D} {cs:List AV} (hs:g s = .ptr a0 off) (hq:g q = .fresh k l) (hHi:σ.heap[a0]?=some (.cells cs)) {td:TD} (ht:T t=some td)
  (hsz:td.size=1) (hoff:off<cs.length) (hdst:o.dst=none):a0k P σ o [(q,.undef)] (some (σ.heap.set a0 (.cells (cs.set off (.fresh k l))))):=by
 have hnd : ∀ c,o.op ≠ .defer c:=by simp [hop]
 intro r n m G a w Q next hm R hn
 obtain ⟨hpt,hnh⟩:=b3N hg R hs;have hsg:σ.get q = .fresh k l:=(hg.eq hq (by simp));obtain ⟨R1,hrep1⟩:=R.giveF hsg (.oc a0 off) (by simp [Loc.root]);obtain ⟨cur,e,hO,hw,hs',hh,hcc⟩:=R1.h.objs a0 _ hHi;have hval:a.eval (.tmp q)=a.tmps.getD q Go.undef:=rfl;generalize hvv:a.tmps.getD q Go.undef=vv at hrep1;have hcells:vv.cells = #[vv]:=by
  cases hrep1 with | fresh _ _ _ _ hr =>
  obtain ⟨p,cap,rfl,_⟩:=hr;rfl
 have hcore:=a2y R1 (off:=off) (nv:=[.fresh k l]) (vs:=[vv]) hHi hw (by simp;omega) rfl
  (fun j hj=>by simp at hj;subst hj;simpa using hrep1) (by simp [AV.isCell])
 have hone : ∀ x∈vv.cells.toList,x.oneCell'=true:=by
  rw [hcells];simp;exact hrep1.oneCell rfl
 have hrun:=a1b hT ht hw (off:=off) (v:=vv) (by rw [hcells];simp [hsz]) (by omega) hone;have hβ:(G.move (.s q) (.oc a0 off)).β=G.β:=rfl;rw [hβ] at hrun hcore hO;refine a2k hnd (w':=w.setRow (G.β (.o a0)) (rowOf cur off vv.cells.toList)) (by simp [execOp,hop,hpt,Instr.storeAt,Instr.sureAddr,hval,hvv,hrun]) (hn _ _ _ ?_ ((Ext.move m G w _ _).trans (Ext.setRow hO _)));rw [hdst,hcells];have hcore':=hcore;simp only [show (σ.upd [(q,AV.undef)] none).heap=σ.heap from rfl] at hcore';rw [b1f] at hcore';have hset:a0W cs off [AV.fresh k l]=cs.set off (.fresh k l):=by
  simp only [a0W,List.length_singleton];rw [List.set_eq_take_append_cons_drop,if_pos hoff];simp
 rw [hset] at hcore';simpa [Act.put] using hcore'
theorem a9q {s d k1:Nat} {y:Operand} {t u:TypeId} {l ys:List D} (hop:o.op = .call { callee := .builtin .append,args := #[.tmp s,y],argTypes := #[t,u] }) (ht:a0L T t=some k1) (hu':a0L T u=some k1) (hy:a3f T g u y=some (k1,ys)) (hdst:o.dst=some d)
  (_:0<k1) (hlt:d<σ.n) (hbx:(g d).isBox=false) (hfits:(l.length:Int)+ys.length<4294967296) {σ1:St} (h1n:σ1.n=σ.n) (h1b:(σ1.get d).isBox=false)
  (hold : ∀ G a w,Rel G σ a w->Rel G σ1 a w/\a0u k1 l /\ ∃ p cs b,a.eval (.tmp s) = .slice p l.length cs/\l.length<=cs/\(0<cs->p=some ⟨b,0,none⟩) /\
   (0<cs -> ∃ ℓ0 cur e,G.O b=some (ℓ0,0)/\lets σ1 ℓ0/\w.heap[b]?=some (.cells cur e (0,0))/\cs*k1<=cur.size/\(∀ j,j<(D.flat l).length->(cur.getD j Go.undef).oneCell'=true) /\ ∀ (j:Nat) (hj:j<(D.flat l).length),RepD G.K (D.flat l)[j] (cur.getD j Go.undef))) :
  ∀ (r:Option Nat) (n m:Nat) (G:Gh) (a:Act) (w:World) (Q:Exit->Act->World->Prop) (next:Act->World->Prop),m<=G.nh->Rel G σ a w ->
    (∀ G' a' w',Rel G' { σ1 with env:=a3d σ1.env d (.fresh k1 (l++ys)) } a' w'->Ext m G w G' w'->next a' w')->o.wpIn (Wd r) n P a w next Q:=by
 have hnd : ∀ c,o.op ≠ .defer c:=by simp [hop]
 obtain ⟨sz,e,zz,td,hTt,hTe,hks⟩:=a1u ht;obtain ⟨sz1,e1,zz1,td1,hTt1,hTe1,hks1⟩:=a1u hu';obtain ⟨ie,dd,hie,hdd,hsz,hbytes,huok,z0,hz,hzs,hzl,hzc⟩:=hT.info hTe;intro r n m G a w Q next hm R hn
 obtain ⟨R1,hul,p,cs,b,hsv,hlc,hpb,hblk⟩:=hold G a w R;have hys:=a3i hg hy R;obtain ⟨arrY,f1,f2,f3,f4⟩:=a1g (P:=P) R.h.kept hys;have hyl : ∃ b cap,a.eval y = .slice b ys.length cap:=by
  rcases hys.slice with ⟨rfl,oa,hv⟩ | ⟨b,off,cap,hv⟩
  ·exact ⟨_,_,hv⟩
  exact ⟨_,_,hv⟩
 obtain ⟨by',cy,hyv⟩:=hyl;rw [hyv] at f1;have hfl:=a0e hul;have hfy:=a0e f3;have huni:a0u k1 (l++ys):=fun x hx=>by rcases List.mem_append.1 hx with hx | hx;exact hul x hx;exact f3 x hx
 have hdl:d<σ1.n:=by rw [h1n];exact hlt

 have fin : ∀ (b' cap':Nat) (v:Value) (w':World),(execOp a.eval o).run P w = .ok (.value v) w'->Rel (G.give b' cap' (.s d)) σ1 a w'/\(∀ m,m<=G.nh->Ext m G w (G.give b' cap' (.s d)) w') /\
   a8d (G.give b' cap' (.s d)) w' (.s d) k1 (l++ys) v->o.wpIn (Wd r) n P a w next Q:=by
  rintro b' cap' v w' hrun ⟨R2,hext,hrep⟩;refine a0X hnd hrun (hn _ _ _ ?_ (hext m hm));rw [hdst];have:=R2.put (d:=d) (.fresh _ _ _ _ hrep) (fun r off e=>by cases e) h1b hdl;simpa [St.upd,a0A] using this
 by_cases hcap:l.length+ys.length<=cs
 ·by_cases hy0:ys=[]
  ·subst hy0;have harr:arrY = #[]:=Array.eq_empty_of_size_eq_zero (by simpa [D.flat] using f2);subst harr;have hrun:(execOp a.eval o).run P w = .ok (.value (.slice p l.length cs)) w:=by
    have hcap':l.length<=cs:=by simpa using hcap
    simp at f1;cases p with
    | none=>simp [execOp,hop,resolve,invoke,Go.builtin,Builtin.append_,hsv,hyv,Go.underlying,hT.slice hTt,hT.slice hTt1,hT.size hTe,Builtin.lenOf,hks,f1,hcap']
    | some b=>simp [execOp,hop,resolve,invoke,Go.builtin,Builtin.append_,hsv,hyv,Go.underlying,hT.slice hTt,hT.slice hTt1,hT.size hTe,Builtin.lenOf,hks,f1,hcap',storeCells]
   refine fin b cs _ _ hrun ?_;simp only [List.append_nil];exact R1.toLoc (.s d) (by simp [Loc.root]) (w':=w) hpb hul hlc (Nat.le_refl _) ⟨rfl,rfl,fun _ _=>rfl,rfl,Nat.le_refl _⟩ (fun _ _ _=>rfl) (fun hc=>by
    obtain ⟨ℓ0,cur,ec,h1,h2,h3,h4,h5,h6⟩:=hblk hc;exact ⟨(Array.getElem?_eq_some_iff.1 h3).1,.inr ⟨ℓ0,h1,h2⟩,cur,ec,h3,h4,h5,h6⟩)
  have hyp:0<ys.length:=List.length_pos_iff.2 hy0;obtain rfl:=hpb (by omega);obtain ⟨ℓ0,cur,ec,h1,h2,h3,h4,h5,h6⟩:=hblk (by omega);have hlen:arrY.toList.length=ys.length*k1:=by rw [<-hfy];simpa using f2
  have hmul:(l.length+ys.length)*k1<=cs*k1:=Nat.mul_le_mul_right k1 hcap;rw [Nat.add_mul] at hmul;have hst:=run_storeCells_at P b (0+l.length*k1) ec arrY.toList 0 cur w h3 (by omega) (fun v hv=>by
   obtain ⟨q,hq,rfl⟩:=List.mem_iff_getElem.1 hv;have:=(f4 q (by simp at hq;omega)).2;have hq':q<arrY.size:=by simpa using hq
   simpa [Array.getD,hq'] using this)
  have hrs:(0+l.length*k1)+arrY.toList.length<=cur.size:=by omega
  have hrun:(execOp a.eval o).run P w = .ok (.value (.slice (some ⟨b,0,none⟩) (l.length+ys.length) cs)) (w.setRow b (rowOf cur (0+l.length*k1) arrY.toList)):=by
   simp only [Nat.add_zero] at hst;simp [execOp,hop,resolve,invoke,Go.builtin,Builtin.append_,hsv,hyv,Go.underlying,hT.slice hTt,hT.slice hTt1,hT.size hTe,Builtin.lenOf,hks,f1,hcap,Addr.add_none];simp only [Nat.zero_add] at hst ⊢;simp [hst,rowOf]
  refine fin b cs _ _ hrun ?_;have key:=R1.toLoc (.s d) (by simp [Loc.root]) (w':=w.setRow b (rowOf cur (0+l.length*k1) arrY.toList)) (k:=k1) (l:=l++ys) (cap:=cs) (b:=b) (p:=some ⟨b,0,none⟩) (fun _=>rfl) huni (by simpa using hcap) (by simp)
   ⟨rfl,rfl,fun ad _=>a2G _ _ _ ad,rfl,Nat.le_refl _⟩ (fun b' hb' hne=>setRow_other _ _ _ _ (hne (by omega))) (fun hc=>by
    refine ⟨by simpa using (Array.getElem?_eq_some_iff.1 h3).1,.inr ⟨ℓ0,h1,h2⟩,_,ec,setRow_heap _ _ _ _ _ _ h3,by rw [a1x hrs];exact h4,?_⟩;have each : ∀ (q:Nat) (hq:q<(D.flat (l++ys)).length),RepD G.K (D.flat (l++ys))[q] ((rowOf cur (0+l.length*k1) arrY.toList).getD q Go.undef)/\((rowOf cur (0+l.length*k1) arrY.toList).getD q Go.undef).oneCell'=true:=by
     intro q hq;rw [a1U hrs];simp only [a1t] at hq ⊢;simp only [List.length_append] at hq;by_cases c1:q<0+l.length*k1
     ·rw [if_pos c1,List.getElem_append_left (by omega)];exact ⟨h6 q (by omega),h5 q (by omega)⟩
     rw [if_neg c1,if_pos (by omega),List.getElem_append_right (by omega)];have:=f4 (q-(D.flat l).length) (by omega);have e0:arrY.toList.getD (q-(0+l.length*k1)) Go.undef=arrY.getD (q-(D.flat l).length) Go.undef:=by
      rw [hfl,Nat.zero_add];simp [List.getD,zp5]
     rw [e0];exact this
    exact ⟨fun q hq=>(each q hq).2,fun q hq=>(each q hq).1⟩)
  simpa using key
 have hneed:l.length+ys.length<4294967296:=by omega
 have hbig : ¬ Builtin.nextslicecap (l.length+ys.length) cs*ie.bytes>2 ^ 48:=by
  have h1:=a3V (need:=l.length+ys.length) (cap:=cs) (by omega);have h2:Builtin.nextslicecap (l.length+ys.length) cs*ie.bytes<=(2*(l.length+ys.length)+200)*4096:=Nat.mul_le_mul h1 hbytes;omega
 let qn:=Question.appendCap (l.length+ys.length) cs e;let nc:=qn.cut (w.tape w.drawn qn);let wd:=w.drew;have hwd:wd.heap=w.heap:=rfl;have hnc:l.length+ys.length<=nc:=by simp [nc,qn,Question.cut]
 let rest:=Builtin.zeroCells z0.cells (nc-(l.length+ys.length));have hrest:rest.size=(nc-(l.length+ys.length))*k1:=by simp [rest,Builtin.zeroCells,hzs,hks]
 have hkd : ∀ x v,G.K x=some v->wd.cell? x=some v:=by
  intro x v hx;have:=R.h.kept x v hx;unfold World.cell? at *
  rwa [hwd]
 obtain ⟨arrY,f1,f2,_,f4⟩:=a1g (P:=P) hkd hys;rw [hyv] at f1;obtain ⟨arrS,s1,s2,s4⟩ : ∃ arrS:Array Value,(Builtin.firstCells k1 l.length (Value.slice p l.length cs)).run P wd = .ok arrS wd/\arrS.size=(D.flat l).length /\ ∀ (q:Nat) (hq:q<(D.flat l).length),RepD G.K (D.flat l)[q] (arrS.getD q Go.undef)/\(arrS.getD q Go.undef).oneCell'=true:=by
  rcases Nat.eq_zero_or_pos cs with hc | hc
  ·subst hc;have hl0:l=[]:=List.eq_nil_of_length_eq_zero (by omega);subst hl0;refine ⟨#[],?_,rfl,fun q hq=>by simp [D.flat] at hq⟩;cases p with
   | none=>simp [Builtin.firstCells]
   | some x=>simp [Builtin.firstCells,loadCells,loadCellsFrom]
  obtain rfl:=hpb hc;obtain ⟨ℓ0,cur,ec,h1,h2,h3,h4,h5,h6⟩:=hblk hc;have hmul:l.length*k1<=cs*k1:=Nat.mul_le_mul_right _ hlc;refine ⟨_,a7t (P:=P) (w:=wd) (cap:=cs) (by rw [hwd];exact h3) (by omega),by simp [hfl],fun q hq => ?_⟩;have:((List.range (l.length*k1)).map fun j=>cur.getD j Go.undef).toArray.getD q Go.undef=cur.getD q Go.undef:=by
   simp [show q<l.length*k1 by omega]
  rw [this];exact ⟨h6 q hq,h5 q hq⟩
 have hrun:(execOp a.eval o).run P w = .ok (.value (.slice (some ⟨w.heap.size,0,none⟩) (l.length+ys.length) nc)) (wd.alloc (.cells (arrS++arrY++rest) e)):=by
  have hcap' : ¬ l.length+ys.length<=cs:=hcap;have key:(Builtin.append_ #[t,u] o.type #[.slice p l.length cs,a.eval y]).run P w = .ok (.slice (some ⟨w.heap.size,0,none⟩) (l.length+ys.length) nc) (wd.alloc (.cells (arrS++arrY++rest) e)):=by
   unfold Builtin.append_;simp [Go.underlying,hT.slice hTt,hT.slice hTt1,hT.size hTe,Builtin.lenOf,hyv,hcap',hks,typeInfo,hie,hbig];have hmax' : ¬ ((9223372036854775807:Int)<(l.length:Int)+(ys.length:Int)/\ie.bytes=0):=by
    intro hh;omega
   rw [if_neg hmax'];have hforced':(Question.appendCap (l.length+ys.length) cs e).forced=false:=rfl;simp only [hforced',Bool.false_eq_true,if_false];rw [show (Builtin.firstCells k1 l.length (Value.slice p l.length cs)).run P w.drew=_ from s1];simp only [Result.andThen_ok];rw [show (Builtin.firstCells k1 ys.length (Value.slice by' ys.length cy)).run P w.drew=_ from f1];simp only [Result.andThen_ok,zeroValue,typeInfo,Sem.run_bind,run_program,hie,hz,Sem.run_pure,newRow,run_newObj];simp [rest,nc,qn,wd]
   rfl
  simp only [execOp,hop,resolve,invoke,Go.builtin,Sem.run_bind,Sem.run_pure,Result.andThen_ok];simp [hsv,key]
 have hnew:(wd.alloc (.cells (arrS++arrY++rest) e)).heap[w.heap.size]?=some (.cells (arrS++arrY++rest) e (0,0)):=heap_alloc_new (w:=wd);refine fin w.heap.size nc _ _ hrun ?_;have key:=R1.toLoc (.s d) (by simp [Loc.root]) (w':=wd.alloc (.cells (arrS++arrY++rest) e)) (k:=k1) (l:=l++ys) (cap:=nc) (b:=w.heap.size) (p:=some ⟨w.heap.size,0,none⟩) (fun _=>rfl) huni (by simpa using hnc) (by simp [wd])
  ⟨rfl,rfl,fun ad _=>(frozen?_alloc_new _ _ (fun _ _ _ e=>by cases e;rfl) ad).trans rfl,rfl,Nat.le_succ _⟩ (fun b' hb' _=>a0w (w:=wd) hb') (fun _=>by
   refine ⟨by simp [wd],.inl (Nat.le_refl _),_,e,hnew,?_,?_⟩
   ·have:(arrS++arrY++rest).size=nc*k1:=by
     simp only [Array.size_append,s2,f2,hfl,hfy,hrest];rw [<-Nat.add_mul,<-Nat.add_mul];congr 1;omega
    omega
   have each : ∀ (q:Nat) (hq:q<(D.flat (l++ys)).length),RepD G.K (D.flat (l++ys))[q] ((arrS++arrY++rest).getD q Go.undef)/\((arrS++arrY++rest).getD q Go.undef).oneCell'=true:=by
    intro q hq;simp only [a1t] at hq ⊢;have e0:(arrS++arrY++rest).getD q Go.undef=if q<arrS.size then arrS.getD q Go.undef else arrY.getD (q-arrS.size) Go.undef:=by
     simp only [List.length_append] at hq;simp only [zp5];split
     ·rename_i hq1;rw [Array.getElem?_append_left (by simp;omega),Array.getElem?_append_left hq1]
     rename_i hq1;rw [Array.getElem?_append_left (by simp;omega),Array.getElem?_append_right (by omega)]
    rw [e0];by_cases hq1:q<arrS.size
    ·rw [if_pos hq1,List.getElem_append_left (by omega)];exact s4 q (by omega)
    rw [if_neg hq1,List.getElem_append_right (by omega)];have:=f4 (q-arrS.size) (by simp at hq;omega);simpa [s2] using this
   exact ⟨fun q hq=>(each q hq).2,fun q hq=>(each q hq).1⟩)
 simpa using key
theorem b3P {s d k1:Nat} {y:Operand} {t u:TypeId} {l ys:List D} (hop:o.op = .call { callee := .builtin .append,args := #[.tmp s,y],argTypes := #[t,u] }) {a0:Nat} (hs:g s = .gref a0 k1) (hHi:σ.heap[a0]?=some (.gro k1 l))
  (ht:a0L T t=some k1) (hu':a0L T u=some k1) (hy:a3f T g u y=some (k1,ys)) (hdst:o.dst=some d) (hk:0<k1) (hlt:d<σ.n) (hbx:(g d).isBox=false) (hfits:(l.length:Int)+ys.length<4294967296) :
  a0k P σ o [(d,.fresh k1 (l++ys))] (some (σ.heap.set a0 .dead)):=by
 intro r n m G a w Q next hm R hn
 refine a9q hT hg hgd (σ1:={ σ with heap:=σ.heap.set a0 .dead }) hop ht hu' hy hdst hk hlt hbx hfits rfl (by show (σ.get d).isBox=false;rw [<-hgd d hdst];exact hbx) (fun G a w R => ?_) r n m G a w Q next hm R (fun G' a' w' R' hE=>hn G' a' w' (by simpa [St.upd,a0A] using R') hE)
 obtain ⟨p,hv,hnh,hle,hp⟩:=a8l hg R hs;obtain ⟨_,q1,q2,hu,q3⟩:=R.h.objs a0 _ hHi;refine ⟨R.kill a0,hu,p,G.β (.o (a0+1)),G.β (.o a0),by rw [hv,q1],q2,hp,fun hc => ?_⟩;obtain ⟨vs,e,h1,h2,h3,h4,h5⟩:=q3 hc;refine ⟨.o a0,vs,e,h1,?_,h2,h3,h4,h5⟩;simp only [lets];rw [List.getElem?_set_self (zp2.1 hHi).1]
theorem b2l {s d k1:Nat} {y:Operand} {t u:TypeId} {ys:List D} (hop:o.op = .call { callee := .builtin .append,args := #[.tmp s,y],argTypes := #[t,u] }) (hs:(g s).emptyOf=some k1)
  (ht:a0L T t=some k1) (hu':a0L T u=some k1) (hy:a3f T g u y=some (k1,ys)) (hdst:o.dst=some d) (hk:0<k1) (hlt:d<σ.n) (hbx:(g d).isBox=false) (hsd : ¬ s=d) (hfits:(ys.length:Int)<4294967296) :
  a0k P σ o [(s,.d (.list k1 [])),(d,.fresh k1 ys)] none:=by
 have hs':σ.get s = .own k1 []\/σ.get s = .lim k1 []:=by
  have hne:g s ≠ .undef:=by intro h;rw [h] at hs;cases hs
  have e:σ.get s=g s:=hg.eq rfl hne;rw [e];unfold AV.emptyOf at hs;split at hs
  ·rename_i h;cases hs;exact .inl h
  ·rename_i h;cases hs;exact .inr h
  cases hs
 have hdb:(σ.get d).isBox=false:=by rw [<-hgd d hdst];exact hbx
 intro r n m G a w Q next hm R hn
 refine a9q hT hg hgd (σ1:=σ.upd [(s,.d (.list k1 []))] none) (l:=[]) hop ht hu' hy hdst hk hlt hbx (by simpa using hfits) rfl ?_ (fun G a w R => ?_) r n m G a w Q next hm R (fun G' a' w' R' hE=>hn G' a' w' (by simpa [St.upd,a0A] using R') hE)
 ·simp only [St.upd,St.get,a0A,List.foldl_cons,List.foldl_nil,a0f,if_neg hsd];exact hdb
 have R1:=R.demote (s:=s) (k:=k1) (l:=[]) (by rcases hs' with h | h;exact .inl h;exact .inr (.inl h))
 have hrep:=R.slots s;refine ⟨R1,fun x hx=>by simp at hx,?_⟩;show ∃ p cs b,a.tmps.getD s Go.undef=_/\_;generalize hsv:a.tmps.getD s Go.undef=sv at hrep;rcases hs' with h | h
 ·rw [h] at hrep;cases hrep with | own _ _ _ _ hr ht =>
  have hsl : ∃ p cap,sv = .slice p 0 cap:=by
   rcases hr.slice with ⟨_,oa,hv⟩ | ⟨b,off,cap,hv⟩
   ·exact ⟨_,_,hv⟩
   exact ⟨_,_,hv⟩
  obtain ⟨p,cap,rfl⟩:=hsl;rcases Nat.eq_zero_or_pos cap with hc | hc
  ·exact ⟨p,cap,0,rfl,by simp,fun h=>by omega,fun h=>by omega⟩
  cases p with
  | none =>
    generalize hv':Value.slice none 0 cap=v at hr;cases hr with
    | nil=>simp at hv';omega
    | none0=>simp at hv'
    | list=>simp at hv'
  | some ad =>
    obtain ⟨f,c,e,h1,h2,h3,h4,h5⟩:=ht ad 0 cap rfl hc;have hspot:ad.spot=none:=by
     generalize hv':Value.slice (some ad) 0 cap=v at hr;cases hr with
     | nil=>simp at hv'
     | none0=>simp at hv';omega
     | list=>simp at hv';rw [hv'.1]
    have had:ad=⟨ad.block,0,none⟩:=by obtain ⟨x,y,z⟩:=ad;simp at hspot h5;simp [hspot,h5]
    have hf:f=0:=by rw [h5] at h2;simpa using h2
    subst hf;refine ⟨some ad,cap,ad.block,rfl,by simp,fun _=>by rw [<-had],fun _=>⟨.s s,c,e,h1,?_,h3,by rw [h5] at h4;simpa using h4,fun j hj=>by simp [D.flat] at hj,fun j hj=>by simp [D.flat] at hj⟩⟩;simp only [lets,St.upd,St.get,a0A,List.foldl_cons,List.foldl_nil,a0f,if_true]
    rfl
 rw [h] at hrep;cases hrep with | lim _ _ _ _ hr ht =>
 have hsl : ∃ p cap,sv = .slice p 0 cap:=by
  rcases hr.slice with ⟨_,oa,hv⟩ | ⟨b,off,cap,hv⟩
  ·exact ⟨_,_,hv⟩
  exact ⟨_,_,hv⟩
 obtain ⟨p,cap,rfl⟩:=hsl;have:=ht _ _ _ rfl;exact ⟨p,cap,0,rfl,by simp,fun h=>by omega,fun h=>by omega⟩
theorem b3Q {t:TypeId} {ln cp:Operand} (hop:o.op = .makeSlice t ln cp) {d:Nat} (hdst:o.dst=some d) {sz e:Nat} {zz:List AV} (ht:T t=some { size:=sz,u := .slice e,zero:=zz }) {td:TD} (hte:T e=some td) {kz kz':IntKind} {z z':Int}
  (hln:opD T g 0 ln=some (.int kz z)) (hcp:opD T g 0 cp=some (.int kz' z')) {y:D} (hy:a7p td=some y) (hlt:d<σ.n) (hb:(g d).isBox=false) (hpos:0<td.size) (hz0:0<=z) (hzz:z<=z') (hfit:z'<4294967296) :
  a0k P σ o [(d,.gref σ.heap.length td.size)] (some (σ.heap++[.gro td.size (Ar.std.rep z y),.dead,.dead])):=by
 have hnd : ∀ c,o.op ≠ .defer c:=by simp [hop]
 intro r n m G a w Q next hm R hn
 have h1:=a1c hg R hln;have h2:=a1c hg R hcp;obtain ⟨ie,de,hie,hde,hisz,hbytes,_⟩:=hT.info hte;obtain ⟨z0,hz0',hz0s,hyl,hzr⟩:=a6a hT hte hy hie;obtain ⟨N,rfl⟩:=zp9 hz0;obtain ⟨M,rfl⟩:=zp9 (show 0<=z' by omega);have hNM:N<=M:=by omega
 have e1:a.eval ln = .int kz N:=by generalize hv:a.eval ln=v at h1;cases h1;rfl
 have e2:a.eval cp = .int kz' M:=by generalize hv:a.eval cp=v at h2;cases h2;rfl
 have hmk:=run_make (P:=P) w t e ie z0 (hT.slice ht) hie hz0' kz kz' N M (by omega) (by omega) (by
  have:ie.bytes*M<=4096*4294967296:=Nat.mul_le_mul hbytes (by omega);have h3:((ie.bytes*M:Nat):Int)<=281474976710656:=by omega
  rwa [Int.natCast_mul] at h3) (by omega)
 simp only [Int.toNat_natCast,hisz] at hmk;have hu:a0u td.size (List.replicate N y):=fun x hx=>by rw [(List.mem_replicate.1 hx).2];exact hyl
 have hfl:=a0e hu;have hmul:N*td.size<=M*td.size:=Nat.mul_le_mul_right _ hNM;have hget : ∀ q,q<N*td.size->(madeCells z0.cells (M*td.size)).getD q Go.undef=z0.cells.getD (q%td.size) Go.undef:=by
  intro q hq;have hm:=Nat.mod_lt q hpos;have hq2:q<M*td.size:=by omega
  simp [madeCells,hz0s,hq2,Array.getD,hm]
 have hrep0:Ar.std.rep (N:Int) y=List.replicate N y:=by simp [Ar.std]
 rw [hrep0] at hn;have hrun:(execOp a.eval o).run P w = .ok (.value (.slice (some ⟨w.heap.size,0,none⟩) N M)) (w.alloc (.cells (madeCells z0.cells (M*td.size)) e)):=by simp [execOp,hop,e1,e2,hmk]
 have each : ∀ (q:Nat) (hq:q<(D.flat (List.replicate N y)).length),RepD G.K (D.flat (List.replicate N y))[q] ((madeCells z0.cells (M*td.size)).getD q Go.undef)/\((madeCells z0.cells (M*td.size)).getD q Go.undef).oneCell'=true:=by
  intro q hq;have hq':q<N*td.size:=by simpa [hfl] using hq
  have hqm:q%td.size<td.size:=Nat.mod_lt _ hpos;have hqd:q / td.size<N:=by rw [Nat.div_lt_iff_lt_mul hpos];exact hq'
  have hqq:q / td.size*td.size+q%td.size=q:=by rw [Nat.mul_comm];exact Nat.div_add_mod _ _
  have hfg:=a0M hu (i:=q / td.size) (y:=y) (by rw [List.getElem?_replicate,if_pos hqd]) (q%td.size) hqm;rw [hqq,zp1 hq,zp1 (by omega)] at hfg;rw [Option.some.inj hfg,hget q hq'];exact hzr _ _ _
 obtain ⟨R2,hext,hrep⟩:=R.toGro (w':=w.alloc (.cells (madeCells z0.cells (M*td.size)) e)) (k:=td.size) (l:=List.replicate N y) (cap:=M) (b:=w.heap.size) (p:=some ⟨w.heap.size,0,none⟩) (fun _=>rfl) hu (by simp;omega) (by simp)
  ⟨rfl,rfl,fun ad _=>frozen?_alloc_new _ _ (fun _ _ _ e=>by cases e;rfl) ad,rfl,Nat.le_refl _⟩ (fun b' hb' _=>a0w hb') (fun _ =>
   ⟨by simp,.inl (Nat.le_refl _),_,e,heap_alloc_new,by rw [size_madeCells];simp,fun q hq=>(each q hq).2,fun q hq=>(each q hq).1⟩)
 refine a0X hnd hrun (hn _ _ _ ?_ (hext m hm));rw [hdst];simp only [List.length_replicate] at R2 hrep;have:=R2.put (d:=d) (hrep _) (fun r off e=>by cases e) (by show (σ.get d).isBox=false;rw [<-hgd d hdst];exact hb) hlt;simpa [St.upd,a0A] using this
theorem b3R {t:TypeId} {s:Nat} {i:Operand} (hop:o.op = .indexAddr t (.tmp s) i) {a0 k j0:Nat} {i0:Int} (hs:g s = .eptr a0 k i0 j0)
  {sz mm e:Nat} {zz:List AV} (ht:T t=some { size:=sz,u := .array mm e,zero:=zz }) {td:TD} (hte:T e=some td) {kz:IntKind} {z:Int} (hi:opv T g 0 i=some (.d (.int kz z))) (hz0:0<=z) (hz1:z<(mm:Int))
  (h:put σ.n g o.dst (.eptr a0 k i0 (j0+z.toNat*td.size))=some (ss,h')):a0k P σ o ss h':=by
 refine a0h hgd h (by simp [hop]) (AV.free_place rfl) ?_;intro G a w R;have h1:=(a1l hg R hi .no).1;cases h1 with | d _ _ _ h1 =>
 generalize hei:a.eval i=vi at h1;cases h1;obtain ⟨hv,hnh,hi0⟩:=eptr_val hg R (x := .tmp s) hs;refine ⟨.pointer (some ⟨G.β (.o a0),i0.toNat*k+j0+z.toNat*td.size,none⟩),?_,fun d => ?_⟩
 ·simp [execOp,hop,hv,hei,Instr.indexAt,asIntOf,Go.underlying,hT.array ht,Instr.sureAddr,hz0,hz1,hT.size hte,Addr.add_none]
 have:=RepV.eptr (G:=G) (w:=w) (.s d) a0 k i0 (j0+z.toNat*td.size) hnh hi0;rw [<-Nat.add_assoc] at this;exact this
theorem b5R (hH : ∀ (i:Nat) (ob:Obj),H[i]?=some ob->σ.heap[i]?=some ob) (hHe:a1E an g o=true->H=σ.heap) (h:a8c Ar.std T an σ.n g H o=some (some (ss,h'))):a0k P σ o ss h':=by
 unfold a8c at h;split at h
 ·rename_i args ts hop;split at h
  ·rename_i s t hargs hts;obtain rfl:args = #[.tmp s]:=by cases args;simp_all
   obtain rfl:ts = #[t]:=by cases ts;simp_all
   split at h
   ·rename_i a0 k hs;simp only [zp3] at h;split at h
    ·rename_i sz e z k' l ht hHi;split at h
     ·rename_i hk;subst hk;exact c0L hT hg hgd hop hs (hH _ _ hHi) ht h
     cases h
    cases h
   cases h
  cases h
 ·rename_i t s i hop;split at h
  ·rename_i a0 k hs;simp only [zp3] at h;split at h
   ·rename_i sz e zz kz z k' l ht hi hHi;split at h
    ·rename_i td hte;split at h
     ·rename_i hc;simp only [zp4,decide_eq_true_eq,a3R] at hc;obtain ⟨⟨⟨hk,rfl⟩,hz0⟩,hz1⟩:=hc;exact b5Q hT hg hgd hop hs (hH _ _ hHi) ht hte hi hk hz0 (by simpa [Ar.std] using hz1) h
     cases h
    cases h
   cases h
  ·rename_i a0 k i0 j0 hs;split at h
   ·simp only [zp3] at h;split at h
    ·rename_i sz mm e zz kz z ht hi;split at h
     ·rename_i td hte;split at h
      ·rename_i hc;simp only [zp4,a3R,a4R,decide_eq_true_eq] at hc;rw [b1d,a5o] at h;exact b3R hT hg hgd hop hs ht hte hi hc.1 hc.2 h
      cases h
     cases h
    cases h
   cases h
  cases h
 ·rename_i t s hop;split at h
  ·rename_i a0 k i j hs;split at h
   ·rename_i k' l hHi;simp only [zp3] at h;split at h
    ·rename_i td ht;split at h
     ·rename_i hk;subst hk;split at h
      ·rename_i y hy;obtain ⟨av,hav,hp⟩:=a1w h;exact b8c hT hg hgd hop hs (hH _ _ hHi) ht (by simpa [Ar.std] using hy) hav hp
      cases h
     cases h
    cases h
   cases h
  cases h
 ·rename_i t s yo hop;split at h
  ·rename_i a0 off hs;split at h
   ·rename_i q;split at h
    ·rename_i k l hq;have hHσ:H=σ.heap:=hHe (by simp [a1E,hop,hs]);subst hHσ;simp only [zp3] at h;split at h
     ·rename_i td cs ht hHi hdst;split at h
      ·rename_i hc;obtain ⟨h1,h2,h3⟩:=hc;cases h;exact b3O hT hg hgd hop hs hq hHi ht h1 h3 hdst
      cases h
     cases h
    cases h
   cases h
  ·rename_i a0 k i j hs;have hHσ:H=σ.heap:=hHe (by simp [a1E,hop,hs]);subst hHσ;split at h
   ·rename_i k' l hHi;simp only [zp3] at h;split at h
    ·rename_i td v ht hv hdst;split at h
     ·rename_i hc;obtain ⟨rfl,hpos,hvl⟩:=hc;split at h
      ·rename_i y0 hy0;replace hy0:l[i.toNat]?=some y0:=by simpa [Ar.std] using hy0
       split at h
       ·rename_i hc;obtain ⟨rfl,hsz⟩:=hc;cases h;exact b1l hT hg hgd hop hs hHi ht hv hdst hpos hvl hy0 (fun _=>⟨by omega,by omega,fun q hq=>by rw [if_pos (by omega)];simp⟩)
       split at h
       ·rename_i cs;split at h
        ·rename_i hc2;cases h;refine b1l hT hg hgd hop hs hHi ht hv hdst hpos hvl hy0 (fun hyk => ?_);replace hyk:cs.length=k':=hyk;have hv2:j+v.cells.length<=cs.length:=by omega
         have e:=a3k cs v.cells j;have el:=a2p cs v.cells j hv2;rw [<-hvl];refine ⟨el.trans hyk,by omega,fun q hq => ?_⟩;refine (e q hv2).trans ?_;show _=if j<=q/\q<j+v.cells.length then v.cells[q-j]? else cs[q]?
         by_cases c1:q<j
         ·rw [if_pos c1,if_neg (by omega)]
         rw [if_neg c1];by_cases c2:q<j+v.cells.length
         ·rw [if_pos c2,if_pos (by omega)]
         rw [if_neg c2,if_neg (by omega)]
        cases h
       cases h
      cases h
     cases h
    cases h
   cases h
  cases h
 ·rename_i args ts hop;split at h
  ·rename_i s y t u d hargs hts hdst;obtain rfl:args = #[.tmp s,y]:=by cases args;simp_all
   obtain rfl:ts = #[t,u]:=by cases ts;simp_all
   split at h
   ·rename_i a0 k hs;have hHσ:H=σ.heap:=hHe (by simp [a1E,hop,hs]);subst hHσ;simp only [zp3] at h;split at h
    ·rename_i es es' k2 ys k' l het heu hy hHi;split at h
     ·rename_i hc;simp [Ar.std] at hc;obtain ⟨⟨⟨⟨⟨⟨⟨rfl,rfl⟩,rfl⟩,rfl⟩,hpos⟩,hlt⟩,hbx⟩,hfits⟩:=hc;have hbase:=b3P hT hg hgd hop hs hHi het heu hy hdst hpos hlt hbx hfits;split at h
      ·cases h;have:=a0k.settle hbase (by simp);rw [List.length_set] at this;exact this
      cases h;exact hbase
     cases h
    cases h
   split at h
   ·rename_i hgr;split at h
    ·rename_i k hk;simp only [zp3] at h;split at h
     ·rename_i es es' k2 ys het heu hy;split at h
      ·rename_i hc;simp [Ar.std] at hc;obtain ⟨⟨⟨⟨⟨⟨⟨rfl,rfl⟩,rfl⟩,hpos⟩,hlt⟩,hbx⟩,hsd⟩,hfits⟩:=hc;cases h;exact b2l hT hg hgd hop hk het heu hy hdst hpos hlt hbx hsd hfits
      cases h
     cases h
    cases h
   cases h
  cases h
 ·rename_i t ln cp hop;split at h
  ·rename_i d hdst;split at h
   ·rename_i hgr;have hHσ:H=σ.heap:=hHe (by simp [a1E,hop]);subst hHσ;simp only [zp3] at h;split at h
    ·rename_i sz e zz kz z kz' z' ht hln hcp;split at h
     ·rename_i td hte;split at h
      ·rename_i y hy;by_cases hth:an.th.contains d=true
       ·rw [if_pos hth] at h;split at h
        ·rename_i hc;cases h;simp only [zp4,decide_eq_true_eq] at hc;obtain ⟨⟨⟨⟨hlt,hb⟩,hpos⟩,hzz,hfit⟩,hz0⟩:=hc;exact b3Q hT hg hgd hop hdst ht hte hln hcp hy hlt (by simpa using hb) hpos (by simpa [Ar.std] using hz0) (by simpa [Ar.std] using hzz) (by simpa [Ar.std] using hfit)
        cases h
       rw [if_neg hth] at h;split at h
       ·rename_i hc;cases h;simp only [zp4,decide_eq_true_eq] at hc;obtain ⟨⟨⟨⟨hlt,hb⟩,hpos⟩,hzz,hfit⟩,hz0⟩:=hc;have hzz:z=z':=by simpa [Ar.std] using hzz
        exact b3Q hT hg hgd hop hdst ht hte hln hcp hy hlt (by simpa using hb) hpos (by simpa [Ar.std] using hz0) (by omega) (by rw [<-hzz];simpa [Ar.std] using hfit)
       cases h
      cases h
     cases h
    cases h
   cases h
  cases h
 cases h
end
theorem b3S {A:Ar} {T:a0m} {an:Ann} {n:Nat} {g:Nat->AV} {H H':List Obj} {o:Oper} {ss:a2b} (h:a8c A T an n g H o=some (some (ss,some H'))):H.length<=H'.length:=by
 unfold a8c at h;have hput : ∀ {dst v},put n g dst v≠some (ss,some H'):=by
  intro dst v h;obtain ⟨h,_⟩:=a1A h;cases h
 have hputO : ∀ {dst v},a5Z n g dst v≠some (ss,some H'):=by
  intro dst v h;unfold a5Z at h;split at h
  ·exact hput h
  cases h
 repeat' (split at h)
 all_goals first
  | (cases h;done)
  | (rw [b1d] at h;exact absurd (Option.some.inj h) hput)
  | (exact absurd (Option.some.inj h) hput)
  | (exact absurd (Option.some.inj h) hputO)
  | (simp only [zp3,Prod.mk.injEq] at h;obtain ⟨_,rfl⟩:=h;simp)
  | skip
theorem a3X : ∀ {cs:List AV} {ds:List D},a5p cs=some ds->cs=ds.map .d
 | [],ds,h=>by simp [a5p] at h;subst h;rfl
 | c::r,ds,h=>by
   cases c <;> simp only [a5p] at h <;> (repeat' split at h) <;> first | (cases h;done) | skip
   rename_i x y hy;cases h;rw [a3X hy];rfl
theorem b3T (z:Int) (i:Nat) (x r:D):b7W Ar.std z i x r=if z=Int.ofNat i then x else r:=by
 have e:Ar.std.zeq z (Int.ofNat i)=decide (z=Int.ofNat i):=rfl;unfold b7W;rw [e];by_cases h:z=Int.ofNat i
 ·rw [decide_eq_true h,if_pos h];split
  ·split
   ·rename_i hk;subst hk;rfl
   rfl
  rfl
 rw [decide_eq_false h,if_neg h];split
 ·split
  ·rename_i hk;subst hk;rfl
  rfl
 rfl
theorem a9r (z:Int) (x:D) : ∀ (i:Nat) (l:List D) (q:Nat),(a7q Ar.std z x i l)[q]?=if z=Int.ofNat (i+q) then (l[q]?).map (fun _=>x) else l[q]?
 | i,[],q=>by simp [a7q]
 | i,r::rs,0=>by
   simp only [a7q,List.getElem?_cons_zero,b3T,Nat.add_zero];split <;> simp
 | i,r::rs,q+1=>by
   simp only [a7q,List.getElem?_cons_succ];rw [a9r z x (i+1) rs q,show i+1+q=i+(q+1) by omega]
theorem a9s {z:Int} (x:D) {l:List D} (h0:0<=z) (h1:z<(l.length:Int)):a7q Ar.std z x 0 l=l.set z.toNat x:=by
 apply List.ext_getElem?;intro q;rw [a9r,List.getElem?_set,Nat.zero_add];by_cases h:z.toNat=q
 ·have hq:q<l.length:=by omega
  rw [if_pos (by show z=(q:Int);omega),if_pos h,if_pos (by omega),zp1 hq];rfl
 rw [if_neg (by intro e;exact h (by rw [e];rfl)),if_neg h]
theorem b3U {α:Type} {cs:List α} {j m q:Nat} (h:j+m<=cs.length) (hq:q<m) (x:α):cs.take j++((cs.drop j).take m).set q x++cs.drop (j+m)=cs.set (j+q) x:=by
 apply List.ext_getElem?;intro p;have h1:(cs.take j).length=j:=by simp;omega
 have h2:(((cs.drop j).take m).set q x).length=m:=by simp;omega
 rw [List.append_assoc];by_cases hp:p<j
 ·rw [zp7 (by omega),List.getElem?_take_of_lt hp,List.getElem?_set_ne (by omega)]
 rw [zp8 (by omega),h1];by_cases hp2:p<j+m
 ·rw [zp7 (by omega),List.getElem?_set];by_cases he:q=p-j
  ·rw [if_pos he,if_pos (by simp;omega),List.getElem?_set,if_pos (by omega),if_pos (by omega)]
  rw [if_neg he,List.getElem?_take_of_lt (by omega),List.getElem?_drop,List.getElem?_set_ne (by omega)];congr 1;omega
 rw [zp8 (by omega),h2,List.getElem?_drop,List.getElem?_set_ne (by omega)];congr 1;omega
theorem a4m {G:Gh} {σ:St} {g:Nat->AV} {a:Act} {w:World} (hg:Less g σ) (R:Rel G σ a w) {s b k j m:Nat} {i z:Int} (h:g s = .vptr b k i j m z) :
  (a.eval (.tmp s) = .pointer (some ⟨G.β (.o b),i.toNat*k+(j+z.toNat),none⟩)/\b<G.nh/\0<=i)/\0<=z/\z<(m:Int):=by
 have:=hg.rep R s;rw [h] at this;generalize hv:a.tmps.getD s Go.undef=v at this;cases this with | vptr _ _ _ _ _ _ _ h1 h2 h3 h4=>exact ⟨⟨hv,h1,h2⟩,h3,h4⟩
theorem a0k.ofRep {P:Program} {σ:St} {o:Oper} {ss:a2b} {h':Option (List Obj)} (h:(∃ G a w,Rel G σ a w)->a0k P σ o ss h'):a0k P σ o ss h' :=
 fun r n m G a w Q next hm R hn=>h ⟨G,a,w,R⟩ r n m G a w Q next hm R hn
section
variable {P:Program} {T:a0m} (hT:TOk P T) {σ:St} {g:Nat->AV} {o:Oper} {ss:a2b} {h':Option (List Obj)} {H:List Obj} {an:Ann}
 (hg:Less g σ) (hgd : ∀ d,o.dst=some d->g d=σ.get d)
include hT hg hgd
theorem b1m {t:TypeId} {s:Nat} {i:Operand} (hop:o.op = .indexAddr t (.tmp s) i) {a0 k j0:Nat} {i0:Int} (hs:g s = .eptr a0 k i0 j0\/(g s = .ptr a0 j0/\k=0/\i0=0))
  {sz mm e:Nat} {zz:List AV} (ht:T t=some { size:=sz,u := .array mm e,zero:=zz }) {td:TD} (hte:T e=some td) {kz:IntKind} {z:Int} (hi:opv T g 0 i=some (.d (.int kz z))) (hsz:td.size=1) (hz0:0<=z) (hz1:z<(mm:Int))
  (h:put σ.n g o.dst (.vptr a0 k i0 j0 mm z)=some (ss,h')):a0k P σ o ss h':=by
 refine a0h hgd h (by simp [hop]) (AV.free_place rfl) ?_;intro G a w R;have h1:=(a1l hg R hi .no).1;cases h1 with | d _ _ _ h1 =>
 generalize hei:a.eval i=vi at h1;cases h1;have hv:a.eval (.tmp s) = .pointer (some ⟨G.β (.o a0),i0.toNat*k+j0,none⟩)/\a0<G.nh/\0<=i0:=by
  rcases hs with hs | ⟨hs,rfl,rfl⟩
  ·exact eptr_val hg R (x := .tmp s) hs
  obtain ⟨h1,h2⟩:=b3N hg R hs;exact ⟨by simpa using h1,h2,Int.le_refl _⟩
 obtain ⟨hv,hnh,hi0⟩:=hv;refine ⟨.pointer (some ⟨G.β (.o a0),i0.toNat*k+(j0+z.toNat),none⟩),?_,fun d => .vptr _ _ _ _ _ _ _ hnh hi0 hz0 hz1⟩;simp [execOp,hop,hv,hei,Instr.indexAt,asIntOf,Go.underlying,hT.array ht,Instr.sureAddr,hz0,hz1,hT.size hte,Addr.add_none,hsz,Nat.add_assoc]
theorem b5S {t:TypeId} {s:Nat} (hop:o.op = .load t (.tmp s)) {a0 j mm:Nat} {i z:Int} {cs:List AV} (hs:g s = .vptr a0 0 i j mm z) (hHi:σ.heap[a0]?=some (.cells cs)) {td:TD} (ht:T t=some td) (hsz:td.size=1) (hag:td.isAgg=false)
  {y:D} (hy:cs[j+z.toNat]?=some (.d y)) (hp:put σ.n g o.dst (.d y)=some (ss,h')):a0k P σ o ss h':=by
 refine a0h hgd hp (by simp [hop]) (AV.free_place rfl) ?_;intro G a w R;obtain ⟨⟨hv,hnh,hi⟩,_⟩:=a4m hg R hs;have hjl:j+z.toNat<cs.length:=(zp2.1 hy).1;have hrd:a0V td cs (j+z.toNat)=some (.d y):=by
  unfold a0V cut;rw [hsz,if_pos (by omega)];simp only [hag,Bool.false_eq_true,if_false];have:((cs.drop (j+z.toNat)).take 1).head?=some (.d y):=by
   rw [List.head?_take,if_neg (by omega),List.head?_drop];exact hy
  rw [this];rfl
 obtain ⟨v,hr,_,hrep⟩:=a4l hT ht R (A := .obj a0 (j+z.toNat)) (b:=G.β (.o a0)) (off:=j+z.toNat) ⟨hnh,rfl⟩ (av := .d y) ⟨_,cs,hHi,rfl,hrd⟩;refine ⟨v,?_,fun d=>hrep _⟩;rw [Nat.mul_zero,Nat.zero_add] at hv;simp [execOp,hop,hv,Instr.loadAt,Instr.sureAddr,hr]
theorem b3V {t:TypeId} {s:Nat} {yo:Operand} (hop:o.op = .store t (.tmp s) yo) {a0 j mm:Nat} {i z:Int} {cs:List AV} (hs:g s = .vptr a0 0 i j mm z) (hHi:σ.heap[a0]?=some (.cells cs)) {td:TD} (ht:T t=some td) (hsz:td.size=1)
  {v:D} (hv:opD T g t yo=some v) (h1v:v.isOne=true) (hdst:o.dst=none) (hoff:j+z.toNat<cs.length):a0k P σ o [] (some (σ.heap.set a0 (.cells (cs.set (j+z.toNat) (.d v))))):=by
 have hnd : ∀ c,o.op ≠ .defer c:=by simp [hop]
 intro r n m G a w Q next hm R hn
 obtain ⟨⟨hpt,hnh,hi⟩,_⟩:=a4m hg R hs;rw [Nat.mul_zero,Nat.zero_add] at hpt;have hrv:=a1c hg R hv;obtain ⟨cur,e,hO,hw,hs',hh,hcc⟩:=R.h.objs a0 _ hHi;have hone:=a1Q h1v;obtain ⟨hvs,hvc,hv1⟩:=hrv.cells;have hvs1:(a.eval yo).cells.size=1:=by rw [hvs,hone];rfl
 have hcore:=a2y R (off:=j+z.toNat) (nv:=[.d v]) (vs:=(a.eval yo).cells.toList) hHi hw (by simp;omega) (by simpa using hvs1)
  (fun q hq=>by
   have hq0:q=0:=by simpa using hq
   subst hq0;have:=hvc 0 (by rw [hone];exact Nat.one_pos);simp only [hone,List.getElem_cons_zero] at this;have e0:(a.eval yo).cells.toList.getD 0 Go.undef=(a.eval yo).cells.getD 0 Go.undef:=by simp [List.getD,zp5]
   rw [e0];exact .d _ _ _ this) (by simp [AV.isCell];cases v <;> first | rfl | (simp [D.isOne] at h1v))
 have honev : ∀ x∈(a.eval yo).cells.toList,x.oneCell'=true:=by
  intro x hx;obtain ⟨q,hq,rfl⟩:=List.mem_iff_getElem.1 hx;have hq1:q<(a.eval yo).cells.size:=by simpa using hq
  have:=hv1 q (by omega);simpa [Array.getD,hq1] using this
 have hrun:=a1b hT ht hw (off:=j+z.toNat) (v:=a.eval yo) (by omega) (by omega) honev;refine a2k hnd (w':=w.setRow (G.β (.o a0)) (rowOf cur (j+z.toNat) (a.eval yo).cells.toList)) (by simp [execOp,hop,hpt,Instr.storeAt,Instr.sureAddr,hrun]) (hn _ _ _ ?_ (Ext.setRow hO _));rw [hdst];have hset:a0W cs (j+z.toNat) [AV.d v]=cs.set (j+z.toNat) (.d v):=by
  simp only [a0W,List.length_singleton];rw [List.set_eq_take_append_cons_drop,if_pos hoff];simp
 rw [hset] at hcore;simpa [Act.put] using hcore
theorem b5T (hH : ∀ (i:Nat) (ob:Obj),H[i]?=some ob->σ.heap[i]?=some ob) (hHe:a1E an g o=true->H=σ.heap) (h:a8b Ar.std T an σ.n g H o=some (some (ss,h'))):a0k P σ o ss h':=by
 unfold a8b at h;split at h
 ·rename_i t s i hop;split at h
  ·split at h
   ·simp only [zp3] at h;split at h
    ·rename_i sz mm e zz kz z ht hi;split at h
     ·rename_i td hte;split at h
      ·rename_i hc;simp [Ar.std] at hc;obtain ⟨⟨h1,h2⟩,h3⟩:=hc;split at h
       ·rename_i a0 off hs;exact b1m hT hg hgd hop (.inr ⟨hs,rfl,rfl⟩) ht hte hi h1 h2 h3 h
       ·rename_i a0 k i0 j0 hs;exact b1m hT hg hgd hop (.inl hs) ht hte hi h1 h2 h3 h
       cases h
      cases h
     cases h
    cases h
   cases h
  cases h
 ·rename_i t s hop;split at h
  ·rename_i a0 k i j mm z hs;simp only [zp3] at h;split at h
   ·rename_i td ob ht hHi;split at h
    ·rename_i hc;obtain ⟨hsz,hag⟩:=hc;split at h
     ·rename_i ds hw;split at h
      ·rename_i y hy;refine a0k.ofRep fun ⟨G,a,w,R⟩ => ?_;obtain ⟨_,hz0,hz1⟩:=a4m hg R hs;have hy':ds[z.toNat]?=some y:=by simpa [Ar.std] using hy
       unfold c0E at hw;split at hw
       ·rename_i cs;split at hw
        ·rename_i hkk;obtain ⟨rfl,hlen⟩:=hkk;have hpl:=a3X hw;refine b5S hT hg hgd hop hs (hH _ _ hHi) ht hsz hag ?_ h;have:((cs.drop j).take mm)[z.toNat]?=some (.d y):=by rw [hpl,List.getElem?_map,hy'];rfl
         rw [List.getElem?_take_of_lt (by omega),List.getElem?_drop] at this;exact this
        cases hw
       ·rename_i k' l;split at hw
        ·rename_i hkk;subst hkk;split at hw
         ·rename_i cs hl;split at hw
          ·rename_i hlen;cases hw;have hone:y.isOne=true:=by
            obtain ⟨_,q1,q2,hu,q3⟩:=R.h.objs a0 _ (hH _ _ hHi);have hl':l[i.toNat]?=some (.agg cs):=by simpa [Ar.std] using hl
            have hlt:i.toNat<l.length:=(zp2.1 hl').1;obtain ⟨vs,e,hO,hww,hss,hh1,hh⟩:=q3 (by omega);rw [List.getElem?_take_of_lt (by omega),List.getElem?_drop] at hy';have hjq:j+z.toNat<cs.length:=(zp2.1 hy').1;have hk:cs.length=k':=hu _ (List.mem_of_getElem? hl');have hfg:=a0M hu hl' (j+z.toNat) (by omega);have hfl:=a0e hu;have hmul:i.toNat*k'+k'<=l.length*k':=by rw [<-Nat.succ_mul];exact Nat.mul_le_mul_right _ hlt
            have hj:i.toNat*k'+(j+z.toNat)<(D.flat l).length:=by omega
            rw [zp1 hj] at hfg;have hfg2:(D.flat l)[i.toNat*k'+(j+z.toNat)]=y:=by
             have:(D.agg cs).cells[j+z.toNat]?=some y:=hy';rw [this] at hfg;exact Option.some.inj hfg
            have h3:=hh _ hj;rw [hfg2] at h3;exact a2Q h3 (hh1 _ hj)
           refine b1k hT hg hgd hop (fun R=>(a4m hg R hs).1) (hH _ _ hHi) ht (by simpa [Ar.std] using hl) (av := .d y) ?_ h;rw [List.getElem?_take_of_lt (by omega),List.getElem?_drop] at hy';have hjq:j+z.toNat<cs.length:=(zp2.1 hy').1;unfold a0V cut;rw [hsz,if_pos (by simp [D.cells];omega)];simp only [hag,Bool.false_eq_true,if_false];have:((((D.agg cs).cells.map AV.d).drop (j+z.toNat)).take 1).head?=some (.d y):=by
            rw [List.head?_take,if_neg (by omega),List.head?_drop,List.getElem?_map];show (cs[j+z.toNat]?).map AV.d=_;rw [hy'];rfl
           rw [this];rfl
          cases hw
         cases hw
        cases hw
       cases hw
      cases h
     cases h
    cases h
   cases h
  cases h
 ·rename_i t s yo hop;split at h
  ·rename_i a0 k i j mm z hs;have hHσ:H=σ.heap:=hHe (by simp [a1E,hop,hs]);subst hHσ;simp only [zp3] at h;split at h
   ·rename_i td ob v ht hHi hv hdst;split at h
    ·rename_i hc;obtain ⟨hsz,hone⟩:=hc;simp only [Option.map_eq_some_iff] at h;obtain ⟨ob',hob,he⟩:=h;cases he;refine a0k.ofRep fun ⟨G,a,w,R⟩ => ?_;obtain ⟨_,hz0,hz1⟩:=a4m hg R hs;unfold b7h at hob;split at hob
     ·rename_i cs;split at hob
      ·rename_i hkk;obtain ⟨rfl,hlen⟩:=hkk;split at hob
       ·rename_i ds hpl;cases hob;have hcs:=a3X hpl;have hdl:ds.length=mm:=by
         have:((cs.drop j).take mm).length=(ds.map AV.d).length:=by rw [hcs]
         simp at this;omega
        have e1:cs.take j++(a7q Ar.std z v 0 ds).map .d++cs.drop (j+mm)=cs.set (j+z.toNat) (.d v):=by
         rw [a9s v hz0 (by omega),List.map_set,<-hcs];exact b3U hlen (by omega) _
        rw [e1];exact b3V hT hg hgd hop hs hHi ht hsz hv hone hdst (by omega)
       cases hob
      cases hob
     ·rename_i k' l;split at hob
      ·rename_i hkk;subst hkk;split at hob
       ·rename_i cs hl;split at hob
        ·rename_i hlen;cases hob;have e1:cs.take j++a7q Ar.std z v 0 ((cs.drop j).take mm)++cs.drop (j+mm)=cs.set (j+z.toNat) v:=by
          rw [a9s v hz0 (by simp;omega)];exact b3U hlen (by omega) _
         rw [e1];refine a9p hT hg hgd hop (fun R=>(a4m hg R hs).1) hHi ht hv hdst (by omega) (by rw [a1Q hone,hsz];rfl) (by simpa [Ar.std] using hl) (fun hyk => ?_);replace hyk:cs.length=k':=hyk;refine ⟨by simpa [D.cells] using hyk,by omega,fun q hq => ?_⟩;show (cs.set (j+z.toNat) v)[q]?=if _ then v.cells[q-(j+z.toNat)]? else cs[q]?
         rw [List.getElem?_set,a1Q hone,hsz];by_cases hqj:j+z.toNat=q
         ·rw [if_pos hqj,if_pos (by omega),if_pos (by omega),show q-(j+z.toNat)=0 by omega];rfl
         rw [if_neg hqj,if_neg (by omega)]
        cases hob
       cases hob
      cases hob
     cases hob
    cases h
   cases h
  cases h
 cases h
end
theorem b3W {A:Ar} {T:a0m} {an:Ann} {n:Nat} {g:Nat->AV} {H H':List Obj} {o:Oper} {ss:a2b} (h:a8b A T an n g H o=some (some (ss,some H'))):H.length<=H'.length:=by
 unfold a8b at h;have hput : ∀ {dst v},put n g dst v≠some (ss,some H'):=by
  intro dst v h;obtain ⟨h,_⟩:=a1A h;cases h
 repeat' (split at h)
 all_goals first
  | (cases h;done)
  | (exact absurd (Option.some.inj h) hput)
  | (simp only [zp3,Option.map_eq_some_iff] at h
     obtain ⟨ob',_,he⟩:=h;simp only [Prod.mk.injEq,zp3] at he;rw [<-he.2];simp)
  | (simp at h;done)
theorem b3X {P:Program} {T:a0m} (hT:TOk P T) {σ:St} {g:Nat->AV} {o:Oper} {ss:a2b} {h':Option (List Obj)} {H:List Obj} {an:Ann}
  (hg:Less g σ) (hgd : ∀ d,o.dst=some d->g d=σ.get d) (hH : ∀ (i:Nat) (ob:Obj),H[i]?=some ob->σ.heap[i]?=some ob) (hHe:a1E an g o=true->H=σ.heap)
  (h:a0I Ar.std T an σ.n g H o=some (ss,h')):a0k P σ o ss h':=by
 have h0:=h;cases hop:o.op with
 | move x=>exact a9i hg hgd h (.inl hop)
 | assign x=>exact a9i hg hgd h (.inr hop)
 | pick c a b=>exact b3z hg hgd h hop
 | alloc t=>exact b2e hT hg hgd hHe h hop
 | box t x=>exact b5C hT hg hgd hHe h hop
 | build t ps=>exact b2g hT hg hgd h hop
 | buildSlice t n ps=>exact a6A hT hg hgd h hop
 | load t x=>exact b3E hT hg hgd hH h hop hHe
 | store t x y=>exact b2f hT hg hHe h hop
 | binOp op t x y t'=>exact b2a hg hgd h hop
 | unOp op t x =>
   cases op with
   | not=>exact b3A hg hgd h hop
   | _=>simp [a0I,hop] at h
 | convert s t x=>exact a9h hT hg hgd h hop
 | makeFunc fn a b =>
   cases fn with
   | func f=>exact a8f hg hgd h hop
   | _=>simp [a0I,hop] at h
 | slice t x a b c=>exact b2c hT hg hgd h hop
 | fieldAddr t x f=>exact a7r hT hg hgd h hop
 | field t x f=>exact b2b hT hg hgd h hop
 | indexAddr t x i=>exact a7s hT hg hgd h hop
 | extract x i=>exact a9g hg hgd h hop
 | call c =>
   obtain ⟨callee,args,ts⟩:=c;cases callee with
   | builtin b =>
     cases b with
     | len=>exact b5B hT hg hgd h hop
     | append=>exact b0t hT hg hgd h hop
     | _=>simp [a0I,hop] at h
   | _=>simp [a0I,hop] at h
 | _=>simp [a0I,hop] at h
theorem a9t {P:Program} {T:a0m} (hT:TOk P T) {σ:St} {g:Nat->AV} {o:Oper} {ss:a2b} {h':Option (List Obj)} {H:List Obj} {an:Ann}
  (hg:Less g σ) (hgd : ∀ d,o.dst=some d->g d=σ.get d) (hH : ∀ (i:Nat) (ob:Obj),H[i]?=some ob->σ.heap[i]?=some ob) (hHe:a1E an g o=true->H=σ.heap)
  (h:a2F Ar.std T an σ.n g H o=some (ss,h')):a0k P σ o ss h':=by
 unfold a2F at h;split at h
 ·rename_i r hr;subst h;exact b3L hT hg hgd hr
 split at h
 ·rename_i r hr;subst h;exact b5P hT hg hgd hHe hr
 split at h
 ·rename_i r hr;subst h;exact b5T hT hg hgd hH hHe hr
 split at h
 ·rename_i r hr;subst h;exact b5R hT hg hgd hH hHe hr
 split at h
 ·rename_i r hr;subst h;exact b5O hT hg hgd hH hHe hr
 split at h
 ·rename_i r hr;subst h;exact b5J hT hg hgd hH hHe hr
 exact b3X hT hg hgd hH hHe h
def Post (m:Nat) (G:Gh) (w:World) (Q:Exit->St->Prop):Exit->Act->World->Prop :=
 fun e a' w' => ∃ σ' G',Rel G' σ' a' w'/\Ext m G w G' w'/\m<=G'.nh/\Q e σ'
theorem Post.ext {m:Nat} {G G1:Gh} {w w1:World} {Q:Exit->St->Prop} (h:Ext m G w G1 w1) {e:Exit} {a:Act} {w':World} (hp:Post m G1 w1 Q e a w'):Post m G w Q e a w':=by
 obtain ⟨σ',G',R,hE,hm,hq⟩:=hp;exact ⟨σ',G',R,h.trans hE,hm,hq⟩
def AWp (P:Program) (m:Nat) (c:Code) (Q:Exit->St->Prop) (σ:St):Prop :=
 ∀ (r:Option Nat) (n:Nat) (G:Gh) (a:Act) (w:World),m<=G.nh->Rel G σ a w->c.wpIn (Wd r) n P (Post m G w Q) a w
def a2R (P:Program) (m:Nat) (c:Code) (Q:Exit->St->Prop) (σ:St):Prop :=
 ∀ (n:Nat) (G:Gh) (a:Act) (w:World),m<=G.nh->Rel G σ a w->c.wpIn (Wd none) n P (Post m G w Q) a w
theorem a2R.of {P:Program} {m:Nat} {c:Code} {Q:Exit->St->Prop} {σ:St} (h:AWp P m c Q σ):a2R P m c Q σ:=fun n G a w hm R=>h none n G a w hm R
def AExit.then (K:St->Prop) (Q:Exit->St->Prop):Exit->St->Prop
 | .normal,σ=>K σ
 | e,σ=>Q e σ
def AExit.block (id:Nat) (Q:Exit->St->Prop):Exit->St->Prop
 | .exit j,σ=>if j=id then Q .normal σ else Q (.exit j) σ
 | e,σ=>Q e σ
section
variable {P:Program} {m:Nat} {Q:Exit->St->Prop} {σ:St}
theorem AWp.mono {c:Code} {Q':Exit->St->Prop} (h:AWp P m c Q σ) (hq : ∀ e σ,Q e σ->Q' e σ):AWp P m c Q' σ:=by
 intro r n G a w hm R;refine wpIn_mono (h r n G a w hm R) ?_;rintro e a' w' ⟨σ',G',R',hE,hm',hQ⟩;exact ⟨σ',G',R',hE,hm',hq _ _ hQ⟩
theorem AWp.skip (h:Q .normal σ):AWp P m .skip Q σ:=fun _ _ G _ _ hm R=>wpIn_skip ⟨σ,G,R,Ext.refl _ _ _,hm,h⟩
theorem AWp.exit {id:Nat} (h:Q (.exit id) σ):AWp P m (.exit id) Q σ:=fun _ _ G _ _ hm R=>wpIn_exit ⟨σ,G,R,Ext.refl _ _ _,hm,h⟩
theorem AWp.ret (h:Q .ret σ):AWp P m .ret Q σ:=fun _ _ G _ _ hm R=>wpIn_ret ⟨σ,G,R,Ext.refl _ _ _,hm,h⟩
theorem AWp.seq {x y:Code} (h:AWp P m x (AExit.then (AWp P m y Q) Q) σ):AWp P m (.seq x y) Q σ:=by
 intro r n G a w hm R;refine wpIn_seq (wpIn_mono (h r n G a w hm R) ?_);rintro e a' w' ⟨σ',G',R',hE,hm',hQ⟩;cases e with
 | normal=>exact wpIn_mono (hQ r n G' a' w' hm' R') (fun e a w hp=>hp.ext hE)
 | _=>exact ⟨σ',G',R',hE,hm',hQ⟩
theorem a2R.mono {c:Code} {Q':Exit->St->Prop} (h:a2R P m c Q σ) (hq : ∀ e σ,Q e σ->Q' e σ):a2R P m c Q' σ:=by
 intro n G a w hm R;refine wpIn_mono (h n G a w hm R) ?_;rintro e a' w' ⟨σ',G',R',hE,hm',hQ⟩;exact ⟨σ',G',R',hE,hm',hq _ _ hQ⟩
theorem a2R.seq {x y:Code} (h:a2R P m x (AExit.then (a2R P m y Q) Q) σ):a2R P m (.seq x y) Q σ:=by
 intro n G a w hm R;refine wpIn_seq (wpIn_mono (h n G a w hm R) ?_);rintro e a' w' ⟨σ',G',R',hE,hm',hQ⟩;cases e with
 | normal=>exact wpIn_mono (hQ n G' a' w' hm' R') (fun e a w hp=>hp.ext hE)
 | _=>exact ⟨σ',G',R',hE,hm',hQ⟩
theorem AWp.cond {c:Operand} {x y:Code} {b:Bool} (hc:(match c with | .tmp t=>σ.get t | .const (.bool b) => .d (.bool b) | _ => .undef) = .d (.bool b)) (h:AWp P m (if b then x else y) Q σ):AWp P m (.cond c x y) Q σ:=by
 intro r n G a w hm R;refine wpIn_cond (t:=b) ?_ (h r n G a w hm R);split at hc
 ·rename_i t;have:=R.slots t;rw [hc] at this;show a.tmps.getD t Go.undef=_;generalize a.tmps.getD t Go.undef=v at this;cases this with | d _ _ _ h=>cases h;rfl
 ·rename_i b';simp at hc;subst hc;rfl
 cases hc
theorem AWp.condAny {c:Operand} {x y:Code} (hc:(match c with | .tmp t=>σ.get t | _ => .undef) = .abool) (h1:AWp P m x Q σ) (h2:AWp P m y Q σ):AWp P m (.cond c x y) Q σ:=by
 intro r n G a w hm R;cases c with
 | tmp t =>
   simp only at hc;have:=R.slots t;rw [hc] at this;generalize hv:a.tmps.getD t Go.undef=v at this;cases this with | abool _ b =>
   have hv':a.eval (.tmp t) = .bool b:=hv;cases b with
   | true=>exact wpIn_cond (t:=true) hv' (h1 r n G a w hm R)
   | false=>exact wpIn_cond (t:=false) hv' (h2 r n G a w hm R)
 | _=>cases hc
theorem AWp.block {id:Nat} {c:Code} (h:AWp P m c (AExit.block id Q) σ):AWp P m (.block id c) Q σ:=by
 intro r n G a w hm R;refine wpIn_block (wpIn_mono (h r n G a w hm R) ?_);rintro e a' w' ⟨σ',G',R',hE,hm',hQ⟩;cases e with
 | exit j =>
   simp only [AExit.block] at hQ;simp only [Exit.inBlock];split at hQ
   ·rename_i hj;rw [if_pos hj];exact ⟨σ',G',R',hE,hm',hQ⟩
   rename_i hj;rw [if_neg hj];exact ⟨σ',G',R',hE,hm',hQ⟩
 | _=>exact ⟨σ',G',R',hE,hm',hQ⟩
theorem a2R.block {id:Nat} {c:Code} (h:a2R P m c (AExit.block id Q) σ):a2R P m (.block id c) Q σ:=by
 intro n G a w hm R;refine wpIn_block (wpIn_mono (h n G a w hm R) ?_);rintro e a' w' ⟨σ',G',R',hE,hm',hQ⟩;cases e with
 | exit j =>
   simp only [AExit.block] at hQ;simp only [Exit.inBlock];split at hQ
   ·rename_i hj;rw [if_pos hj];exact ⟨σ',G',R',hE,hm',hQ⟩
   rename_i hj;rw [if_neg hj];exact ⟨σ',G',R',hE,hm',hQ⟩
 | _=>exact ⟨σ',G',R',hE,hm',hQ⟩
theorem AWp.loop {ι:Type} {c:Code} (μ:ι->Nat) (S:ι->St) (i0:ι) (h : ∀ i,AWp P m c (AExit.then (fun σ' => ∃ j,μ j<μ i/\σ'=S j) Q) (S i)):AWp P m (.loop c) Q (S i0):=by
 intro r n G a w hm R b k cs hro hb hr;have key : ∀ (q:Nat) (i:ι),μ i=q -> ∀ (G1:Gh) (a:Act) (w1:World),m<=G1.nh->Rel G1 (S i) a w1->Ext m G w G1 w1 ->
   ∃ e a' w',Post m G w Q e a' w'/\ArrivesIn (Machine.fenced P (Wd r)) P (lone (b.atR a (.code c :: .inLoop c::k)) cs w1) b k cs e a' w':=by
  intro q
  induction q using Nat.strongRecOn with
  | _ q ih =>
    intro i hi G1 a w1 hm1 R1 hE1;obtain ⟨e,a₁,w₁,hq,harr⟩:=h i r n G1 a w1 hm1 R1 b (.inLoop c::k) cs hro hb hr;obtain ⟨σ',G',R',hE,hm',hQ⟩:=hq;cases e with
    | normal =>
      obtain ⟨j,hlt,rfl⟩:=hQ;obtain ⟨e₂,a₂,w₂,hq₂,harr₂⟩:=ih (μ j) (hi▸hlt) j rfl G' a₁ w₁ hm' R' (hE1.trans hE);exact ⟨e₂,a₂,w₂,hq₂,.of_steps (StepsIn.trans harr (.one (fenced_calm hb hr rfl) stepR_inLoop)) harr₂⟩
    | exit id=>exact ⟨_,a₁,w₁,⟨σ',G',R',hE1.trans hE,hm',hQ⟩,.pass (x := .inLoop c) rfl (fun _ _ => .inl (by simp)) harr⟩
    | goto l=>exact ⟨_,a₁,w₁,⟨σ',G',R',hE1.trans hE,hm',hQ⟩,.pass (x := .inLoop c) rfl (fun _ _ => .inl (by simp)) harr⟩
    | ret=>exact ⟨_,a₁,w₁,⟨σ',G',R',hE1.trans hE,hm',hQ⟩,.pass (x := .inLoop c) rfl (fun _ _ => .inl (by simp)) harr⟩
    | panic ch=>exact ⟨_,a₁,w₁,⟨σ',G',R',hE1.trans hE,hm',hQ⟩,.pass (x := .inLoop c) rfl (fun _ _ => .inl (by simp)) harr⟩
    | outgrown=>exact ⟨_,a₁,w₁,⟨σ',G',R',hE1.trans hE,hm',hQ⟩,.pass (x := .inLoop c) rfl (fun _ _ => .inl (by simp)) harr⟩
 obtain ⟨e,a',w',hq,harr⟩:=key _ i0 rfl G a w hm R (Ext.refl _ _ _);exact ⟨e,a',w',hq,.of_steps (.one (fenced_calm hb hr rfl) stepR_loop) harr⟩
end
def a2I (ops:List Oper) (σ:St) (o:Oper):Option Bool :=
 match o.guard with
 | none=>some true
 | some (j,b) =>
   match (ops[j]?).bind (·.dst) with
   | none=>some false
   | some d =>
     match σ.get d with
     | .d (.bool x)=>some (x == b)
     | .tuple []=>some false
     | _=>none
theorem a2A {ops:Array Oper} {σ:St} {o:Oper} {b:Bool} (h:a2I ops.toList σ o=some b) {G:Gh} {a:Act} {w:World} (R:Rel G σ a w):Region.wanted o (yielded ops a.tmps)=b:=by
 unfold a2I at h;unfold Region.wanted;cases hgu:o.guard with
 | none=>simp [hgu] at h;simp [h]
 | some p =>
   obtain ⟨j,b'⟩:=p;simp only [hgu] at h;simp only [yielded];cases hd:(ops[j]?).bind (·.dst) with
   | none =>
     have hd':(ops.toList[j]?).bind (·.dst)=none:=by simpa using hd
     simp only [hd'] at h;simp at h;subst h;simp
   | some d =>
     have hd':(ops.toList[j]?).bind (·.dst)=some d:=by simpa using hd
     simp only [hd'] at h;have hrep:=R.slots d;simp only [Option.bind_some];split at h
     ·rename_i x hx;rw [hx] at hrep;simp at h;generalize hv:a.tmps.getD d Go.undef=v at hrep;cases hrep with | d _ _ _ hr =>
      cases hr;have:a.tmps[d]?=some (.bool x):=by
       rw [zp5] at hv;cases he:a.tmps[d]? with
       | none=>rw [he] at hv;simp [Go.undef] at hv
       | some y=>rw [he] at hv;simpa using hv
      simp only [this];rw [<-h];cases x <;> cases b' <;> rfl
     ·rename_i hx;rw [hx] at hrep;simp at h;subst h;generalize hv:a.tmps.getD d Go.undef=v at hrep;cases hrep with | tuple _ _ vs hs _ _ =>
      have : ∀ x,a.tmps[d]?≠some (.bool x):=by
       intro x he;rw [zp5,he] at hv;simp at hv
      split
      ·rename_i x he;exact absurd he (this x)
      simp
     simp at h
def a2u (P:Program) (m:Nat) (ops:Array Oper) (l:List Oper) (Q:Exit->St->Prop) (σ:St):Prop :=
 ∀ (r:Option Nat) (n:Nat) (G:Gh) (a:Act) (w:World) (Q':Exit->Act->World->Prop),m<=G.nh->Rel G σ a w->(∀ e a' w',Post m G w Q e a' w'->Q' e a' w')->wpListIn (Wd r) n P ops Q' l a w
section
variable {P:Program} {m:Nat} {Q:Exit->St->Prop} {σ:St} {ops:Array Oper} {o:Oper} {l:List Oper}
theorem a2u.nil (h:Q .normal σ):a2u P m ops [] Q σ:=fun _ _ G a w _ hm R hQ=>hQ _ a w ⟨σ,G,R,Ext.refl _ _ _,hm,h⟩
theorem a2u.step {ss:a2b} {h':Option (List Obj)} (hw:a2I ops.toList σ o=some true) (hs:a0k P σ o ss h') (hlen:m<=(σ.upd ss h').heap.length) (h:a2u P m ops l Q (σ.upd ss h')):a2u P m ops (o::l) Q σ:=by
 intro r n G a w Q' hm R hQ;unfold wpListIn;rw [if_pos (a2A hw R)];refine hs r n m G a w Q' _ hm R fun G' a' w' R' hE => ?_;exact h r n G' a' w' Q' (by rw [<-R'.h.nh];exact hlen) R' (fun e a'' w'' hp=>hQ _ _ _ (hp.ext hE))
theorem a2u.skip {d:Nat} (hw:a2I ops.toList σ o=some false) (hd:o.dst=some d) (hlt:d<σ.n) (hb:(σ.get d).isBox=false) (h:a2u P m ops l Q (σ.upd [(d,.tuple [])] none)):a2u P m ops (o::l) Q σ:=by
 intro r n G a w Q' hm R hQ;unfold wpListIn;rw [a2A hw R,if_neg (by simp)];refine ⟨fun _ _=>trivial,?_⟩;rw [hd];exact h r n G _ w Q' hm (R.put (.tuple _ _ #[] rfl (fun i hi=>by simp at hi) (fun c hc=>by simp at hc)) (fun r off e=>by cases e) hb hlt) hQ
theorem a2u.skip0 (hw:a2I ops.toList σ o=some false) (hd:o.dst=none) (h:a2u P m ops l Q σ):a2u P m ops (o::l) Q σ:=by
 intro r n G a w Q' hm R hQ;unfold wpListIn;rw [a2A hw R,if_neg (by simp)];refine ⟨fun _ _=>trivial,?_⟩;rw [hd];exact h r n G _ w Q' hm R hQ
theorem AWp.region {id:Nat} (h:a2u P m ops ops.toList Q σ):AWp P m (.region id ops false) Q σ :=
 fun r n G a w hm R=>wpIn_region_list (h r n G a w _ hm R (fun _ _ _ hp=>hp))
end
theorem b2m {A:Ar} {T:a0m} {an:Ann} {n:Nat} {g:Nat->AV} {H H':List Obj} {o:Oper} {ss:a2b} (h:a0I A T an n g H o=some (ss,some H')):H.length<=H'.length:=by
 have hput : ∀ {dst:Option Tmp} {v:AV},Am.put n g dst v≠some (ss,some H'):=by
  intro dst v e;have:=(a1A e).1;cases this
 have hputO : ∀ {dst:Option Tmp} {v:Option AV},a5Z n g dst v≠some (ss,some H'):=by
  intro dst v e;obtain ⟨x,_,e⟩:=a1w e;exact hput e
 have hmap : ∀ {dst:Option Tmp} {v:AV} {q:a2b×Option (List Obj)->a2b},Option.map (fun p=>(q p,p.2)) (Am.put n g dst v)≠some (ss,some H'):=by
  intro dst v q e;simp only [Option.map_eq_some_iff] at e;obtain ⟨⟨s1,h1⟩,e1,e2⟩:=e;have:=(a1A e1).1;simp at e2;rw [this] at e2;exact absurd e2.2 (by simp)
 have hmap2 : ∀ {dst:Option Tmp} {v:AV} {q:a2b×Option (List Obj)->a2b} {H1:List Obj},H1.length=H.length->Option.map (fun p=>(q p,some H1)) (Am.put n g dst v)=some (ss,some H')->H.length<=H'.length:=by
  intro dst v q H1 hl e;simp only [Option.map_eq_some_iff] at e;obtain ⟨⟨s1,h1⟩,e1,e2⟩:=e;simp at e2;rw [<-e2.2,hl];exact Nat.le_refl _
 cases hop:o.op <;> simp only [a0I,hop,b1d] at h
 all_goals (repeat' split at h)
 all_goals first
  | (cases h;done)
  | (exact absurd h hput)
  | (exact absurd h hputO)
  | (exact absurd h hmap)
  | (exact hmap2 (by simp) h)
  | (simp at h;done)
  | (simp at h;rw [<-h.2];simp;done)
  | (simp at h;obtain ⟨_,_,_,rfl⟩:=h;simp;done)
theorem b3Y {A:Ar} {T:a0m} {an:Ann} {n:Nat} {g:Nat->AV} {H H':List Obj} {o:Oper} {ss:a2b} (h:a8a A T an n g H o=some (some (ss,some H'))):H.length<=H'.length:=by
 unfold a8a at h;split at h
 ·repeat' split at h
  all_goals first
   | (cases h;done)
   | (simp only [zp3] at h;exact absurd (a1A h).1 (by simp))
   | (simp at h;done)
 ·repeat' split at h
  all_goals first
   | (cases h;done)
   | (simp at h;done)
   | (simp only [zp3,Option.map_eq_some_iff] at h
      obtain ⟨p,_,hp⟩:=h;simp only [Prod.mk.injEq,zp3] at hp;rw [<-hp.2];simp)
 cases h
theorem a7G {A:Ar} {T:a0m} {an:Ann} {n:Nat} {g:Nat->AV} {H H':List Obj} {o:Oper} {ss:a2b} (h:a2F A T an n g H o=some (ss,some H')):H.length<=H'.length:=by
 unfold a2F at h;split at h
 ·rename_i r hr;subst h;exact (b0x hr).elim
 split at h
 ·rename_i r hr;subst h;exact b3Y hr
 split at h
 ·rename_i r hr;subst h;exact b3W hr
 split at h
 ·rename_i r hr;subst h;exact b3S hr
 split at h
 ·rename_i r hr;subst h;exact b3M hr
 split at h
 ·rename_i r hr;subst h;exact b3K hr
 exact b2m h
mutual
def AV.inb (m:Nat):AV->Bool
 | .ptr a _ | .map a | .mref a _ _ _ | .mcap a _ _ _ _ | .eptr a _ _ _ | .vptr a _ _ _ _ _ | .yield a=>decide (a<m)
 | .gref a _=>decide (a+2<m)
 | .func _ as bs=>a3L m as&&a3L m bs
 | .agg cs | .tuple cs | .lbox cs=>a3L m cs
 | _=>true
def a3L (m:Nat):List AV->Bool
 | []=>true
 | c::r=>c.inb m&&a3L m r
end
def Obj.inb (m:Nat):Obj->Bool
 | .cells cs=>a3L m cs
 | .loop L=>a3L m (L.env.map (·.2))
 | _=>true
theorem a0R {m:Nat} : ∀ {cs:List AV},a3L m cs=true -> ∀ (i:Nat) (hi:i<cs.length),cs[i].inb m=true
 | c::r,h,0,_=>by simp [a3L] at h;exact h.1
 | c::r,h,i+1,hi=>by simp [a3L] at h;exact a0R h.2 i (by simpa using hi)
theorem a6E {m:Nat} : ∀ {e:List (Nat×AV)},a3L m (e.map (·.2))=true -> ∀ t,(a1T e t).inb m=true
 | [],_,_=>rfl
 | (s,v)::r,h,t=>by
   simp [a3L] at h;simp only [a1T];split
   ·exact h.1
   exact a6E (by simpa using h.2) t
structure Sub (G G':Gh) (w w':World) (S:Loc->Prop) (m:Nat):Prop where
 K:KLe G.K G'.K
 O : ∀ (b:Nat) (ℓ:Loc) (f:Nat),S ℓ->G.O b=some (ℓ,f)->G'.O b=some (ℓ,f)/\w'.heap[b]?=w.heap[b]?
 β : ∀ a,a<m->G'.β (.o a)=G.β (.o a)
 nh:m<=G'.nh
theorem RepV.sub {G G':Gh} {w w':World} (hG:Sane G) {m:Nat} {ℓ:Loc} {av:AV} {v:Value} (h:RepV G w ℓ av v) :
  ∀ {S:Loc->Prop},Sub G G' w w' S m->S ℓ->av.inb m=true->av.isLocal=false->RepV G' w' ℓ av v:=by
 have no : ∀ {S:Loc->Prop},Sub G G' w w' S m->Sub G G' w w' (· = .no) m:=fun hp =>
  ⟨hp.K,fun b ℓ f hr hO=>absurd (hr▸rfl) (hG.no b ℓ f hO),hp.β,hp.nh⟩
 induction h with
 | undef ℓ v=>exact fun _ _ _ _ => .undef ℓ v
 | abool ℓ b=>exact fun _ _ _ _ => .abool ℓ b
 | d ℓ x v h=>exact fun hp _ _ _ => .d ℓ x v (h.mono hp.K)
 | ptr ℓ a off ha=>intro S hp _ hb _;simp [AV.inb] at hb;rw [<-hp.β a hb];exact .ptr ℓ a off (Nat.lt_of_lt_of_le hb hp.nh)
 | nilptr ℓ=>exact fun _ _ _ _ => .nilptr ℓ
 | iptr ℓ cs b off vs hK h1 h=>exact fun hp _ _ _ => .iptr ℓ cs b off vs (fun j hj=>hp.K _ _ (hK j hj)) h1 (fun j hj=>(h j hj).mono hp.K)
 | own ℓ k l v h ht =>
   intro S hp hS _ _;refine .own ℓ k l v (h.mono hp.K) ?_;intro a n cap hv hn;obtain ⟨f,c,e,h1,h2,h3,h4⟩:=ht a n cap hv hn;obtain ⟨h5,h6⟩:=hp.O _ _ _ hS h1;exact ⟨f,c,e,h5,h2,h6.trans h3,h4⟩
 | lim ℓ k l v h ht=>exact fun hp _ _ _ => .lim ℓ k l v (h.mono hp.K) ht
 | tail ℓ k l v h ht =>
   intro S hp hS _ _;refine .tail ℓ k l v (h.mono hp.K) ?_;intro a n cap hv hn;obtain ⟨f,c,e,h1,h2,h3,h4⟩:=ht a n cap hv hn;obtain ⟨h5,h6⟩:=hp.O _ _ _ hS h1;exact ⟨f,c,e,h5,h2,h6.trans h3,h4⟩
 | func ℓ f as bs va vb ha hb _ _ hc hc' ih ih' =>
   intro S hp _ hbl _;simp [AV.inb] at hbl;exact .func ℓ f as bs va vb ha hb (fun i hi=>ih i hi (no hp) rfl (a0R hbl.1 i hi) (hc _ (zp6 hi))) (fun i hi=>ih' i hi (no hp) rfl (a0R hbl.2 i hi) (hc' _ (zp6 hi))) hc hc'
 | nilfunc ℓ=>exact fun _ _ _ _ => .nilfunc ℓ
 | yield ℓ l hl=>intro S hp _ hb _;simp [AV.inb] at hb;rw [<-hp.β l hb];exact .yield ℓ l (Nat.lt_of_lt_of_le hb hp.nh)
 | map ℓ a ha=>intro S hp _ hb _;simp [AV.inb] at hb;rw [<-hp.β a hb];exact .map ℓ a (Nat.lt_of_lt_of_le hb hp.nh)
 | nilmap ℓ=>exact fun _ _ _ _ => .nilmap ℓ
 | lbox t cs vs e hO hw hs _ hc ih=>intro S _ _ _ hl;simp [AV.isLocal] at hl
 | place ℓ r off=>intro S _ _ _ hl;simp [AV.isLocal] at hl
 | mref ℓ a k lo n b off cap ha h1 h2 h3 h4=>intro S hp _ hb _;simp [AV.inb] at hb;exact .mref ℓ a k lo n b off cap (Nat.lt_of_lt_of_le hb hp.nh) h1 h2 h3 (fun h=>by rw [hp.β a hb];exact h4 h)
 | mcap ℓ a k lo n c b off cap ha h1 h2 h3 h4 h5=>intro S hp _ hb _;simp [AV.inb] at hb;exact .mcap ℓ a k lo n c b off cap (Nat.lt_of_lt_of_le hb hp.nh) h1 h2 h3 h4 (fun h=>by rw [hp.β a hb];exact h5 h)
 | gref ℓ a k p ha hc hq=>intro S hp _ hb _;simp [AV.inb] at hb;rw [<-hp.β _ hb,<-hp.β _ (by omega:a+1<_)] at hc;rw [<-hp.β _ hb,<-hp.β _ (by omega:a+1<_)];exact .gref ℓ a k p (Nat.lt_of_lt_of_le hb hp.nh) hc (fun h=>by rw [hp.β _ (by omega:a<_)];exact hq (by rw [<-hp.β _ (by omega:a+1<_)];exact h))
 | fresh ℓ k l v h=>exact fun hp hS _ _ => .fresh ℓ k l v (h.mono hp.K (fun b hO=>hp.O b ℓ 0 hS hO))
 | junk ℓ v h=>exact fun _ _ _ _ => .junk ℓ v h
 | eptr ℓ a k i j ha hi=>intro S hp _ hb _;simp [AV.inb] at hb;rw [<-hp.β a hb];exact .eptr ℓ a k i j (Nat.lt_of_lt_of_le hb hp.nh) hi
 | vptr ℓ a k i j m z ha hi hz hm=>intro S hp _ hb _;simp [AV.inb] at hb;rw [<-hp.β a hb];exact .vptr ℓ a k i j m z (Nat.lt_of_lt_of_le hb hp.nh) hi hz hm
 | agg ℓ cs vs hs _ hc hf ih =>
   intro S hp _ hbl _;simp [AV.inb] at hbl;exact .agg ℓ cs vs hs (fun i hi=>ih i hi (no hp) rfl (a0R hbl i hi) (AV.isLocal_of_isCell (hc _ (zp6 hi)))) hc hf
 | tuple ℓ cs vs hs _ hc ih =>
   intro S hp _ hbl _;simp [AV.inb] at hbl;exact .tuple ℓ cs vs hs (fun i hi=>ih i hi (no hp) rfl (a0R hbl i hi) (hc _ (zp6 hi))) hc
def Obj.okAt (m i:Nat) (ob:Obj):Prop:=ob.inb m=true /\ ∀ k l,ob = .gro k l->i+2<m
theorem a2w.sub {G G':Gh} {w w':World} (hG:Sane G) {i m:Nat} {ob:Obj} (h:a2w G w i ob) (hi:i<m) {S:Loc->Prop} (hp:Sub G G' w w' S m) (hS:S (.o i)) (hSc : ∀ j,S (.oc i j)) (hb:ob.okAt m i):a2w G' w' i ob:=by
 obtain ⟨hb,hbg⟩:=hb;cases ob with
 | cells cs =>
   obtain ⟨vs,e,h1,h2,h3,h4,h5⟩:=h;obtain ⟨h6,h7⟩:=hp.O _ _ _ hS h1;have hβ:=hp.β i hi;rw [<-hβ] at h2 h6 h7;exact ⟨vs,e,h6,h7.trans h2,h3,fun j hj=>(h4 j hj).sub hG hp (hSc j) (a0R hb j hj) (AV.isLocal_of_isCell (h5 _ (zp6 hj))),h5⟩
 | arr k l =>
   obtain ⟨vs,e,h1,h2,h3,h4,h8,h5⟩:=h;obtain ⟨h6,h7⟩:=hp.O _ _ _ hS h1;have hβ:=hp.β i hi;rw [<-hβ] at h2 h6 h7;exact ⟨vs,e,h6,h7.trans h2,h3,h4,h8,fun j hj=>(h5 j hj).mono hp.K⟩
 | map agg ks es =>
   obtain ⟨ms,clock,h1,h2,h3⟩:=h;obtain ⟨h6,h7⟩:=hp.O _ _ _ hS h1;have hβ:=hp.β i hi;rw [<-hβ] at h2 h6 h7;exact ⟨ms,clock,h6,h7.trans h2,h3.mono hp.K⟩
 | loop L =>
   obtain ⟨fn,tmps,D,h1,h2,h3,h4,h5⟩:=h;obtain ⟨h6,h7⟩:=hp.O _ _ _ hS h1;have hβ:=hp.β i hi;rw [<-hβ] at h2 h6 h7;refine ⟨fn,tmps,D,h6,h7.trans h2,h3,fun t => ?_,h5⟩;have hl:(a1T L.env t).isLocal=false:=by
    have:=h5 t;generalize a1T L.env t=c at this;cases c <;> first | rfl | (simp [AV.free] at this)
   exact (h4 t).sub hG (⟨hp.K,fun b ℓ f hr hO=>absurd (hr▸rfl) (hG.no b ℓ f hO),hp.β,hp.nh⟩:Sub G G' w w' (· = .no) m) rfl (a6E hb t) hl
 | gro k l =>
   obtain ⟨g0,g1,g2,g3,g4⟩:=h;have g0':=hbg k l rfl;have b0:=hp.β i hi;have b1:=hp.β (i+1) (by omega);have b2:=hp.β (i+2) g0';refine ⟨Nat.lt_of_lt_of_le g0' hp.nh,by rw [b2];exact g1,by rw [b1];exact g2,g3,fun hc => ?_⟩;rw [b1] at hc;obtain ⟨vs,e,h1,h2,h3,h8,h5⟩:=g4 hc;obtain ⟨h6,h7⟩:=hp.O _ _ _ hS h1;rw [<-b0] at h2 h6 h7;exact ⟨vs,e,h6,h7.trans h2,by rw [b1];exact h3,h8,fun j hj=>(h5 j hj).mono hp.K⟩
 | dead=>trivial
def a0s (m:Nat):List Obj->Bool
 | []=>true
 | o::r=>o.inb m&&(match o with | .gro .. => Nat.ble 2 r.length | _=>true)&&a0s m r
def a1N (P:Program) (f:FuncId):Bool :=
 match P.funcs[f]? with
 | some fn=>fn.name != "runtime.NumGoroutine" && fn.body.isSome
 | none=>false
def a0c (P:Program) (f:FuncId) (args:List AV) (H:List Obj) (r:AV) (H':List Obj):Prop :=
 a1N P f=true/\r.isLocal=false/\r.inb H'.length=true/\a0s H'.length H'=true/\H.length<=H'.length /\ ∀ (n:Nat) (G:Gh) (w:World) (vs:Array Value),vs.size=args.length->(∀ (i:Nat) (hi:i<args.length),RepV G w .no args[i] (vs.getD i Go.undef))->RelH G H w ->
  (∀ b ℓ f,G.O b=some (ℓ,f) -> ∃ i,ℓ.root = .o i) ->
  CallsIn (Wd none) n P f vs w (fun e w' => ∃ v G',e = .returned v/\RepV G' w' .ret r v/\RelH G' H' w'/\Ext H.length G w G' w')
def a7u:Nat->List AV->List (Nat×AV)
 | _,[]=>[]
 | i,v::r=>(i,v)::a7u (i+1) r
theorem a5s : ∀ (args:List AV) (i t:Nat),a1T (a7u i args) t=if i<=t/\t<i+args.length then args.getD (t-i) .undef else .undef
 | [],i,t=>by simp [a7u,a1T]
 | v::r,i,t=>by
   simp only [a7u,a1T,List.length_cons];by_cases h:i=t
   ·subst h;simp
   rw [if_neg h,a5s r (i+1) t];by_cases h2:i+1<=t/\t<i+1+r.length
   ·rw [if_pos h2,if_pos (by omega),show t-i=(t-(i+1))+1 by omega];simp
   rw [if_neg h2,if_neg (by omega)]
def a7H (T:a0m) (σ:St) (own:Bool):ResultVar->Option AV
 | .tmp t=>match σ.get t with
   | .lbox _ | .place .. | .fresh .. => none
   | .lim k l=>some (.d (.list k l))
   | .tail k l=>some (.d (.list k l))
   | v=>some (if own then v else v.copy)
 | .cell t ty=>match σ.get t,T ty with
   | .lbox cs,some td=>a0V td cs 0
   | .ptr i off,some td=>match σ.heap[i]? with
     | some (.cells cs)=>a0V td cs off
     | some (.arr _ l)=>if off=0/\td.isAgg=true/\l.length=td.size/\l.all D.isOne=true then some (.d (.agg l)) else none
     | _=>none
   | _,_=>none
def b8d (T:a0m) (σ:St):List ResultVar->Option AV
 | [x]=>a7H T σ true x
 | l=>(l.mapM (a7H T σ false)).map .tuple
def a7I (T:a0m) (fn:Func) (m:Nat) (r:AV) (H':List Obj):Exit->St->Prop
 | .normal,σ | .ret,σ=>b8d T σ fn.results.toList=some r/\r.inb H'.length=true/\a0s H'.length H'=true/\m<=H'.length /\ ∃ junk,σ.heap=H'++junk
 | _,_=>False
def a1n (m:Nat):Loc->Bool
 | .o i | .oc i _=>decide (i<m)
 | _=>false
def Gh.handed (G:Gh) (m:Nat):Gh :=
 { K:=G.K,β:=G.β,nh:=m
   O:=fun b=>match G.O b with
    | some (ℓ,f)=>if a1n m ℓ then some (ℓ,f) else none
    | none=>none }
theorem a2B {G:Gh} {m b:Nat} {ℓ:Loc} {f:Nat} (h:(G.handed m).O b=some (ℓ,f)):G.O b=some (ℓ,f)/\a1n m ℓ=true:=by
 simp only [Gh.handed] at h;split at h
 ·split at h
  ·rename_i ℓ' f' hO hl;simp at h;obtain ⟨rfl,rfl⟩:=h;exact ⟨hO,hl⟩
  cases h
 cases h
theorem a3A {G:Gh} {m b:Nat} (h : ∀ ℓ f,G.O b=some (ℓ,f)->a1n m ℓ=false):(G.handed m).O b=none:=by
 simp only [Gh.handed];split
 ·rename_i ℓ f hO;rw [h ℓ f hO];rfl
 rfl
theorem a6F {m:Nat} : ∀ {H:List Obj},a0s m H=true -> ∀ (i:Nat) (ob:Obj),H[i]?=some ob->ob.inb m=true
 | o::r,h,0,ob,e=>by simp only [a0s,zp4] at h;simp at e;subst e;exact h.1.1
 | o::r,h,i+1,ob,e=>by simp only [a0s,zp4] at h;exact a6F h.2 i ob (by simpa using e)
theorem a6G {m:Nat} : ∀ {H:List Obj},a0s m H=true -> ∀ (i:Nat) (k:Nat) (l:List D),H[i]?=some (.gro k l)->i+2<H.length
 | o::r,h,0,k,l,e=>by simp at e;subst e;simp only [a0s,zp4] at h;have:=Nat.le_of_ble_eq_true h.1.2;simp;omega
 | o::r,h,i+1,k,l,e=>by simp only [a0s,zp4] at h;have:=a6G h.2 i k l (by simpa using e);simp;omega
theorem a3B {m:Nat} {H:List Obj} (h:a0s m H=true) (i:Nat) (ob:Obj) (e:H[i]?=some ob) (hl:H.length<=m:=by first | exact Nat.le_refl _ | (simp;done) | (simp;omega) | omega):ob.okAt m i :=
 ⟨a6F h i ob e,fun k l he=>Nat.lt_of_lt_of_le (a6G h i k l (by rw [e,he])) hl⟩
theorem RelH.handed {G:Gh} {H rest:List Obj} {w:World} (R:RelH G (H++rest) w) (hc:a0s H.length H=true):RelH (G.handed H.length) H w:=by
 have hm:H.length<=G.nh:=by rw [<-R.nh];simp
 have hsub:Sub G (G.handed H.length) w w (fun ℓ=>a1n H.length ℓ=true) H.length :=
  ⟨KLe.refl _,fun b ℓ f hl hO=>⟨by simp [Gh.handed,hO,hl],rfl⟩,fun _ _=>rfl,Nat.le_refl _⟩
 refine ⟨⟨fun b ℓ f h=>R.sane.no b ℓ f (a2B h).1⟩,rfl,fun i ob hob => ?_,R.kept,fun b ℓ f h=>R.disj b ℓ f (a2B h).1⟩;have hi:i<H.length:=(zp2.1 hob).1;exact (R.objs i ob (by rw [zp7 hi];exact hob)).sub R.sane hi hsub (by simp [a1n,hi]) (fun j=>by simp [a1n,hi]) (a3B hc i ob hob)
def Gh.foreign (G:Gh) (m b:Nat):Bool :=
 match G.O b with
 | some (ℓ,_) => !a1n m ℓ
 | none=>false
def Gh.back (G G3:Gh) (m k d q:Nat):Gh :=
 { K:=G3.K
   O:=fun b=>if G.foreign m b then G.O b else
    match G3.O b with
    | some (ℓ,f)=>if a1n k ℓ then some (ℓ,f) else if ℓ = .ret then some (.s d,f) else none
    | none=>none
   β:=fun
    | .o i=>if i<k then G3.β (.o i) else G.β (.o i)
    | r=>G.β r
   nh:=k+q }
theorem b7i {G G3:Gh} {m k d q b:Nat} {ℓ:Loc} {f:Nat} (h:(G.back G3 m k d q).O b=some (ℓ,f)) :
  (G.foreign m b=true/\G.O b=some (ℓ,f))\/(G.foreign m b=false /\ ∃ ℓ',G3.O b=some (ℓ',f)/\((a1n k ℓ'=true/\ℓ=ℓ')\/(ℓ' = .ret/\ℓ = .s d))):=by
 simp only [Gh.back] at h;split at h
 ·rename_i hf;exact .inl ⟨hf,h⟩
 rename_i hf;refine .inr ⟨by simpa using hf,?_⟩;split at h
 ·rename_i ℓ' f' hO;split at h
  ·rename_i hl;simp at h;obtain ⟨rfl,rfl⟩:=h;exact ⟨_,hO,.inl ⟨hl,rfl⟩⟩
  split at h
  ·rename_i hr;simp at h;obtain ⟨rfl,rfl⟩:=h;exact ⟨_,hO,.inr ⟨hr,rfl⟩⟩
  cases h
 cases h
theorem Rel.backO {G G3:Gh} {σ:St} {a:Act} {w w':World} (R:Rel G σ a w) {H rest H':List Obj} (hH:σ.heap=H++rest) (hr:rest=[]\/H'.length=H.length) (hHH:H.length<=H'.length)
  (R3:RelH G3 H' w') (hE:Ext H.length (G.handed H.length) w G3 w') (hin:a0s H'.length H'=true) {d:Option Nat} {r:AV} {v:Value} (hv:RepV G3 w' .ret r v) (hrl:r.isLocal=false) (hri:r.inb H'.length=true)
  (hd : ∀ x,d=some x->x<σ.n/\(σ.get x).isBox=false) :
  Rel (G.back G3 H.length H'.length (d.getD 0) rest.length) { σ with env:=(match d with | some x=>a3d σ.env x r | none=>σ.env),heap:=H'++rest } (a.put d v) w' /\
   ∀ m,m<=G.nh->Ext m G w (G.back G3 H.length H'.length (d.getD 0) rest.length) w':=by
 let Gf:=G.back G3 H.length H'.length (d.getD 0) rest.length;have hnh:G.nh=H.length+rest.length:=by rw [<-R.h.nh,hH];simp

 have hfor : ∀ b ℓ f,G.O b=some (ℓ,f)->a1n H.length ℓ=false->Gf.O b=some (ℓ,f)/\w'.heap[b]?=w.heap[b]?/\G3.O b=none:=by
  intro b ℓ f hO hl;have hc:(G.handed H.length).O b=none:=a3A fun ℓ' f' h'=>by rw [hO] at h';simp at h';obtain ⟨rfl,_⟩:=h';exact hl
  obtain ⟨h1,h2⟩:=hE.others b (R.h.disj b ℓ f hO).1 hc;refine ⟨?_,h1,h2⟩;have:G.foreign H.length b=true:=by simp [Gh.foreign,hO,hl]
  simp only [Gf,Gh.back,this,if_true,hO]

 have hback : ∀ b ℓ f,G3.O b=some (ℓ,f)->(a1n H'.length ℓ=true->Gf.O b=some (ℓ,f))/\(ℓ = .ret->Gf.O b=some (.s (d.getD 0),f)):=by
  intro b ℓ f hO;have hnf:G.foreign H.length b=false:=by
   cases hG:G.O b with
   | none=>simp [Gh.foreign,hG]
   | some p =>
     obtain ⟨ℓ',f'⟩:=p;cases hl:a1n H.length ℓ' with
     | true=>simp [Gh.foreign,hG,hl]
     | false=>rw [(hfor b ℓ' f' hG hl).2.2] at hO;cases hO
  constructor
  ·intro hl;simp only [Gf,Gh.back,hnf,hO];simp [hl]
  rintro rfl;simp only [Gf,Gh.back,hnf,hO];simp [a1n]
 have hβ : ∀ i,i<G.nh->Gf.β (.o i)=G.β (.o i):=by
  intro i hi;simp only [Gf,Gh.back];split
  ·rename_i hk;rcases Nat.lt_or_ge i H.length with h | h
   ·exact hE.β i h
   rcases hr with rfl | hr
   ·simp at hnh;omega
   omega
  rfl
 have hp1:Pres G Gf w w' (fun ℓ=>a1n H.length ℓ=false) :=
  ⟨hE.K,fun b ℓ f hl hO=>⟨(hfor b ℓ f hO hl).1,(hfor b ℓ f hO hl).2.1⟩,hβ,by simp only [Gf,Gh.back];omega⟩
 have hp2:Sub G3 Gf w' w' (fun ℓ=>a1n H'.length ℓ=true) H'.length :=
  ⟨KLe.refl _,fun b ℓ f hl hO=>⟨(hback b ℓ f hO).1 hl,rfl⟩,fun i hi=>by simp [Gf,Gh.back,hi],by simp [Gf,Gh.back]⟩
 have hslots : ∀ t,RepV Gf w' (.s t) (σ.get t) (a.tmps.getD t Go.undef):=fun t=>(R.slots t).pres R.h.sane hp1 rfl (fun _ _ _=>rfl) (fun _ _ _=>⟨rfl,fun j=>rfl⟩);refine ⟨⟨⟨⟨fun b ℓ f h => ?_⟩,by simp [Gf,Gh.back],fun i ob hob => ?_,R3.kept,fun b ℓ f h => ?_⟩,by cases d <;> simpa [Act.put] using R.size,?_,?_,?_⟩,fun m hm => ?_⟩
 ·rcases b7i h with ⟨_,hO⟩ | ⟨_,ℓ',hO,⟨hl,rfl⟩ | ⟨rfl,rfl⟩⟩
  ·exact R.h.sane.no b ℓ f hO
  ·exact R3.sane.no b ℓ f hO
  simp [Loc.root]
 ·rcases Nat.lt_or_ge i H'.length with hi | hi
  ·simp only [zp7 hi] at hob;exact (R3.objs i ob hob).sub R3.sane hi hp2 (by simp [a1n,hi]) (fun j=>by simp [a1n,hi]) (a3B hin i ob hob)
  simp only [zp8 hi] at hob;have hlen:H'.length=H.length:=by
   rcases hr with rfl | hr
   ·simp at hob
   exact hr
  have hob':σ.heap[i]?=some ob:=by rw [hH,zp8 (by omega),<-hlen];exact hob
  exact (R.h.objs i ob hob').pres R.h.sane (by rw [<-R.h.nh];exact (zp2.1 hob').1) hp1 (by simp [a1n];omega) (fun j=>by simp [a1n];omega)
 ·rcases b7i h with ⟨hf,hO⟩ | ⟨_,ℓ',hO,_⟩
  ·obtain ⟨h1,h2⟩:=R.h.disj b ℓ f hO;refine ⟨Nat.lt_of_lt_of_le h1 hE.size,fun j hj => ?_⟩;have hl:a1n H.length ℓ=false:=by simpa [Gh.foreign,hO] using hf
   cases hK:Gf.K ⟨b,j,none⟩ with
   | none=>rfl
   | some x =>
     rcases hE.new ⟨b,j,none⟩ x hK with h3 | ⟨p,h3⟩ | h3
     ·rw [show (G.handed H.length).K=G.K from rfl,h2 j hj] at h3;cases h3
     ·obtain ⟨ℓ',f'⟩:=p;obtain ⟨h4,h5⟩:=a2B h3;rw [hO] at h4;simp at h4;obtain ⟨rfl,_⟩:=h4;rw [hl] at h5;cases h5
     simp at h3;omega
  exact R3.disj b ℓ' f hO
 ·intro t;cases d with
  | none=>exact hslots t
  | some d =>
  obtain ⟨hlt,hb⟩:=hd d rfl;have hd':d<a.tmps.size:=by rw [R.size];exact hlt
  simp only [Act.put,a1G _ _ _ _ hd',St.get,a0f];split
  ·rename_i e;subst e;by_cases hfree:r.free=true
   ·exact ((hv.anywhere hfree .no).sub R3.sane (⟨KLe.refl _,fun b ℓ f hl hO=>absurd (hl▸rfl) (R3.sane.no b ℓ f hO),hp2.β,hp2.nh⟩:Sub G3 Gf w' w' (fun ℓ=>ℓ = .no) H'.length) rfl hri hrl).anywhere hfree _
   cases r <;> first | (simp [AV.free] at hfree;done) | (simp [AV.isLocal] at hrl;done) | skip
   ·cases hv with | own _ k l v h ht =>
    refine .own _ _ _ _ h ?_;intro a' n cap e hn;obtain ⟨f,c,e',h1,h2,h3,h4⟩:=ht a' n cap e hn;exact ⟨f,c,e',(hback _ _ _ h1).2 rfl,h2,h3,h4⟩
   ·cases hv with | lim _ k l v h ht =>
    exact .lim _ _ _ _ h ht
   ·cases hv with | tail _ k l v h ht =>
    refine .tail _ _ _ _ h ?_;intro a' n cap e hn;obtain ⟨f,c,e',h1,h2,h3,h4⟩:=ht a' n cap e hn;exact ⟨f,c,e',(hback _ _ _ h1).2 rfl,h2,h3,h4⟩
   cases hv with | fresh _ k l v h =>
   exact .fresh _ _ _ _ (h.mono (KLe.refl _) (fun b hO=>⟨(hback _ _ _ hO).2 rfl,rfl⟩))
  exact hslots t
 ·intro t r' off ht;cases d with
  | none=>exact R.places t r' off ht
  | some d =>
  obtain ⟨hlt,hb⟩:=hd d rfl;simp only [St.get,a0f] at ht ⊢;split at ht
  ·subst ht;simp [AV.isLocal] at hrl
  obtain ⟨cs,hcs⟩:=R.places t r' off ht;refine ⟨cs,?_⟩;split
  ·rename_i e;subst e;rw [hcs] at hb;simp [AV.isBox] at hb
  exact hcs
 ·have hdf:(a.put d v).defers=a.defers:=by cases d <;> rfl
  rw [hdf];refine ⟨R.df.1,fun x hx => ?_⟩;obtain ⟨r0,h1,h2,h3⟩:=R.df.2 x hx;obtain ⟨h4,h5,_⟩:=hfor _ _ _ h2 rfl;exact ⟨r0,h1,h4,h5.trans h3⟩
 refine ⟨hE.K,fun x v hx => ?_,fun b hb hO => ?_,hE.size,fun i hi=>hβ i (by omega),hE.io⟩
 ·rcases hE.new x v hx with h | ⟨p,h⟩ | h
  ·exact .inl h
  ·obtain ⟨ℓ,f⟩:=p;exact .inr (.inl ⟨_,(a2B h).1⟩)
  exact .inr (.inr h)
 have hc:(G.handed H.length).O b=none:=a3A fun ℓ f h=>by rw [hO] at h;cases h
 obtain ⟨h1,h2⟩:=hE.others b hb hc;refine ⟨h1,?_⟩;have:G.foreign H.length b=false:=by simp [Gh.foreign,hO]
 simp [Gh.back,this,h2]
theorem Rel.back {G G3:Gh} {σ:St} {a:Act} {w w':World} (R:Rel G σ a w) {H rest H':List Obj} (hH:σ.heap=H++rest) (hr:rest=[]\/H'.length=H.length) (hHH:H.length<=H'.length)
  (R3:RelH G3 H' w') (hE:Ext H.length (G.handed H.length) w G3 w') (hin:a0s H'.length H'=true) {d:Nat} {r:AV} {v:Value} (hv:RepV G3 w' .ret r v) (hrl:r.isLocal=false) (hri:r.inb H'.length=true)
  (hlt:d<σ.n) (hb:(σ.get d).isBox=false) :
  Rel (G.back G3 H.length H'.length d rest.length) { σ with env:=a3d σ.env d r,heap:=H'++rest } (a.put (some d) v) w' /\
   ∀ m,m<=G.nh->Ext m G w (G.back G3 H.length H'.length d rest.length) w':=by
 have:=R.backO (d:=some d) hH hr hHH R3 hE hin hv hrl hri (fun x e=>by cases e;exact ⟨hlt,hb⟩);exact this
theorem a5t {r:Option Nat} {n:Nat} {P:Program} {f:FuncId} {args:Array Value} {w:World} {R:Ending->World->Prop} (h:CallsIn (Wd none) n P f args w R):CallsIn (Wd r) n P f args w R:=h
def a2S (T:a0m) (σ:St) (o:Oper):Option (FuncId×List AV) :=
 match o.op with
 | .call { callee := .value x,args,argTypes } =>
   match (match x with | .func f=>some (f,[],[]) | .tmp t=>(match σ.get t with | .func f as bs=>some (f,as,bs) | _=>none) | _=>none),((args.toList.zip argTypes.toList).mapM fun p=>opv T σ.get p.2 p.1) with
   | some (f,as,bs),some vs=>if args.size=argTypes.size then some (f,as++vs.map AV.copy++bs) else none
   | _,_=>none
 | _=>none
theorem mapM_some {α β:Type} {f:α->Option β} : ∀ {xs:List α} {ys:List β},xs.mapM f=some ys->ys.length=xs.length /\ ∀ (i:Nat) (hi:i<xs.length) (hi':i<ys.length),f xs[i]=some ys[i]
 | [],ys,h=>by simp at h;subst h;exact ⟨rfl,fun i hi=>by simp at hi⟩
 | x::r,ys,h=>by
   simp only [List.mapM_cons,Option.bind_eq_bind,Option.bind_eq_some_iff,Option.pure_def,zp3] at h;obtain ⟨v,hv,l',hl',rfl⟩:=h;obtain ⟨e1,e2⟩:=mapM_some hl';refine ⟨by simp [e1],fun i hi hi' => ?_⟩;cases i with
   | zero=>exact hv
   | succ i=>exact e2 i (by simpa using hi) (by simpa using hi')
theorem a4n {G:Gh} {w:World} {A B:List AV} {va vb:Array Value} (ha:va.size=A.length) (hb:vb.size=B.length) (h1 : ∀ (i:Nat) (hi:i<A.length),RepV G w .no A[i] (va.getD i Go.undef))
  (h2 : ∀ (i:Nat) (hi:i<B.length),RepV G w .no B[i] (vb.getD i Go.undef)):(va++vb).size=(A++B).length /\ ∀ (i:Nat) (hi:i<(A++B).length),RepV G w .no (A++B)[i] ((va++vb).getD i Go.undef):=by
 refine ⟨by simp [ha,hb],fun i hi => ?_⟩;simp at hi;by_cases c:i<A.length
 ·rw [List.getElem_append_left c];simpa [zp5,Array.getElem?_append_left (show i<va.size by omega)] using h1 i c
 rw [List.getElem_append_right (by omega)];have:=h2 (i-A.length) (by omega);simpa [zp5,Array.getElem?_append_right (show va.size<=i by omega),ha] using this
theorem a8n (σ:St):Less σ.get σ:=fun _ => .inl rfl
section
variable {P:Program} {T:a0m} {m:Nat} {Q:Exit->St->Prop} {σ:St} {ops:Array Oper} {o:Oper} {l:List Oper}
theorem a6H {f:FuncId} {args:List AV} (h:a2S T σ o=some (f,args)) (hc:a1N P f=true) {G:Gh} {a:Act} {w:World} (R:Rel G σ a w) :
  (∀ c,o.op ≠ .defer c) /\ ∃ vs:Array Value,(execOp a.eval o).run P w = .ok (.enter f vs) w/\vs.size=args.length /\ ∀ (i:Nat) (hi:i<args.length),RepV G w .no args[i] (vs.getD i Go.undef):=by
 unfold a2S at h;split at h
 ·rename_i x xs ts hop;refine ⟨by simp [hop],?_⟩;split at h
  ·rename_i f' as bs vs hfn hvs;split at h
   ·rename_i hsz;simp at h;obtain ⟨rfl,rfl⟩:=h;obtain ⟨e1,e2⟩:=mapM_some hvs

    have hfv : ∃ va vb:Array Value,a.eval x = .func (.func f') va vb/\va.size=as.length/\vb.size=bs.length /\
      (∀ (i:Nat) (hi:i<as.length),RepV G w .no as[i] (va.getD i Go.undef)) /\ ∀ (i:Nat) (hi:i<bs.length),RepV G w .no bs[i] (vb.getD i Go.undef):=by
     cases x with
     | func q =>
       simp at hfn;obtain ⟨rfl,rfl,rfl⟩:=hfn;exact ⟨#[],#[],rfl,rfl,rfl,fun i hi=>by simp at hi,fun i hi=>by simp at hi⟩
     | tmp t =>
       simp only at hfn;split at hfn
       ·rename_i f'' as' bs' hg;simp at hfn;obtain ⟨rfl,rfl,rfl⟩:=hfn;have hrep:=R.slots t;rw [hg] at hrep;show ∃ va vb:Array Value,a.tmps.getD t Go.undef=_/\_;generalize a.tmps.getD t Go.undef=v at hrep;cases hrep with | func _ _ _ _ va vb ha hb h1 h2 _ _=>exact ⟨va,vb,rfl,ha,hb,h1,h2⟩
       cases hfn
     | _=>simp at hfn
    obtain ⟨va,vb,hx,ha,hb,h1,h2⟩:=hfv;have hcall:(callFunc f' (va++xs.map a.eval++vb)).run P w = .ok (.enter f' (va++xs.map a.eval++vb)) w:=by
     unfold a1N at hc;unfold callFunc;simp only [Sem.run_bind,run_program,Result.andThen_ok];split at hc
     ·rename_i fn hfn';simp at hc;rw [hfn'];simp [hc.1,Option.isSome_iff_ne_none.1 hc.2]
     cases hc
    have hlv:(xs.map a.eval).size=(vs.map AV.copy).length:=by simp [e1];omega
    have hmid : ∀ (i:Nat) (hi:i<(vs.map AV.copy).length),RepV G w .no (vs.map AV.copy)[i] ((xs.map a.eval).getD i Go.undef):=by
     intro i hi;simp at hi;have hz:i<(xs.toList.zip ts.toList).length:=by omega
     have:=(a1l (a8n σ) R (e2 i hz hi) .no).1.copy .no;have hxs:i<xs.size:=by simp at hz;omega
     simpa [zp5,hxs] using this
    obtain ⟨k1,k2⟩:=a4n ha hlv h1 hmid;obtain ⟨k3,k4⟩:=a4n k1 hb k2 h2;have hrun:(execOp a.eval o).run P w = .ok (.enter f' (va++xs.map a.eval++vb)) w:=by
     simp only [execOp,hop,Sem.run_bind,resolve,hx,Deferred.ofValue,Sem.run_pure,Result.andThen_ok,invoke];exact hcall
    refine ⟨va++xs.map a.eval++vb,hrun,?_⟩;rw [List.append_assoc] at k3 k4;exact ⟨k3,k4⟩
   cases h
  cases h
 cases h
theorem a2u.call {f:FuncId} {args:List AV} {H rest H':List Obj} {r:AV} {d:Nat} (hw:a2I ops.toList σ o=some true) (hcall:a2S T σ o=some (f,args)) (hH:σ.heap=H++rest)
  (hr:rest=[]\/H'.length=H.length) (hin:a0s H.length H=true) (hargs:a3L H.length args=true) (hd:o.dst=some d) (hlt:d<σ.n) (hb:(σ.get d).isBox=false)
  (hfr:args.all AV.free=true) (hc:a0c P f args H r H') (h:a2u P m ops l Q { σ with env:=a3d σ.env d r,heap:=H'++rest }):a2u P m ops (o::l) Q σ:=by
 intro rr n G a w Q' hm' R hQ;unfold wpListIn;rw [if_pos (a2A hw R)];obtain ⟨hcb,hrl,hri,hin',hHH,hcc⟩:=hc;obtain ⟨hnd,vs,hrun,hvs,hrep⟩:=a6H hcall hcb R;have RH:RelH G (H++rest) w:=by rw [<-hH];exact R.h
 have hRh:=RH.handed hin;have hfr' : ∀ c∈args,c.free=true:=by simpa using hfr
 have hsub:Sub G (G.handed H.length) w w (fun ℓ=>ℓ = .no) H.length :=
  ⟨KLe.refl _,fun b ℓ f hl hO=>absurd (hl▸rfl) (R.h.sane.no b ℓ f hO),fun _ _=>rfl,Nat.le_refl _⟩
 refine ⟨fun _ _=>trivial,?_⟩;rw [Oper.semAt_eq _ _ _ hnd,hrun];refine ⟨fun hh=>by simp [Wd] at hh,?_⟩;refine CallsIn.mono (a5t (hcc (n-1) (G.handed H.length) w vs hvs (fun i hi => ?_) hRh (fun b ℓ f hO => ?_))) ?_
 ·exact (hrep i hi).sub R.h.sane hsub rfl (a0R hargs i hi) (AV.free_isLocal (hfr' _ (zp6 hi)))
 ·have:=(a2B hO).2;cases ℓ <;> simp [a1n] at this
  ·rename_i i;exact ⟨i,rfl⟩
  rename_i i j;exact ⟨i,rfl⟩
 rintro e w' ⟨v,G3,rfl,hv,R3,hE⟩;obtain ⟨R',hext⟩:=R.back hH hr hHH R3 hE hin' hv hrl hri hlt hb;show wpListIn _ _ _ _ _ _ (a.put o.dst v) w';rw [hd];refine h rr n _ _ w' Q' ?_ R' (fun e a' w'' hp=>hQ e a' w'' (hp.ext (hext m hm')));have hnh:G.nh=H.length+rest.length:=by rw [<-R.h.nh,hH];simp
 simp [Gh.back];omega
end
def c0M (G:Gh) (w w':World):Prop:=w'.heap.size=w.heap.size/\(∀ b,G.O b≠some (.df,0)->w'.heap[b]?=w.heap[b]?)/\w'.os=w.os/\w'.output=w.output/\(∀ a,a.block<w.heap.size->w'.frozen? a=w.frozen? a)/\w'.tape=w.tape/\w.drawn<=w'.drawn
theorem a5L {P:Program} {n:Nat} {fn:Func} {tmps:Array Value} {R:Ending->World->Prop} {G:Gh} : ∀ (ds:List Deferred) (w:World),c0F G ds w ->
  (∀ w',c0M G w w' -> ∃ v,(results fn tmps).run P w' = .ok v w'/\R (.returned v) w')->LeavesInM (Wd none) n P fn tmps R ds .returning w
 | [],w,_,h=>by
   obtain ⟨v,h1,h2⟩:=h w ⟨rfl,fun _ _=>rfl,rfl,rfl,fun _ _=>rfl,rfl,Nat.le_refl _⟩;exact ⟨v,h1,h2⟩
 | d::ds,w,hF,h=>by
   obtain ⟨hnd,hall⟩:=hF;obtain ⟨r,rfl,hO,hw⟩:=hall d (by simp);have hlt:r<w.heap.size:=(Array.getElem?_eq_some_iff.1 hw).1;let w1:World:={ w with heap:=w.heap.setIfInBounds r (.deferred none) }
   have hother : ∀ b,b≠r->w1.heap[b]?=w.heap[b]?:=by
    intro b hb;show (w.heap.setIfInBounds r _)[b]?=_;rw [Array.getElem?_setIfInBounds_ne (Ne.symm hb)]
   have htake:(Instr.takeDeferred r).run P w = .ok [] w1:=by
    simp [Instr.takeDeferred,getObj,setObj,Sem.run,hw,w1]
   refine ⟨by simp,.inl ⟨r,w1,rfl,htake,?_⟩⟩;simp at hnd;refine a5L (G:=G) ds w1 ⟨hnd.2,fun d hd => ?_⟩ ?_
   ·obtain ⟨r',rfl,h1,h2⟩:=hall d (by simp [hd]);refine ⟨r',rfl,h1,?_⟩;rw [hother r' ?_];exact h2;rintro rfl;exact hnd.1 _ hd rfl
   rintro w' ⟨hs,hb,hio1,hio2,hio3,hio4,hio5⟩;refine h w' ⟨by rw [hs];simp [w1],fun b hne => ?_,hio1,hio2,fun a ha=>(hio3 a (by simpa [w1] using ha)).trans ?_,hio4,hio5⟩
   ·rw [hb b hne,hother b ?_];rintro rfl;exact hne hO
   by_cases hab:a.block=r
   ·unfold World.frozen?;rw [hab,hw,show w1.heap[r]?=some (.deferred none) by simp [w1,hlt]]
   unfold World.frozen?;rw [hother _ hab]
def a4B (tmps:Array Value):ResultVar->Sem Value
 | .tmp t=>pure (tmps.getD t Go.undef)
 | .cell a t=>do loadVar t (<-asAddr (tmps.getD a Go.undef))
theorem a9u {P:Program} {T:a0m} (hT:TOk P T) {G:Gh} {σ:St} {a:Act} {w:World} (R:Rel G σ a w) {own:Bool} {x:ResultVar} {av:AV} (h:a7H T σ own x=some av) :
  ∃ v,(a4B a.tmps x).run P w = .ok v w/\av.isLocal=false/\((av.free=true /\ ∀ ℓ,RepV G w ℓ av v) \/ ∃ t k l,own=true/\av = .own k l/\RepV G w (.s t) (.own k l) v):=by
 cases x with
 | tmp t =>
   simp only [a7H] at h;have hrep:=R.slots t;refine ⟨a.tmps.getD t Go.undef,by simp [a4B],?_⟩;have key : ∀ v,σ.get t=v->v.isLocal=false->(∀ k l,v ≠ .lim k l)->(∀ k l,v ≠ .tail k l)->(∀ k l,v ≠ .fresh k l)->some (if own then v else v.copy)=some av->av.isLocal=false/\((av.free=true /\ ∀ ℓ,RepV G w ℓ av (a.tmps.getD t Go.undef)) \/ ∃ t' k l,own=true/\av = .own k l/\RepV G w (.s t') (.own k l) (a.tmps.getD t Go.undef)):=by
    intro v hv hl hnl hnt hnf he;rw [hv] at hrep;simp at he;subst he;cases own with
    | false=>exact ⟨AV.copy_isLocal _,.inl ⟨AV.copy_free _,fun ℓ=>hrep.copy ℓ⟩⟩
    | true =>
      refine ⟨hl,?_⟩;by_cases hf:v.free=true
      ·exact .inl ⟨hf,fun ℓ=>hrep.anywhere hf ℓ⟩
      cases v <;> first | (simp [AV.free] at hf;done) | (simp [AV.isLocal] at hl;done) | (exact absurd rfl (hnl _ _)) | (exact absurd rfl (hnt _ _)) | (exact absurd rfl (hnf _ _)) | skip
      exact .inr ⟨t,_,_,rfl,rfl,hrep⟩
   split at h
   ·cases h
   ·cases h
   ·cases h
   ·rename_i k l hgl;cases h;rw [hgl] at hrep;exact ⟨rfl,.inl ⟨rfl,fun ℓ=>hrep.copy ℓ⟩⟩
   ·rename_i k l hgl;cases h;rw [hgl] at hrep;exact ⟨rfl,.inl ⟨rfl,fun ℓ=>hrep.copy ℓ⟩⟩
   rename_i v h1 h2 h5 h3 h4;refine key _ rfl ?_ (fun k l e=>h3 k l e) (fun k l e=>h4 k l e) (fun k l e=>h5 k l e) h;generalize σ.get t=c at h1 h2;cases c <;> first | rfl | (exact absurd rfl (h1 _)) | (exact absurd rfl (h2 _ _))
 | cell t ty =>
   simp only [a7H] at h;split at h
   ·rename_i cs td hcs htd;obtain ⟨vs,e,hO,hw,hs,hh,hc,hat⟩:=a4F R hcs;obtain ⟨v,hv,hfree,hrep⟩:=a4l hT htd R (A := .slot t 0 cs) (b:=G.β (.s t)) (off:=0) ⟨hcs,rfl⟩ h;exact ⟨v,by simp [a4B,hat,asAddr,hv],AV.free_isLocal hfree,.inl ⟨hfree,hrep⟩⟩
   ·rename_i i off td hcs htd;split at h
    ·rename_i cs hob;have hsl:=R.slots t;rw [hcs] at hsl;generalize hat:a.tmps.getD t Go.undef=v0 at hsl;cases hsl with | ptr _ _ _ hi =>
     obtain ⟨v,hv,hfree,hrep⟩:=a4l hT htd R (A := .obj i off) (b:=G.β (.o i)) (off:=off) ⟨hi,rfl⟩ ⟨_,cs,hob,rfl,h⟩;exact ⟨v,by simp [a4B,hat,asAddr,hv],AV.free_isLocal hfree,.inl ⟨hfree,hrep⟩⟩
    ·rename_i k l hob;split at h
     ·rename_i hc;obtain ⟨rfl,hagg,hlen,hone⟩:=hc;cases h;have hsl:=R.slots t;rw [hcs] at hsl;generalize hat:a.tmps.getD t Go.undef=v0 at hsl;cases hsl with | ptr _ _ _ hi =>
      have hfl:D.flat l=l:=a6b (List.all_eq_true.1 hone);have hrd:a0V td ((D.flat l).map .d) 0=some (.d (.agg l)):=by
       have hdo : ∀ m:List D,a0U (m.map .d)=some m:=by
        intro m
        induction m with
        | nil=>rfl
        | cons x r ih=>simp [a0U,ih]
       unfold a0V cut;rw [hfl,if_pos (by simp [hlen])];simp only [hagg,if_true];rw [show (l.map AV.d).drop 0=l.map AV.d from rfl,List.take_of_length_le (by simp [hlen])];unfold a7o;rw [hdo]
      obtain ⟨v,hv,hfree,hrep⟩:=a4l hT htd R (A := .obj i 0) (b:=G.β (.o i)) (off:=0) ⟨hi,rfl⟩ ⟨_,_,hob,rfl,hrd⟩;exact ⟨v,by simp [a4B,hat,asAddr,hv],AV.free_isLocal hfree,.inl ⟨hfree,hrep⟩⟩
     cases h
    cases h
   cases h
theorem b2n (fn:Func) (tmps:Array Value):results fn tmps=(do
  let vs <-fn.results.mapM (a4B tmps)
  pure (if h:vs.size=1 then vs[0] else .tuple vs)):=by
 unfold results a4B
 rfl
theorem b3Z {P:Program} {T:a0m} (hT:TOk P T) {G:Gh} {σ:St} {a:Act} {w:World} (R:Rel G σ a w) : ∀ (l:List ResultVar) (avs:List AV),l.mapM (a7H T σ false)=some avs ->
  ∃ vs:List Value,(l.mapM (a4B a.tmps)).run P w = .ok vs w/\vs.length=l.length/\avs.length=l.length/\(∀ c∈avs,c.isLocal=false) /\ ∀ (i:Nat) (hi:i<avs.length),RepV G w .no avs[i] (vs.getD i Go.undef)
 | [],avs,h=>by simp at h;subst h;exact ⟨[],by simp,rfl,rfl,fun c hc=>by simp at hc,fun i hi=>by simp at hi⟩
 | x::r,avs,h=>by
   simp only [List.mapM_cons,Option.bind_eq_bind,Option.bind_eq_some_iff,Option.pure_def,zp3] at h;obtain ⟨av,hav,l',hl',rfl⟩:=h;obtain ⟨vs,h1,h2,h3,h4,h5⟩:=b3Z hT R r l' hl';obtain ⟨v,e1,e2,e3⟩:=a9u hT R hav;refine ⟨v::vs,by simp [List.mapM_cons,e1,h1],by simp [h2],by simp [h3],?_,fun i hi => ?_⟩
   ·intro c hc;rcases List.mem_cons.1 hc with rfl | hc
    ·exact e2
    exact h4 c hc
   cases i with
   | zero =>
     rcases e3 with ⟨_,e3⟩ | ⟨_,_,_,e,_⟩
     ·simpa using e3 .no
     cases e
   | succ i=>simpa using h5 i (by simpa using hi)
theorem a0c.leaveP {P:Program} {T:a0m} (hT:TOk P T) {fn:Func} {H H':List Obj} {r:AV} (hrl:r.isLocal=false) (hri:r.inb H'.length=true) (hin:a0s H'.length H'=true)
  {n:Nat} {G:Gh} {w:World} {e:Exit} {a':Act} {w':World} (hp:Post H.length G w (a7I T fn H.length r H') e a' w') :
  (e = .normal\/e = .ret)/\LeavesInM (Wd none) n P fn a'.tmps (fun e w' => ∃ v G',e = .returned v/\RepV G' w' .ret r v/\RelH G' H' w'/\Ext H.length G w G' w') a'.defers .returning w':=by
 obtain ⟨σ',G',R',hE,hm,hq⟩:=hp

 have fin : ∀ (hq:b8d T σ' fn.results.toList=some r/\r.inb H'.length=true/\a0s H'.length H'=true/\H.length<=H'.length /\ ∃ junk,σ'.heap=H'++junk),
   LeavesInM (Wd none) n P fn a'.tmps (fun e w' => ∃ v G',e = .returned v/\RepV G' w' .ret r v/\RelH G' H' w'/\Ext H.length G w G' w') a'.defers .returning w':=by
  rintro ⟨hres,_,_,_,junk,hjunk⟩;refine a5L (G:=G') _ _ R'.df ?_;rintro wf ⟨hfs,hfb,hfio⟩;have hpr:Pres G' G' w' wf (fun ℓ=>ℓ ≠ .df):=⟨KLe.refl _,fun b ℓ f hℓ hO=>⟨hO,hfb b (fun hf'=>by rw [hO] at hf';simp at hf';exact hℓ hf'.1)⟩,fun _ _=>rfl,Nat.le_refl _⟩;have hkept : ∀ x v,G'.K x=some v->wf.cell? x=some v:=by
   intro x v hx;have hc:=R'.h.kept x v hx;have hne:G'.O x.block≠some (.df,0):=by
    intro hO;have hsp:x.spot=none:=by
     unfold World.cell? at hc;split at hc
     ·split at hc
      ·cases hc
      rename_i hsp;simpa using hsp
     cases hc
    have:=(R'.h.disj _ _ _ hO).2 x.off (Nat.zero_le _);obtain ⟨xb,xo,xs⟩:=x;simp at hsp;subst hsp;rw [this] at hx;cases hx
   unfold World.cell? at *
   rwa [hfb _ hne]
  have R2:Rel G' σ' { tmps:=a'.tmps,defers:=[] } wf:=by
   refine ⟨⟨R'.h.sane,R'.h.nh,fun i ob hob=>(R'.h.objs i ob hob).pres R'.h.sane (by rw [<-R'.h.nh];exact (zp2.1 hob).1) hpr (by simp) (by simp),hkept,fun b ℓ f hO=>by rw [hfs];exact R'.h.disj b ℓ f hO⟩,R'.size,
    fun t=>(R'.slots t).pres R'.h.sane hpr (by simp) (fun _ _ _=>rfl) (fun _ _ _=>⟨rfl,by simp⟩),R'.places,⟨by simp,fun d hd=>by simp at hd⟩⟩
  have hE2:Ext H.length G w G' wf:=by
   refine ⟨hE.K,hE.new,fun b hb hO' => ?_,by rw [hfs];exact hE.size,hE.β,hfio.1.trans hE.io.1,hfio.2.1.trans hE.io.2.1,fun a ha=>(hfio.2.2.1 a (Nat.lt_of_lt_of_le ha hE.size)).trans (hE.io.2.2.1 a ha),hfio.2.2.2.1.trans hE.io.2.2.2.1,Nat.le_trans hE.io.2.2.2.2 hfio.2.2.2.2⟩;obtain ⟨h1,h2⟩:=hE.others b hb hO';exact ⟨(hfb b (fun hf=>by rw [h2] at hf;cases hf)).trans h1,h2⟩

  have cutG : ∀ (G2:Gh),RelH G2 σ'.heap wf->H'.length<=G2.nh->Ext H.length G w G2 wf->RelH { G2 with nh:=H'.length } H' wf/\Ext H.length G w { G2 with nh:=H'.length } wf /\
    ∀ ℓ v,RepV G2 wf ℓ r v->RepV { G2 with nh:=H'.length } wf ℓ r v:=by
   intro G2 RH2 hle hEE;have hsub:Sub G2 { G2 with nh:=H'.length } wf wf (fun _=>True) H'.length:=⟨KLe.refl _,fun b ℓ f _ hO=>⟨hO,rfl⟩,fun _ _=>rfl,Nat.le_refl _⟩
   refine ⟨⟨⟨RH2.sane.no⟩,rfl,fun i ob hob => ?_,RH2.kept,RH2.disj⟩,⟨hEE.K,hEE.new,hEE.others,hEE.size,hEE.β,hEE.io⟩,fun ℓ v hv=>hv.sub RH2.sane hsub trivial hri hrl⟩;have hi:i<H'.length:=(zp2.1 hob).1;exact (RH2.objs i ob (by rw [hjunk,zp7 hi];exact hob)).sub RH2.sane hi hsub trivial (fun _=>trivial) (a3B hin i ob hob)
  have hle:H'.length<=G'.nh:=by rw [<-R'.h.nh,hjunk];simp
  rw [b2n];simp only [b8d] at hres;split at hres
  ·rename_i x hx;obtain ⟨v,h1,h2,h3⟩:=a9u hT R2 hres;have hrun:(do let vs <-fn.results.mapM (a4B a'.tmps);pure (if h:vs.size=1 then vs[0] else Value.tuple vs):Sem Value).run P wf = .ok v wf:=by
    have:fn.results = #[x]:=by cases hfr2:fn.results;simp_all
    rw [this];simp [h1]
   rcases h3 with ⟨hfree,h3⟩ | ⟨t,k,l,_,rfl,h3⟩
   ·obtain ⟨k1,k2,k3⟩:=cutG G' R2.h hle hE2;exact ⟨v,hrun,v,_,rfl,k3 _ _ (h3 .ret),k1,k2⟩
   cases h3 with | own _ _ _ _ hr ht =>
   have hmv:=G'.move_pres wf (.s t) .ret;have RHm:RelH (G'.move (.s t) .ret) σ'.heap wf:=R2.h.move _ _ (by simp [Loc.root]) (fun i ob hob=>(R2.h.objs i ob hob).pres R2.h.sane (by rw [<-R2.h.nh];exact (zp2.1 hob).1) hmv (by simp) (by simp));obtain ⟨k1,k2,k3⟩:=cutG (G'.move (.s t) .ret) RHm hle (hE2.trans (Ext.move _ _ _ _ _));exact ⟨v,hrun,v,_,rfl,k3 _ _ (.own _ _ _ _ hr ht.move),k1,k2⟩
  rename_i l hl;simp at hres;obtain ⟨avs,hav,rfl⟩:=hres;obtain ⟨vs,h1,h2,h3,h4,h5⟩:=b3Z hT R2 _ _ hav;obtain ⟨k1,k2,k3⟩:=cutG G' R2.h hle hE2;have hrun:(do let vs <-fn.results.mapM (a4B a'.tmps);pure (if h:vs.size=1 then vs[0] else Value.tuple vs):Sem Value).run P wf = .ok (.tuple vs.toArray) wf:=by
   have hne:vs.length≠1:=by
    intro h;rw [h2] at h;obtain ⟨x,hx⟩:=List.length_eq_one_iff.1 h;exact hl x hx
   simp [Array.mapM_eq_mapM_toList,h1,hne]
  exact ⟨.tuple vs.toArray,hrun,_,_,rfl,k3 _ _ (.tuple _ _ _ (by simp [h2,h3]) (fun i hi=>by simpa [List.getD,zp5] using h5 i hi) h4),k1,k2⟩
 cases e with
 | normal=>exact ⟨.inl rfl,fin hq⟩
 | ret=>exact ⟨.inr rfl,fin hq⟩
 | _=>exact hq.elim
theorem a0c.enterW {P:Program} {T:a0m} (hT:TOk P T) {f:FuncId} {fn:Func} {c:Code} {args:List AV} {H H':List Obj} {r:AV} (hf:P.funcs[f]?=some fn) (hb:fn.body=some c) (hname:fn.name ≠ "runtime.NumGoroutine")
  (hn:args.length<=fn.ntmps) (hfr:args.all AV.free=true) (hrl:r.isLocal=false) (hri:r.inb H'.length=true) (hin:a0s H'.length H'=true) (hHH:H.length<=H'.length)
  (n:Nat) (G:Gh) (w:World) (h : ∀ a,Rel G { env:=a7u 0 args,heap:=H,n:=fn.ntmps } a w->c.wpIn (Wd none) n P (Post H.length G w (a7I T fn H.length r H')) a w)
  (vs:Array Value) (hvs:vs.size=args.length) (hrep : ∀ (i:Nat) (hi:i<args.length),RepV G w .no args[i] (vs.getD i Go.undef)) (RH:RelH G H w) :
  CallsIn (Wd none) n P f vs w (fun e w' => ∃ v G',e = .returned v/\RepV G' w' .ret r v/\RelH G' H' w'/\Ext H.length G w G' w'):=by
 have hfr' : ∀ c∈args,c.free=true:=by simpa using hfr
 refine callsIn_of_wp_marks hf hb trivial ?_ rfl;have hsz:(vs++Array.replicate (fn.ntmps-vs.size) Go.undef).size=fn.ntmps:=by simp;omega
 have R:Rel G { env:=a7u 0 args,heap:=H,n:=fn.ntmps } { tmps:=vs++Array.replicate (fn.ntmps-vs.size) Go.undef,defers:=[] } w:=by
  refine ⟨RH,hsz,fun t => ?_,fun t r off ht => ?_,⟨by simp,fun d hd=>by simp at hd⟩⟩
  ·simp only [St.get,a5s];split
   ·rename_i ht;simp at ht;have:=(hrep t (by omega)).anywhere (hfr' _ (zp6 (by omega))) (.s t);simpa [List.getD,show t<args.length by omega,zp5,Array.getElem?_append_left (show t<vs.size by omega)] using this
   exact .undef _ _
  simp only [St.get,a5s] at ht;split at ht
  ·rename_i hlt;simp at hlt;have:args[t]'(by omega)∈args:=zp6 _;have h2:=hfr' _ this;simp [List.getD,show t<args.length by omega] at ht;rw [ht] at h2;simp [AV.free] at h2
  cases ht
 refine wpIn_mono (h _ R) ?_;intro e a' w' hp;obtain ⟨he,hl⟩:=a0c.leaveP (n:=n) hT hrl hri hin hp;rcases he with rfl | rfl
 ·exact hl
 exact hl
theorem a0c.enterT {P:Program} {T:a0m} (hT:TOk P T) {f:FuncId} {fn:Func} {c:Code} {args:List AV} {H H':List Obj} {r:AV} (hf:P.funcs[f]?=some fn) (hb:fn.body=some c) (hname:fn.name ≠ "runtime.NumGoroutine")
  (hn:args.length<=fn.ntmps) (hfr:args.all AV.free=true) (hrl:r.isLocal=false) (hri:r.inb H'.length=true) (hin:a0s H'.length H'=true) (hHH:H.length<=H'.length)
  (h:a2R P H.length c (a7I T fn H.length r H') { env:=a7u 0 args,heap:=H,n:=fn.ntmps }):a0c P f args H r H' :=
 ⟨by simp [a1N,hf,hb,hname],hrl,hri,hin,hHH,fun n G w vs hvs hrep RH _ =>
  a0c.enterW hT hf hb hname hn hfr hrl hri hin hHH n G w (fun a R=>h n G a w (by rw [RH.nh];exact Nat.le_refl _) R) vs hvs hrep RH⟩
theorem a0c.enter {P:Program} {T:a0m} (hT:TOk P T) {f:FuncId} {fn:Func} {c:Code} {args:List AV} {H H':List Obj} {r:AV} (hf:P.funcs[f]?=some fn) (hb:fn.body=some c) (hname:fn.name ≠ "runtime.NumGoroutine")
  (hn:args.length<=fn.ntmps) (hfr:args.all AV.free=true) (hrl:r.isLocal=false) (hri:r.inb H'.length=true) (hin:a0s H'.length H'=true) (hHH:H.length<=H'.length)
  (h:AWp P H.length c (a7I T fn H.length r H') { env:=a7u 0 args,heap:=H,n:=fn.ntmps }):a0c P f args H r H' :=
 a0c.enterT hT hf hb hname hn hfr hrl hri hin hHH (a2R.of h)
end Go.Am
namespace Go.Am
open Go
def callY (T:a0m) (σ:St) (o:Oper):Option (Nat×List AV) :=
 match o.op with
 | .call { callee := .value (.tmp t),args,argTypes } =>
   match σ.get t,((args.toList.zip argTypes.toList).mapM fun p=>opv T σ.get p.2 p.1) with
   | .yield l,some vs=>if args.size=argTypes.size then some (l,vs.map AV.copy) else none
   | _,_=>none
 | _=>none
inductive Out where
 | done (σ:St)
 | yield (l:Nat) (args:List AV) (o:Oper) (rest:List Oper) (σ:St)
 | call (f:FuncId) (args:List AV) (o:Oper) (rest:List Oper) (σ:St)
 | stuck
def a9v (A:Ar) (T:a0m) (an:Ann) (all:List Oper):List Oper->St->Out
 | [],σ => .done σ
 | o::os,σ =>
   match a2I all σ o with
   | some true =>
     match a2S T σ o with
     | some (f,args) => .call f args o os σ
     | none =>
       match callY T σ o with
       | some (l,args) => .yield l args o os σ
       | none =>
         match a2F A T an σ.n σ.get σ.heap o with
         | some (ss,h)=>a9v A T an all os (σ.upd ss h)
         | none => .stuck
   | some false =>
     match o.dst with
     | some d=>if decide (d<σ.n) && !(σ.get d).isBox then a9v A T an all os (σ.upd [(d,.tuple [])] none) else .stuck
     | none=>a9v A T an all os σ
   | none => .stuck
theorem b8e {A:Ar} {T:a0m} {an:Ann} {σ:St} {o:Oper} {ss:a2b} {h:Option (List Obj)} (he:a2F A T an σ.n σ.get σ.heap o=some (ss,h)):σ.heap.length<=(σ.upd ss h).heap.length:=by
 cases h with
 | none=>exact Nat.le_refl _
 | some H'=>exact a7G he
section
variable {P:Program} {T:a0m} {m:Nat} {Q:Exit->St->Prop} {ops:Array Oper} {an:Ann}
def b4a (P:Program) (m:Nat) (ops:Array Oper) (T:a0m) (Q:Exit->St->Prop):Out->Prop
 | .done σ=>Q .normal σ
 | .call f args o rest σ=>a2S T σ o=some (f,args)->a2I ops.toList σ o=some true->a2u P m ops (o::rest) Q σ
 | .yield l args o rest σ=>callY T σ o=some (l,args)->a2I ops.toList σ o=some true->a2u P m ops (o::rest) Q σ
 | .stuck=>False
theorem a2u.run (hT:TOk P T) : ∀ (l:List Oper) (σ:St),m<=σ.heap.length->b4a P m ops T (fun e σ'=>m<=σ'.heap.length->Q e σ') (a9v Ar.std T an ops.toList l σ)->a2u P m ops l Q σ
 | [],σ,hm,h=>a2u.nil (h hm)
 | o::os,σ,hm,h=>by
   unfold a9v at h;cases hw:a2I ops.toList σ o with
   | none=>simp [hw,b4a] at h
   | some b =>
     cases b with
     | true =>
       simp only [hw] at h;cases hc:a2S T σ o with
       | some p =>
         obtain ⟨f,args⟩:=p;simp only [hc] at h;have:=h hc hw;intro r n G a w Q' hm' R hQ;exact this r n G a w Q' hm' R (fun e a' w' hp=>by
          obtain ⟨σ',G',R',hE,hm'',hq⟩:=hp;exact hQ e a' w' ⟨σ',G',R',hE,hm'',hq (by rw [R'.h.nh];exact hm'')⟩)
       | none =>
         simp only [hc] at h;cases hy:callY T σ o with
         | some p =>
           obtain ⟨l,args⟩:=p;simp only [hy] at h;have:=h hy hw;intro r n G a w Q' hm' R hQ;exact this r n G a w Q' hm' R (fun e a' w' hp=>by
            obtain ⟨σ',G',R',hE,hm'',hq⟩:=hp;exact hQ e a' w' ⟨σ',G',R',hE,hm'',hq (by rw [R'.h.nh];exact hm'')⟩)
         | none =>
         simp only [hy] at h;cases he:a2F Ar.std T an σ.n σ.get σ.heap o with
         | none=>simp [he,b4a] at h
         | some q =>
           obtain ⟨ss,h'⟩:=q;simp only [he] at h;have hlen:=b8e he;exact a2u.step hw (a9t hT (a8n σ) (fun _ _=>rfl) (fun _ _ h=>h) (fun _=>rfl) he) (by omega) (a2u.run hT os _ (by omega) h)
     | false =>
       simp only [hw] at h;cases hd:o.dst with
       | none=>simp only [hd] at h;exact a2u.skip0 hw hd (a2u.run hT os σ hm h)
       | some d =>
         simp only [hd] at h;split at h
         ·rename_i hc;simp at hc;exact a2u.skip hw hd hc.1 hc.2 (a2u.run hT os _ hm h)
         exact h.elim
theorem a2u.done (hT:TOk P T) {l:List Oper} {σ σ':St} (h : ∀ A:Ar,A=Ar.std->a9v A T an ops.toList l σ = .done σ') (hm:m<=σ.heap.length) (hq:Q .normal σ'):a2u P m ops l Q σ :=
 a2u.run (an:=an) hT l σ hm (by rw [h _ rfl];exact fun _=>hq)
end
def AV.noPlace:AV->AV
 | .place .. => .undef
 | v=>v
def a9w (e:List (Nat×AV)):List Nat->List (Nat×AV)
 | []=>[]
 | t::r=>(t,(a1T e t).noPlace)::a9w e r
def St.keep (σ:St) (ts:List Nat):St:={ σ with env:=a9w σ.env ts }
theorem a5u (e:List (Nat×AV)) : ∀ (ts:List Nat) (t:Nat),a1T (a9w e ts) t=(a1T e t).noPlace\/a1T (a9w e ts) t = .undef
 | [],t => .inr rfl
 | s::r,t=>by
   simp only [a9w,a1T];split
   ·rename_i h;subst h;exact .inl rfl
   exact a5u e r t
theorem Rel.keep {G:Gh} {σ:St} {a:Act} {w:World} (R:Rel G σ a w) (ts:List Nat):Rel G (σ.keep ts) a w:=by
 refine ⟨R.h,R.size,fun t => ?_,fun t r off ht => ?_,R.df⟩
 ·rcases a5u σ.env ts t with h | h
  ·simp only [St.keep,St.get,h];have:=R.slots t;simp only [St.get] at this;generalize a1T σ.env t=c at this;cases c <;> first | exact this | exact .undef _ _
  simp only [St.keep,St.get,h];exact .undef _ _
 simp only [St.keep,St.get] at ht;rcases a5u σ.env ts t with h | h
 ·rw [h] at ht;generalize a1T σ.env t=c at ht;cases c <;> simp [AV.noPlace] at ht
 rw [h] at ht;cases ht
section
variable {P:Program} {T:a0m} {m:Nat} {Q:Exit->St->Prop} {σ:St}
theorem AWp.keep (ts:List Nat) {c:Code} (h:AWp P m c Q (σ.keep ts)):AWp P m c Q σ:=fun r n G a w hm R=>h r n G a w hm (R.keep ts)
def St.drop (σ:St) (k:Nat):St:={ σ with heap:=σ.heap.take k }
end
structure Rec where
 sets:a2b
 heap:Option (List Obj)
 rd:List Nat
 hr:Bool
 ho:List Nat
 low:List Obj
structure Foot where
 wr:List Nat
 rd:List Nat
 hw:Bool
 hr:Bool
 ho:List Nat
 lw:Nat
def Rec.foot (x:Rec):Foot:={ wr:=x.sets.map (·.1),rd:=x.rd,hw:=x.heap.isSome,hr:=x.hr,ho:=x.ho,lw:=x.low.length }
def a3Y (low H:List Obj):List Obj:=low++H.drop low.length
@[simp] theorem b4b (H:List Obj):a3Y [] H=H:=rfl
theorem a3l {low:List Obj} (h:low.length=0) (H:List Obj):a3Y low H=H:=by rw [List.length_eq_zero_iff.1 h];rfl
theorem b4c (low H:List Obj):H.length<=(a3Y low H).length:=by simp [a3Y];omega
theorem a6I {low H:List Obj} {a:Nat} (h : ¬ a<low.length):(a3Y low H)[a]?=H[a]?:=by
 unfold a3Y;rw [zp8 (by omega),List.getElem?_drop];congr 1;omega
theorem b2o {low H H':List Obj} {a:Nat} (h:H[a]?=H'[a]?):(a3Y low H)[a]?=(a3Y low H')[a]?:=by
 by_cases hl:a<low.length
 ·unfold a3Y;rw [zp7 hl,zp7 hl]
 rw [a6I hl,a6I hl];exact h
def meets (l m:List Nat):Bool:=l.any fun t=>m.contains t
def Foot.over (x y:Foot):Bool:=(x.hw&&(y.hr || !y.ho.isEmpty))||(decide (0<x.lw)&&y.hr)||y.ho.any fun a=>decide (a<x.lw)
def Foot.both (x y:Foot):Bool:=(x.hw||decide (0<x.lw))&&(y.hw||decide (0<y.lw))
def Foot.clash (x y:Foot):Bool:=meets x.wr (y.rd++y.wr)||meets x.rd y.wr||x.over y||y.over x||x.both y
structure Alike (σ τ:St):Prop where
 get : ∀ t,σ.get t=τ.get t
 heap:σ.heap=τ.heap
 n:σ.n=τ.n
theorem Alike.refl (σ:St):Alike σ σ:=⟨fun _=>rfl,rfl,rfl⟩
theorem Alike.symm {σ τ:St} (h:Alike σ τ):Alike τ σ:=⟨fun t=>(h.get t).symm,h.heap.symm,h.n.symm⟩
theorem Alike.trans {σ τ υ:St} (h:Alike σ τ) (h':Alike τ υ):Alike σ υ:=⟨fun t=>(h.get t).trans (h'.get t),h.heap.trans h'.heap,h.n.trans h'.n⟩
theorem Rel.alike {G:Gh} {σ τ:St} {a:Act} {w:World} (R:Rel G σ a w) (h:Alike σ τ):Rel G τ a w :=
 ⟨h.heap▸R.h,by rw [R.size,h.n],fun t=>by rw [<-h.get t];exact R.slots t,fun t r off ht=>by rw [<-h.get t] at ht;obtain ⟨cs,hcs⟩:=R.places t r off ht;exact ⟨cs,by rw [<-h.get r];exact hcs⟩,R.df⟩
def a3Z:a2b->Nat->Option AV
 | [],_=>none
 | (s,v)::r,t=>match a3Z r t with
   | some x=>some x
   | none=>if s=t then some v else none
theorem a7J : ∀ (ss:a2b) (e:List (Nat×AV)) (t:Nat),a1T (a0A e ss) t=(a3Z ss t).getD (a1T e t)
 | [],e,t=>rfl
 | (s,v)::r,e,t=>by
   have ih:=a7J r (a3d e s v) t;simp only [a0A,List.foldl_cons] at ih ⊢;rw [ih,a0f];simp only [a3Z];cases a3Z r t with
   | some x=>rfl
   | none=>split <;> rfl
theorem a4a {ss:a2b} {t:Nat} (h:t∉ss.map (·.1)):a3Z ss t=none:=by
 induction ss with
 | nil=>rfl
 | cons p r ih =>
   obtain ⟨s,v⟩:=p;simp at h;simp only [a3Z];rw [ih (by simp;exact h.2),if_neg (fun e=>h.1 e.symm)]
theorem b8f (σ:St) (ss:a2b) (h:Option (List Obj)) (t:Nat):(σ.upd ss h).get t=(a3Z ss t).getD (σ.get t):=a7J ss σ.env t
def Rec.app (σ:St) (x:Rec):St:={ σ.upd x.sets x.heap with heap:=a3Y x.low (σ.upd x.sets x.heap).heap }
theorem a5v (σ:St) (x:Rec) (t:Nat):(x.app σ).get t=(a3Z x.sets t).getD (σ.get t):=b8f σ x.sets x.heap t
theorem a2m (σ:St) (x:Rec):(x.app σ).heap=a3Y x.low (x.heap.getD σ.heap):=rfl
theorem b5U {x y:Rec} (h:x.foot.clash y.foot=false) (σ:St):Alike (y.app (x.app σ)) (x.app (y.app σ)):=by
 simp only [Foot.clash,Foot.over,Foot.both,Rec.foot,Bool.or_eq_false_iff] at h;obtain ⟨⟨⟨⟨h1,h2⟩,h3⟩,h4⟩,h5⟩:=h;have hdis : ∀ t,t∈x.sets.map (·.1)->t∉y.sets.map (·.1):=by
  intro t ht hy;have:=List.any_eq_false.1 h1 t ht;simp at this;simp at hy;exact absurd hy (by simpa using this.2)
 refine ⟨fun t => ?_,?_,rfl⟩
 ·simp only [a5v];by_cases hx:t∈x.sets.map (·.1)
  ·rw [a4a (hdis t hx)];rfl
  rw [a4a hx]
  rfl
 simp only [a2m];simp only [Bool.and_eq_false_iff,Bool.or_eq_false_iff] at h5;rcases h5 with ⟨e1,e2⟩ | ⟨e1,e2⟩ <;> (replace e2:=of_decide_eq_false e2;replace e2:=Nat.eq_zero_of_not_pos e2)
 ·rw [a3l e2];cases hx:x.heap with
  | none=>simp only [Option.getD_none];rw [a3l e2]
  | some _=>rw [hx] at e1;cases e1
 rw [a3l e2];cases hx:y.heap with
 | none=>simp only [Option.getD_none];rw [a3l e2]
 | some _=>rw [hx] at e1;cases e1
def a0v (S:Nat->Bool):Nat->List Rec->St->St
 | _,[],σ=>σ
 | i,x::r,σ=>a0v S (i+1) r (if S i then x.app σ else σ)
theorem a4X (S:Nat->Bool) : ∀ (i:Nat) (l:List Rec) {σ τ:St},Alike σ τ->Alike (a0v S i l σ) (a0v S i l τ)
 | _,[],_,_,h=>h
 | i,x::r,σ,τ,h=>by
   simp only [a0v];refine a4X S (i+1) r ?_;split
   ·refine ⟨fun t=>by rw [a5v,a5v,h.get],by rw [a2m,a2m,h.heap],h.n⟩
   exact h
theorem a1W {S S':Nat->Bool} : ∀ (i:Nat) (l:List Rec) (σ:St),(∀ j,i<=j->j<i+l.length->S j=S' j)->a0v S i l σ=a0v S' i l σ
 | _,[],_,_=>rfl
 | i,x::r,σ,h=>by
   simp only [a0v];rw [h i (Nat.le_refl _) (by simp)];exact a1W (i+1) r _ (fun j h1 h2=>h j (by omega) (by simp;omega))
theorem a5M (S:Nat->Bool) (x:Rec) : ∀ (i:Nat) (l:List Rec) (σ:St),(∀ (j:Nat) (hj:j<l.length),S (i+j)=true->x.foot.clash l[j].foot=false)->Alike (a0v S i l (x.app σ)) (x.app (a0v S i l σ))
 | _,[],σ,_=>Alike.refl _
 | i,y::r,σ,h=>by
   simp only [a0v];have ih:=a5M S x (i+1) r (if S i then y.app σ else σ) (fun j hj hS=>h (j+1) (by simp;omega) (by rw [show i+(j+1)=i+1+j by omega];exact hS))
   refine Alike.trans (a4X S (i+1) r ?_) ih;split
   ·rename_i hi;exact b5U (h 0 (by simp) (by simpa using hi)) σ
   exact Alike.refl _
theorem a6J (S:Nat->Bool) (q:Nat) : ∀ (i:Nat) (l:List Rec) (σ:St) (hq:q<l.length),S (i+q)=false->(∀ (j:Nat) (hj:j<l.length),q<j->S (i+j)=true->(l[q]).foot.clash l[j].foot=false) ->
  Alike (a0v (fun k=>k == i+q||S k) i l σ) ((l[q]).app (a0v S i l σ))
 | i,[],σ,hq,_,_=>by simp at hq
 | i,x::r,σ,hq,hS,h=>by
   simp only [a0v];cases q with
   | zero =>
     simp only [Nat.add_zero] at hS ⊢;simp only [beq_self_eq_true,Bool.true_or,if_true,hS,Bool.false_eq_true,if_false,List.getElem_cons_zero];rw [a1W (S':=S) (i+1) r _ (fun j h1 _=>by simp;intro e;omega)];exact a5M S x (i+1) r σ (fun j hj hSj=>h (j+1) (by simp;omega) (by omega) (by rw [show i+(j+1)=i+1+j by omega];exact hSj))
   | succ q =>
     have hne:(i == i+(q+1))=false:=by simp
     simp only [hne,Bool.false_or];have ih:=a6J S q (i+1) r (if S i then x.app σ else σ) (by simpa using hq) (by rw [show i+1+q=i+(q+1) by omega];exact hS)
      (fun j hj hqj hSj=>h (j+1) (by simp;omega) (by omega) (by rw [show i+(j+1)=i+1+j by omega];exact hSj))
     rw [show i+1+q=i+(q+1) by omega] at ih;simpa using ih
def Foot.spares (y f:Foot):Prop:=(∀ t∈f.rd,t∉y.wr)/\(f.hr=true->y.hw=false/\y.lw=0) /\ ∀ a∈f.ho,y.hw=false /\ ¬ a<y.lw
theorem Foot.spares_over {y f:Foot} (h:y.over f=false):(f.hr=true->y.hw=false/\y.lw=0) /\ ∀ a∈f.ho,y.hw=false /\ ¬ a<y.lw:=by
 simp only [Foot.over,Bool.or_eq_false_iff] at h;obtain ⟨⟨h1,h2⟩,h3⟩:=h;refine ⟨fun hr => ?_,fun a ha => ?_⟩
 ·rw [hr] at h1 h2;refine ⟨by simpa using h1,?_⟩;have : ¬ 0<y.lw:=by simpa using h2
  omega
 refine ⟨?_,by simpa using List.any_eq_false.1 h3 a ha⟩;have:f.ho.isEmpty=false:=by
  cases hf:f.ho with
  | nil=>rw [hf] at ha;cases ha
  | cons _ _=>rfl
 rw [this] at h1;simpa using h1
theorem Foot.spares_left {y f:Foot} (h:y.clash f=false):y.spares f:=by
 simp only [Foot.clash,Bool.or_eq_false_iff] at h;obtain ⟨⟨⟨⟨h1,_⟩,h3⟩,_⟩,_⟩:=h;refine ⟨fun t ht hy => ?_,Foot.spares_over h3⟩;have:=List.any_eq_false.1 h1 t hy;simp at this;exact this.1 ht
theorem a5N (S S':Nat->Bool) (f:Foot) : ∀ (i:Nat) (l:List Rec) (σ τ:St),(∀ (j:Nat) (hj:j<l.length),S (i+j)≠S' (i+j)->(l[j]).foot.spares f) ->
  (∀ t∈f.rd,σ.get t=τ.get t)->(f.hr=true->σ.heap=τ.heap)->(∀ a∈f.ho,σ.heap[a]?=τ.heap[a]?)->σ.n=τ.n ->
  (∀ t∈f.rd,(a0v S i l σ).get t=(a0v S' i l τ).get t)/\(f.hr=true->(a0v S i l σ).heap=(a0v S' i l τ).heap)/\(∀ a∈f.ho,(a0v S i l σ).heap[a]?=(a0v S' i l τ).heap[a]?)/\(a0v S i l σ).n=(a0v S' i l τ).n
 | _,[],σ,τ,_,h1,h2,h4,h3=>⟨h1,h2,h4,h3⟩
 | i,x::r,σ,τ,h,h1,h2,h4,h3=>by
   simp only [a0v];have hx:=h 0 (by simp);simp only [Nat.add_zero,List.getElem_cons_zero] at hx;have hrest:=fun σ τ=>a5N S S' f (i+1) r σ τ (fun j hj hne=>h (j+1) (by simp;omega) (by rw [show i+(j+1)=i+1+j by omega];exact hne));have skipL:x.foot.spares f->(∀ (σ:St),∀ t∈f.rd,(x.app σ).get t=σ.get t)/\(∀ (σ:St),f.hr=true->(x.app σ).heap=σ.heap) /\ ∀ (σ:St),∀ a∈f.ho,(x.app σ).heap[a]?=σ.heap[a]?:=by
    rintro ⟨e1,e2,e3⟩;refine ⟨fun σ t ht => ?_,fun σ hr => ?_,fun σ a ha => ?_⟩
    ·rw [a5v,a4a (e1 t ht)];rfl
    ·obtain ⟨q1,q2⟩:=e2 hr;simp only [Rec.foot] at q1 q2;rw [a2m,a3l q2];cases hh:x.heap with
     | none=>rfl
     | some _=>rw [hh] at q1;cases q1
    obtain ⟨q1,q2⟩:=e3 a ha;simp only [Rec.foot] at q1 q2;rw [a2m,a6I q2];cases hh:x.heap with
    | none=>rfl
    | some _=>rw [hh] at q1;cases q1
   cases hS:S i <;> cases hS':S' i
   ·exact hrest σ τ h1 h2 h4 h3
   ·obtain ⟨e1,e2,e3⟩:=skipL (hx (by rw [hS,hS'];decide));simp only [if_true,Bool.false_eq_true,if_false];exact hrest _ _ (fun t ht=>by rw [e1 τ t ht];exact h1 t ht) (fun hr=>by rw [e2 τ hr];exact h2 hr) (fun a ha=>by rw [e3 τ a ha];exact h4 a ha) h3
   ·obtain ⟨e1,e2,e3⟩:=skipL (hx (by rw [hS,hS'];decide));simp only [if_true,Bool.false_eq_true,if_false];exact hrest _ _ (fun t ht=>by rw [e1 σ t ht];exact h1 t ht) (fun hr=>by rw [e2 σ hr];exact h2 hr) (fun a ha=>by rw [e3 σ a ha];exact h4 a ha) h3
   simp only [if_true];refine hrest _ _ (fun t ht => ?_) (fun hr => ?_) (fun a ha => ?_) h3
   ·rw [a5v,a5v,h1 t ht]
   ·rw [a2m,a2m,h2 hr]
   rw [a2m,a2m];cases x.heap with
   | none=>exact b2o (h4 a ha)
   | some _=>rfl
def b7j (acc:List Nat) (o:Oper):Nat:=o.after.toList.foldl (fun s e=>if Region.binds .any e then s ||| 2 ^ e.on ||| acc.getD e.on 0 else s) 0
def a4b:List Oper->List Nat->List Nat
 | [],acc=>acc
 | o::os,acc=>a4b os (acc++[b7j acc o])
def a6c:Nat->List Oper->Bool
 | _,[]=>true
 | i,o::os=>o.after.toList.all (fun e => !Region.binds .any e||decide (e.on<i))&&a6c (i+1) os
def b7k (ms:List Nat) (fs:List Foot):Bool :=
 (List.range fs.length).all fun j=>(List.range j).all fun i=>(ms.getD j 0).testBit i ||
  match fs[i]?,fs[j]? with
  | some x,some y => !(x.clash y) && !(y.clash x)
  | _,_=>true
def a2J (ops:List Oper) (fs:List Foot):Bool:=a6c 0 ops&&b7k (a4b ops []) fs
def Closed (ops:Array Oper) (S:Nat->Bool):Prop := ∀ (j:Nat) (o:Oper),ops[j]?=some o->S j=true -> ∀ e∈o.after,Region.binds .any e=true->S e.on=true
theorem a4Y {acc:List Nat} {i:Nat} : ∀ (l:List Edge) (s:Nat),(l.foldl (fun s e=>if Region.binds .any e then s ||| 2 ^ e.on ||| acc.getD e.on 0 else s) s).testBit i=true ->
  s.testBit i=true \/ ∃ e∈l,Region.binds .any e=true/\(e.on=i\/(acc.getD e.on 0).testBit i=true)
 | [],s,h => .inl h
 | e::r,s,h=>by
   simp only [List.foldl_cons] at h;rcases a4Y r _ h with h | ⟨e',he',h1,h2⟩
   ·split at h
    ·rename_i hb;simp only [Nat.testBit_or,Bool.or_eq_true,Nat.testBit_two_pow] at h;rcases h with (h | h) | h
     ·exact .inl h
     ·exact .inr ⟨e,by simp,hb,.inl (by simpa using h)⟩
     exact .inr ⟨e,by simp,hb,.inr h⟩
    exact .inl h
   exact .inr ⟨e',by simp [he'],h1,h2⟩
def b4d (ops:Array Oper) (acc:List Nat):Prop := ∀ (j:Nat) (o:Oper),j<acc.length->ops[j]?=some o -> ∀ i,(acc.getD j 0).testBit i=true -> ∀ S,Closed ops S->(∀ e∈o.after,Region.binds .any e=true->S e.on=true)->S i=true
theorem b1n {ops:Array Oper} : ∀ (l:List Oper) (acc:List Nat),(∀ (k:Nat),ops[acc.length+k]?=l[k]?)->b4d ops acc->b4d ops (a4b l acc)
 | [],acc,_,h=>h
 | o::os,acc,hl,h=>by
   refine b1n os _ (fun k => ?_) ?_
   ·have:=hl (k+1);simp at this ⊢;rw [<-this];congr 1;omega
   intro j o' hj ho' i hi S hS hpre;by_cases hja:j<acc.length
   ·rw [List.getD_eq_getElem?_getD,zp7 hja,<-List.getD_eq_getElem?_getD] at hi;exact h j o' hja ho' i hi S hS hpre
   have hje:j=acc.length:=by simp at hj;omega
   subst hje;have ho0:=hl 0;simp at ho0;rw [ho0] at ho';injection ho' with ho';subst ho'
   rw [List.getD_eq_getElem?_getD,zp8 (Nat.le_refl _)] at hi;simp [b7j] at hi;rw [<-Array.foldl_toList] at hi;rcases a4Y _ _ hi with hi | ⟨e,he,hb,hi⟩
   ·simp at hi
   have hSe:=hpre e (by simpa using he) hb;rcases hi with rfl | hi
   ·exact hSe
   have hlt:e.on<acc.length:=by
    rcases Nat.lt_or_ge e.on acc.length with h1 | h1
    ·exact h1
    rw [List.getD_eq_getElem?_getD,List.getElem?_eq_none h1] at hi;simp at hi
   cases hoe:ops[e.on]? with
   | none =>
     have h2:acc.length<ops.size:=(Array.getElem?_eq_some_iff.1 ho0).1;rw [Array.getElem?_eq_getElem (by omega)] at hoe;cases hoe
   | some oe=>exact h e.on oe hlt hoe i hi S hS (fun e' he' hb'=>hS e.on oe hoe hSe e' he' hb')
def a2K (P:Program) (m:Nat) (ops:Array Oper) (i:Nat) (σ:St) (x:Rec):Prop :=
 ∀ (τ:St),(∀ t∈x.rd,τ.get t=σ.get t)->(x.hr=true->τ.heap=σ.heap)->(∀ a∈x.ho,τ.heap[a]?=σ.heap[a]?)->τ.n=σ.n->m<=τ.heap.length ->
   m<=(x.app τ).heap.length /\
   ∀ (r:Option Nat) (n:Nat) (G:Gh) (a:Act) (w:World) (Q':Exit->Act->World->Prop) (K:Act->World->Prop),Rel G τ a w ->
     (∀ G' a' w',Rel G' (x.app τ) a' w'->Ext m G w G' w'->K a' w')->wpOpIn (Wd r) n P ops Q' i K a w
inductive DSteps (P:Program) (m:Nat) (ops:Array Oper):Nat->List Oper->St->List Rec->St->Prop
 | nil (i:Nat) (σ:St):DSteps P m ops i [] σ [] σ
 | cons (i:Nat) (o:Oper) (os:List Oper) (σ σ':St) (x:Rec) (xs:List Rec) (h:a2K P m ops i σ x) (hs:DSteps P m ops (i+1) os (x.app σ) xs σ'):DSteps P m ops i (o::os) σ (x::xs) σ'
theorem DSteps.get {P:Program} {m:Nat} {ops:Array Oper} {i:Nat} {l:List Oper} {σ σ':St} {xs:List Rec} (h:DSteps P m ops i l σ xs σ') :
  xs.length=l.length/\σ'=a0v (fun _=>true) i xs σ /\ ∀ (q:Nat) (hq:q<xs.length),a2K P m ops (i+q) (a0v (fun k=>decide (k<i+q)) i xs σ) xs[q]:=by
 induction h with
 | nil i σ=>exact ⟨rfl,rfl,fun q hq=>by simp at hq⟩
 | cons i o os σ σ' x xs h _ ih =>
   obtain ⟨h1,h2,h3⟩:=ih;refine ⟨by simp [h1],by simpa [a0v] using h2,fun q hq => ?_⟩;cases q with
   | zero =>
     have hz : ∀ (l:List Rec) (k:Nat) (τ:St),i<k->a0v (fun k=>decide (k<i+0)) k l τ=τ:=by
      intro l
      induction l with
      | nil=>intro k τ _;rfl
      | cons y r ih =>
        intro k τ hk;simp only [a0v];rw [if_neg (by simp;omega)];exact ih (k+1) τ (by omega)
     simp only [a0v];rw [if_neg (by simp),hz xs (i+1) σ (by omega)];exact h
   | succ q =>
     have:=h3 q (by simpa using hq);simp only [a0v];rw [if_pos (by simp)];rw [show i+(q+1)=i+1+q by omega];simpa using this
theorem a6K {p p':Nat->Bool} {i:Nat} (hp:p i=true) (hp':p' i=false) (hne : ∀ k,k≠i->p' k=p k) : ∀ (l:List Nat),l.Nodup->i∈l->l.countP p'+1=l.countP p
 | [],_,h=>by simp at h
 | k::r,hn,h=>by
   simp at hn;simp only [List.countP_cons];by_cases hk:k=i
   ·subst hk;have:r.countP p'=r.countP p:=List.countP_congr fun q hq=>by rw [hne q (by rintro rfl;exact hn.1 hq)]
    simp [hp,hp',this]
   have ih:=a6K hp hp' hne r hn.2 (by simp at h;rcases h with h | h;exact absurd h.symm hk;exact h)
   rw [hne k hk];omega
theorem a8o (i:Nat) : ∀ (l:List Rec) (σ:St),a0v (fun _=>false) i l σ=σ:=by
 intro l
 induction l generalizing i with
 | nil=>intro σ;rfl
 | cons x r ih=>intro σ;simp only [a0v];exact ih (i+1) σ
theorem AWp.regionD {P:Program} {m:Nat} {ops:Array Oper} {id:Nat} {Q:Exit->St->Prop} {σ σ':St} {xs:List Rec} (hmix:P.follows .mixedOrders=true) (hm0:m<=σ.heap.length)
  (h:DSteps P m ops 0 ops.toList σ xs σ') (hok:a2J ops.toList (xs.map Rec.foot)=true) (hq:Q .normal σ'):AWp P m (.region id ops true) Q σ:=by
 obtain ⟨hlen,hfin,hst⟩:=h.get;have hlen':xs.length=ops.size:=by simpa using hlen
 simp only [a2J,zp4] at hok;obtain ⟨hback,hpair⟩:=hok;have hmask:b4d ops (a4b ops.toList []):=b1n ops.toList [] (fun k=>by simp) (fun j o hj=>by simp at hj);have hbk : ∀ (j:Nat) (o:Oper),ops[j]?=some o -> ∀ e∈o.after,Region.binds .any e=true->e.on<j:=by
  have gen : ∀ (l:List Oper) (i:Nat),a6c i l=true -> ∀ (k:Nat) (o:Oper),l[k]?=some o -> ∀ e∈o.after,Region.binds .any e=true->e.on<i+k:=by
   intro l
   induction l with
   | nil=>intro i _ k o ho;simp at ho
   | cons o' os ih =>
     intro i hb k o ho e he hbi;simp only [a6c,zp4,List.all_eq_true] at hb;cases k with
     | zero =>
       simp at ho;subst ho;have:=hb.1 e (by simpa using he);simp [hbi] at this;omega
     | succ k =>
       have:=ih (i+1) hb.2 k o (by simpa using ho) e he hbi;omega
  intro j o ho e he hbi;have:=gen ops.toList 0 hback j o (by simpa using ho) e he hbi;omega
 have hpr : ∀ (i j:Nat) (hi:i<xs.length) (hj:j<xs.length),i<j->((a4b ops.toList []).getD j 0).testBit i=true\/((xs[i]).foot.clash xs[j].foot=false/\(xs[j]).foot.clash xs[i].foot=false):=by
  intro i j hi hj hij;simp only [b7k,List.all_eq_true,List.mem_range,List.length_map] at hpair;have:=hpair j hj i hij;simp only [Bool.or_eq_true] at this;rcases this with h | h
  ·exact .inl h
  right;simpa [List.getElem?_map,zp1 hi,zp1 hj] using h
 intro r n G a w hm R;refine wpIn_region_any hmix ?_

 have key : ∀ (fuel:Nat) (listed:Array Bool) (G1:Gh) (a:Act) (w1:World),listed.size=ops.size->Closed ops (fun k=>listed.getD k false)->(List.range ops.size).countP (fun k => !listed.getD k false)<=fuel ->
   Rel G1 (a0v (fun k=>listed.getD k false) 0 xs σ) a w1->Ext m G w G1 w1->m<=(a0v (fun k=>listed.getD k false) 0 xs σ).heap.length->wpAnyIn (Wd r) n P .any ops (Post m G w Q) fuel listed a w1:=by
  have hgd : ∀ (listed:Array Bool),listed.size=ops.size -> ∀ k,k<ops.size->listed.getD k true=listed.getD k false:=by
   intro listed hsz k hk;have:k<listed.size:=by omega
   simp [Array.getD,this]
  have hall : ∀ (listed:Array Bool),listed.size=ops.size->Region.ready .any ops listed=[] -> ∀ k,k<ops.size->listed.getD k false=true:=by
   intro listed hsz hre k
   induction k using Nat.strongRecOn with
   | _ k ih =>
     intro hk;cases hl:listed.getD k false with
     | true=>rfl
     | false =>
       have:k∈Region.ready .any ops listed:=by
        refine mem_ready.2 ⟨by rw [hgd listed hsz k hk];exact hl,ops[k],Array.getElem?_eq_getElem hk,fun e he hb => ?_⟩;have hlt:=hbk k _ (Array.getElem?_eq_getElem hk) e he hb;exact ih e.on hlt (by omega)
       rw [hre] at this;cases this
  have hdone : ∀ (listed:Array Bool) (G1:Gh) (a:Act) (w1:World),listed.size=ops.size->(∀ k,k<ops.size->listed.getD k false=true)->Rel G1 (a0v (fun k=>listed.getD k false) 0 xs σ) a w1->Ext m G w G1 w1 ->
    m<=(a0v (fun k=>listed.getD k false) 0 xs σ).heap.length->Post m G w Q .normal a w1:=by
   intro listed G1 a w1 hsz hl R1 hE hmh;have e:a0v (fun k=>listed.getD k false) 0 xs σ=σ':=by
    rw [hfin];exact a1W 0 xs σ (fun j _ hj=>hl j (by omega))
   rw [e] at R1 hmh;exact ⟨σ',G1,R1,hE,by rw [<-R1.h.nh];exact hmh,hq⟩
  intro fuel
  induction fuel with
  | zero =>
    intro listed G1 a w1 hsz hcl hcnt R1 hE hmh;have hl : ∀ k,k<ops.size->listed.getD k false=true:=by
     intro k hk;have h0:(List.range ops.size).countP (fun k => !listed.getD k false)=0:=by omega
     have:=List.countP_eq_zero.1 h0 k (List.mem_range.2 hk);simpa using this
    refine ⟨?_,hdone listed G1 a w1 hsz hl R1 hE hmh⟩;cases hre:Region.ready .any ops listed with
    | nil=>rfl
    | cons k rest =>
      have hk:k∈Region.ready .any ops listed:=by rw [hre];simp
      obtain ⟨h1,o,h2,_⟩:=mem_ready.1 hk;have hlt:k<ops.size:=(Array.getElem?_eq_some_iff.1 h2).1;rw [hgd listed hsz k hlt,hl k hlt] at h1;cases h1
  | succ fuel ih =>
    intro listed G1 a w1 hsz hcl hcnt R1 hE hmh;refine ⟨fun hready=>hdone listed G1 a w1 hsz (hall listed hsz hready) R1 hE hmh,fun i hi => ?_⟩;obtain ⟨hun,o,ho,hpre⟩:=mem_ready.1 hi;have hlt:i<ops.size:=(Array.getElem?_eq_some_iff.1 ho).1;rw [hgd listed hsz i hlt] at hun;have hix:i<xs.length:=by omega
    have hpre' : ∀ e∈o.after,Region.binds .any e=true->listed.getD e.on false=true:=hpre

    have hsame:=a5N (fun k=>listed.getD k false) (fun k=>decide (k<0+i)) (xs[i]).foot 0 xs σ σ (fun j hj hne=>by
     simp only [Nat.zero_add] at hne ⊢;rcases Nat.lt_trichotomy j i with h | h | h
     ·have hlj:listed.getD j false=false:=by
       cases hh:listed.getD j false with
       | false=>rfl
       | true=>simp [hh,h] at hne
      rcases hpr j i hj hix h with hb | hb
      ·have:=hmask i o (by
        have:(a4b ops.toList []).length=ops.size:=by
         have gl : ∀ (l:List Oper) (acc:List Nat),(a4b l acc).length=acc.length+l.length:=by
          intro l
          induction l with
          | nil=>intro acc;simp [a4b]
          | cons o os ih=>intro acc;simp [a4b,ih];omega
         simpa using gl ops.toList []
        omega) ho j hb _ hcl hpre'
       rw [hlj] at this;cases this
      exact Foot.spares_left hb.1
     ·subst h;simp [hun] at hne
     have hlj:listed.getD j false=true:=by
      cases hh:listed.getD j false with
      | true=>rfl
      | false=>simp [hh] at hne;omega
     rcases hpr i j hix hj h with hb | hb
     ·have hoj:ops[j]?=some (ops[j]'(by omega)):=Array.getElem?_eq_getElem (by omega);have:=hmask j _ (by
       have:(a4b ops.toList []).length=ops.size:=by
        have gl : ∀ (l:List Oper) (acc:List Nat),(a4b l acc).length=acc.length+l.length:=by
         intro l
         induction l with
         | nil=>intro acc;simp [a4b]
         | cons o os ih=>intro acc;simp [a4b,ih];omega
        simpa using gl ops.toList []
       omega) hoj i hb _ hcl (fun e he hbi=>hcl j _ hoj hlj e he hbi)
      have this:listed.getD i false=true:=this;rw [hun] at this;cases this
     exact Foot.spares_left hb.2) (fun _ _=>rfl) (fun _=>rfl) (fun _ _=>rfl) rfl
    have hL:=hst i hix;simp only [Nat.zero_add] at hL hsame;obtain ⟨hmh',hL⟩:=hL (a0v (fun k=>listed.getD k false) 0 xs σ) hsame.1 hsame.2.1 hsame.2.2.1 hsame.2.2.2 hmh;refine hL r n G1 a w1 _ _ R1 fun G' a' w' R' hE' => ?_;have hset : ∀ k,k<ops.size->(listed.setIfInBounds i true).getD k false=(k == 0+i||listed.getD k false):=by
     intro k hk;have hkl:k<listed.size:=by omega
     by_cases hki:k=i
     ·subst hki;simp [Array.getD,hkl]
     have : ¬ i=k:=fun e=>hki e.symm;simp [zp5,Array.getElem?_setIfInBounds_ne this,hki]
    have hal:Alike (a0v (fun k=>(listed.setIfInBounds i true).getD k false) 0 xs σ) ((xs[i]).app (a0v (fun k=>listed.getD k false) 0 xs σ)):=by
     rw [a1W (S':=fun k=>k == 0+i||listed.getD k false) 0 xs σ (fun j _ hj=>hset j (by omega))];refine a6J (fun k=>listed.getD k false) i 0 xs σ hix (by simpa using hun) (fun j hj hij hSj => ?_);simp only [Nat.zero_add] at hSj;rcases hpr i j hix hj hij with hb | hb
     ·have hoj:ops[j]?=some (ops[j]'(by omega)):=Array.getElem?_eq_getElem (by omega);have:=hmask j _ (by
       have:(a4b ops.toList []).length=ops.size:=by
        have gl : ∀ (l:List Oper) (acc:List Nat),(a4b l acc).length=acc.length+l.length:=by
         intro l
         induction l with
         | nil=>intro acc;simp [a4b]
         | cons o os ih=>intro acc;simp [a4b,ih];omega
        simpa using gl ops.toList []
       omega) hoj i hb _ hcl (fun e he hbi=>hcl j _ hoj hSj e he hbi)
      have this:listed.getD i false=true:=this;rw [hun] at this;cases this
     exact hb.1
    refine ih (listed.setIfInBounds i true) G' a' w' (by simpa using hsz) ?_ ?_ (R'.alike hal.symm) (hE.trans hE') (by rw [hal.heap];exact hmh')
    ·intro j oj hoj hSj e he hb;have hj:j<ops.size:=(Array.getElem?_eq_some_iff.1 hoj).1;have heon:e.on<ops.size:=Nat.lt_trans (hbk j oj hoj e he hb) hj;simp only [hset j hj,Nat.zero_add] at hSj;simp only [hset e.on heon,Nat.zero_add,Bool.or_eq_true];simp only [Bool.or_eq_true,beq_iff_eq] at hSj;rcases hSj with rfl | hSj
     ·rw [ho] at hoj;injection hoj with hoj;subst hoj
      exact .inr (hpre' e he hb)
     exact .inr (hcl j oj hoj hSj e he hb)
    have:=a6K (p:=fun k => !listed.getD k false) (p':=fun k => !(listed.setIfInBounds i true).getD k false) (i:=i) (by simp [hun]) (by
     have:i<listed.size:=by omega
     simp [Array.getD,this]) (fun k hk=>by
      have : ¬ i=k:=fun e=>hk e.symm;simp [zp5,Array.getElem?_setIfInBounds_ne this]) (List.range ops.size) List.nodup_range (List.mem_range.2 hlt)
    omega
 have hrep : ∀ k,(Array.replicate ops.size false).getD k false=false:=by
  intro k;simp only [zp5,Array.getElem?_replicate];split <;> rfl
 have hst0:a0v (fun k=>(Array.replicate ops.size false).getD k false) 0 xs σ=σ:=by
  rw [a1W (S':=fun _=>false) 0 xs σ (fun j _ _=>hrep j),a8o]
 refine key ops.size (Array.replicate ops.size false) G a _ (by simp) (fun j o _ hS=>by simp only [hrep] at hS;cases hS) ?_ (by rw [hst0];exact R.drew rfl) (Ext.drew (w1:=_) rfl rfl rfl) (by rw [hst0];exact hm0);exact Nat.le_trans List.countP_le_length (by simp)
section
variable {P:Program} {T:a0m} {m:Nat} {ops:Array Oper} {an:Ann} {σ:St} {i:Nat} {o:Oper}
theorem a3m {τ:St} (h : ∀ t∈a0q ops.toList o,τ.get t=σ.get t):a2I ops.toList τ o=a2I ops.toList σ o:=by
 unfold a2I;cases hg:o.guard with
 | none=>rfl
 | some p =>
   obtain ⟨j,b⟩:=p;simp only;cases hd:(ops.toList[j]?).bind (·.dst) with
   | none=>rfl
   | some d =>
     have:τ.get d=σ.get d:=h d (by
      unfold a0q;simp only [hg,List.mem_append];right;rw [hd];simp)
     simp only [this]
theorem a9x {g g':Nat->AV} {rd:List Nat} (h : ∀ t∈rd,g' t=g t):only rd g'=only rd g:=by
 funext t;unfold only;split
 ·rename_i hc;exact h t (by simpa using hc)
 rfl
theorem a9y {A:Ar} {n:Nat} {g:Nat->AV} {H H':List Obj} {a:Nat} {ss:a2b} (hl:c2N g o=some a) (hH:H[a]?=H'[a]?) (h:a2F A T an n g H o=some (ss,none)):a2F A T an n g H' o=some (ss,none):=by
 unfold c2N at hl;split at hl
 ·rename_i t i hop;split at hl
  ·rename_i a' off hg;cases hl;have e1:a9f A T an n g o=none:=rfl;have e2 : ∀ H,a3S A T an n g H o=none:=fun H=>by unfold a3S;simp only [hop]
   have e4 : ∀ H,a8a A T an n g H o=none:=fun H=>by unfold a8a;simp only [hop]
   have e5 : ∀ H,a8c A T an n g H o=none:=fun H=>by unfold a8c;simp only [hop,hg]
   have e6 : ∀ H,a8b A T an n g H o=none:=fun H=>by unfold a8b;simp only [hop,hg]
   unfold a2F at h ⊢;rw [e1,e4,e6,e5,e2] at h ⊢;simp only at h ⊢;have e3:a1f A T n g H o=a1f A T n g H' o:=by
    unfold a1f;simp only [hop,a5S,a2v,hg,hH];split <;> try rfl
    rename_i heq;split at heq
    ·cases heq;simp only [hH]
    cases heq
   rw [<-e3];cases hob:a1f A T n g H o with
   | some r=>rw [hob] at h;exact h
   | none =>
     rw [hob] at h;simp only at h ⊢;unfold a0I at h ⊢;simp only [hop,adr,hg] at h ⊢;cases hT:T t with
     | none=>rw [hT] at h;exact h
     | some td =>
       rw [hT] at h;simp only at h ⊢;rw [<-hH];split at h <;> try (first | exact h | cases h)
       split at h <;> try (first | exact h | cases h)
       split at h
       ·exfalso;simp only [Option.map_eq_some_iff] at h;obtain ⟨p,_,hp⟩:=h;cases hp
       rename_i hc;rw [if_neg hc];exact h
  cases hl
 cases hl
theorem a2K.op (hT:TOk P T) (ho:ops[i]?=some o) {u:Upd} (hw:a2I ops.toList σ o=some true) (he:b9s Ar.std T an ops.toList σ o=some u) :
  a2K P m ops i σ { sets:=u.sets,heap:=u.heap,rd:=u.rd,hr:=u.hr,ho:=u.ho,low:=[] }:=by
 intro τ hrd hhr hho hn hm;have hu:=he;unfold b9s at he;simp only at he

 have fin : ∀ (ss:a2b) (h:Option (List Obj)) (H:List Obj),u.sets=ss->u.heap=h->u.rd=a8O σ.get ops.toList o->(∀ (i:Nat) (ob:Obj),H[i]?=some ob->τ.heap[i]?=some ob)->(a1E an (only (a8O σ.get ops.toList o) σ.get) o=true->H=τ.heap)->(h.isSome=true->H=τ.heap) ->
   a2F Ar.std T an τ.n (only (a8O σ.get ops.toList o) τ.get) H o=some (ss,h) ->
   m<=(Rec.app τ { sets:=u.sets,heap:=u.heap,rd:=u.rd,hr:=u.hr,ho:=u.ho,low:=[] }).heap.length /\
   ∀ (r:Option Nat) (n:Nat) (G:Gh) (a:Act) (w:World) (Q':Exit->Act->World->Prop) (K:Act->World->Prop),Rel G τ a w ->
   (∀ G' a' w',Rel G' (Rec.app τ { sets:=u.sets,heap:=u.heap,rd:=u.rd,hr:=u.hr,ho:=u.ho,low:=[] }) a' w'->Ext m G w G' w'->K a' w')->wpOpIn (Wd r) n P ops Q' i K a w:=by
  rintro ss h H rfl rfl hrdu hH hHe hHs hev';have hrd' : ∀ t∈a8O σ.get ops.toList o,τ.get t=σ.get t:=by rw [<-hrdu];exact hrd
  have e1:only (a8O σ.get ops.toList o) τ.get=only (a8O σ.get ops.toList o) σ.get:=a9x hrd';have hw':a2I ops.toList τ o=some true:=by
   rw [a3m (σ:=σ) (τ:=τ) (fun t ht=>hrd' t (by unfold a8O;simp [ht]))];exact hw
  have hless:Less (only (a8O σ.get ops.toList o) τ.get) τ:=by
   intro t;unfold only;split
   ·exact .inl rfl
   exact .inr rfl
  have hstep:=a9t hT hless (fun d hd=>by
   unfold only;rw [if_pos];simp [a8O,a0q,hd]) hH (fun hh=>hHe (by rw [e1] at hh;exact hh)) hev'
  have hlen:τ.heap.length<=(τ.upd u.sets u.heap).heap.length:=by
   cases hh:u.heap with
   | none=>exact Nat.le_refl _
   | some H' =>
     rw [hh] at hev';rw [hHs (by rw [hh];rfl)] at hev';exact a7G hev'
  have happ:Rec.app τ { sets:=u.sets,heap:=u.heap,rd:=u.rd,hr:=u.hr,ho:=u.ho,low:=[] }=τ.upd u.sets u.heap:=rfl;rw [happ];refine ⟨Nat.le_trans hm hlen,fun r n G a w Q' K R hK => ?_⟩;unfold wpOpIn;simp only [ho];rw [if_pos (a2A hw' R)];exact hstep r n m G a w Q' K (by rw [<-R.h.nh];exact hm) R hK
 have key : ∀ (rd:List Nat),rd=u.rd->u.rd=a8O σ.get ops.toList o->only (a8O σ.get ops.toList o) τ.get=only (a8O σ.get ops.toList o) σ.get:=by
  rintro rd _ hrdu;exact a9x (by rw [<-hrdu];exact hrd)
 split at he
 ·rename_i a hloc;split at he
  ·rename_i ss hev;cases he;have e1:=key _ rfl rfl;refine fin ss none τ.heap rfl rfl rfl (fun _ _ h=>h) (fun _=>rfl) (fun _=>rfl) ?_;rw [e1,hn];exact a9y hloc (hho a (by simp)).symm hev
  ·rename_i ss h hev;cases he;have e1:=key _ rfl rfl;refine fin ss (some h) τ.heap rfl rfl rfl (fun _ _ h=>h) (fun _=>rfl) (fun _=>rfl) ?_;rw [e1,hn,hhr rfl];exact hev
  cases he
 split at he
 ·rename_i ss h hev;split at he
  ·rename_i hcond;cases he;have e1:=key _ rfl rfl;refine fin ss h (if a1E an (only (a8O σ.get ops.toList o) σ.get) o then τ.heap else []) rfl rfl rfl (fun i ob hob => ?_) (fun hh=>by rw [if_pos hh]) (fun hs => ?_) ?_
   ·split at hob
    ·exact hob
    simp at hob
   ·cases h with
    | none=>cases hs
    | some H'=>rw [if_pos (by simpa using hcond)]
   rw [e1,hn];cases hh:a1E an (only (a8O σ.get ops.toList o) σ.get) o with
   | true=>rw [if_pos rfl,hhr hh];simpa [hh] using hev
   | false=>simpa [hh] using hev
  cases he
 cases he
theorem a2K.skip (ho:ops[i]?=some o) {d:Nat} (hw:a2I ops.toList σ o=some false) (hd:o.dst=some d) (hlt:d<σ.n) (hb:(σ.get d).isBox=false) :
  a2K P m ops i σ { sets:=[(d,.tuple [])],heap:=none,rd:=a0q ops.toList o,hr:=false,ho:=[],low:=[] }:=by
 intro τ hrd _ _ hn hm;refine ⟨hm,fun r n G a w Q' K R hK => ?_⟩;have hdm:d∈a0q ops.toList o:=by simp [a0q,hd]
 unfold wpOpIn;simp only [ho];rw [a2A (b:=false) (by rw [a3m (σ:=σ) hrd];exact hw) R,if_neg (by simp)];refine ⟨fun _ _=>trivial,?_⟩;rw [hd];exact hK G _ w (R.put (.tuple _ _ #[] rfl (fun i hi=>by simp at hi) (fun c hc=>by simp at hc)) (fun r off e=>by cases e) (by rw [hrd d hdm];exact hb) (by rw [hn];exact hlt)) (Ext.refl _ _ _)
theorem a6L {τ:St} (h : ∀ t∈a0q ops.toList o,τ.get t=σ.get t):a2S T τ o=a2S T σ o:=by
 unfold a2S;cases hop:o.op <;> try rfl
 rename_i c;obtain ⟨callee,args,ts⟩:=c;cases callee with
 | value x =>
   simp only;have hsl : ∀ t,(Operand.tmp t=x\/Operand.tmp t∈args)->τ.get t=σ.get t:=by
    intro t ht;refine h t ?_;unfold a0q;simp only [hop,Op.operands,Call.operands,List.mem_append,List.mem_flatMap];left;left;rcases ht with rfl | ht
    ·exact ⟨.tmp t,by simp,by simp [a4Q]⟩
    exact ⟨.tmp t,by simp [ht],by simp [a4Q]⟩
   have e1 : ∀ (ps:List (Operand×TypeId)),(∀ p∈ps,p.1∈args)->(ps.mapM fun p=>opv T τ.get p.2 p.1)=ps.mapM fun p=>opv T σ.get p.2 p.1:=by
    intro ps
    induction ps with
    | nil=>intro _;rfl
    | cons p r ih =>
      intro hp;simp only [List.mapM_cons];rw [ih (fun q hq=>hp q (by simp [hq]))];have:opv T τ.get p.2 p.1=opv T σ.get p.2 p.1:=by
       cases hp1:p.1 with
       | tmp t=>simp only [opv];rw [hsl t (.inr (by have:=hp p (by simp);rw [hp1] at this;exact this))]
       | _=>rfl
      rw [this]
   have e2:(args.toList.zip ts.toList).mapM (fun p=>opv T τ.get p.2 p.1)=(args.toList.zip ts.toList).mapM fun p=>opv T σ.get p.2 p.1:=e1 _ (fun p hp=>by
    have:=(List.of_mem_zip hp).1;simpa using this)
   rw [e2];cases x with
   | tmp t=>simp only [hsl t (.inl rfl)]
   | _=>rfl
 | _=>rfl
theorem b2p {τ:St} (h : ∀ t∈a0q ops.toList o,τ.get t=σ.get t):callY T τ o=callY T σ o:=by
 unfold callY;cases hop:o.op <;> try rfl
 rename_i c;obtain ⟨callee,args,ts⟩:=c;cases callee with
 | value x =>
   cases x with
   | tmp t =>
   simp only;have hsl : ∀ s,(s=t\/Operand.tmp s∈args)->τ.get s=σ.get s:=by
    intro s hs;refine h s ?_;unfold a0q;simp only [hop,Op.operands,Call.operands,List.mem_append,List.mem_flatMap];left;left;rcases hs with rfl | hs
    ·exact ⟨.tmp s,by simp,by simp [a4Q]⟩
    exact ⟨.tmp s,by simp [hs],by simp [a4Q]⟩
   have e1 : ∀ (ps:List (Operand×TypeId)),(∀ p∈ps,p.1∈args)->(ps.mapM fun p=>opv T τ.get p.2 p.1)=ps.mapM fun p=>opv T σ.get p.2 p.1:=by
    intro ps
    induction ps with
    | nil=>intro _;rfl
    | cons p r ih =>
      intro hp;simp only [List.mapM_cons];rw [ih (fun q hq=>hp q (by simp [hq]))];have:opv T τ.get p.2 p.1=opv T σ.get p.2 p.1:=by
       cases hp1:p.1 with
       | tmp t=>simp only [opv];rw [hsl t (.inr (by have:=hp p (by simp);rw [hp1] at this;exact this))]
       | _=>rfl
      rw [this]
   have e2:(args.toList.zip ts.toList).mapM (fun p=>opv T τ.get p.2 p.1)=(args.toList.zip ts.toList).mapM fun p=>opv T σ.get p.2 p.1:=e1 _ (fun p hp=>by
    have:=(List.of_mem_zip hp).1;simpa using this)
   rw [e2,hsl t (.inl rfl)]
   | _=>rfl
 | _=>rfl
theorem a2K.call (ho:ops[i]?=some o) {f:FuncId} {args:List AV} {r:AV} {d:Nat} (hw:a2I ops.toList σ o=some true) (hcall:a2S T σ o=some (f,args)) (hargs:a3L 0 args=true)
  (hd:o.dst=some d) (hlt:d<σ.n) (hb:(σ.get d).isBox=false) (hfr:args.all AV.free=true) (hc:a0c P f args [] r []) :
  a2K P m ops i σ { sets:=[(d,r)],heap:=none,rd:=a0q ops.toList o,hr:=false,ho:=[],low:=[] }:=by
 intro τ hrd _ _ hn hm;refine ⟨hm,fun rr n G a w Q' K R hK => ?_⟩;have hdm:d∈a0q ops.toList o:=by simp [a0q,hd]
 have hbτ:(τ.get d).isBox=false:=by rw [hrd d hdm];exact hb
 unfold wpOpIn;simp only [ho];rw [if_pos (a2A (b:=true) (by rw [a3m (σ:=σ) hrd];exact hw) R)];obtain ⟨hcb,hrl,hri,hin',hHH,hcc⟩:=hc;obtain ⟨hnd,vs,hrun,hvs,hrep⟩:=a6H (T:=T) (by rw [a6L (σ:=σ) hrd];exact hcall) hcb R;have RH:RelH G ([]++τ.heap) w:=R.h;have hRh:=RH.handed (H:=[]) rfl;have hfr' : ∀ c∈args,c.free=true:=by simpa using hfr
 have hsub:Sub G (G.handed 0) w w (fun ℓ=>ℓ = .no) 0 :=
  ⟨KLe.refl _,fun b ℓ f hl hO=>absurd (hl▸rfl) (R.h.sane.no b ℓ f hO),fun _ _=>rfl,Nat.le_refl _⟩
 refine ⟨fun _ _=>trivial,?_⟩;rw [Oper.semAt_eq _ _ _ hnd,hrun];refine ⟨fun hh=>by simp [Wd] at hh,?_⟩;refine CallsIn.mono (a5t (hcc (n-1) (G.handed 0) w vs hvs (fun i hi => ?_) hRh (fun b ℓ f hO => ?_))) ?_
 ·exact (hrep i hi).sub R.h.sane hsub rfl (a0R hargs i hi) (AV.free_isLocal (hfr' _ (zp6 hi)))
 ·have:=(a2B hO).2;cases ℓ <;> simp [a1n] at this
 rintro e w' ⟨v,G3,rfl,hv,R3,hE⟩;obtain ⟨R',hext⟩:=R.back (H:=[]) (rest:=τ.heap) rfl (.inr rfl) hHH R3 hE hin' hv hrl hri (by rw [hn];exact hlt) hbτ;show K (a.put o.dst v) w';rw [hd];refine hK _ _ w' ?_ (hext m (by rw [<-R.h.nh];exact hm));simpa [Rec.app,St.upd,a0A,a3Y] using R'
end
inductive OutD where
 | done (σ:St) (xs:List Rec)
 | call (f:FuncId) (args:List AV) (o:Oper) (rest:List Oper) (σ:St) (xs:List Rec)
 | yield (y:Nat) (args:List AV) (o:Oper) (rest:List Oper) (σ:St) (xs:List Rec)
 | stuck
def b5V (σ:St) (o:Oper) (h:Option (List Obj)):Option Nat :=
 match o.op with
 | .store _ (.tmp s) _ =>
   match σ.get s,h with
   | .eptr a _ _ _,some _=>some a
   | _,_=>none
 | _=>none
def a9z (A:Ar) (T:a0m) (an:Ann) (all:List Oper):List Oper->St->List Rec->OutD
 | [],σ,xs => .done σ xs
 | o::os,σ,xs =>
   match a2I all σ o with
   | some true =>
     match a2S T σ o with
     | some (f,args) => .call f args o os σ xs
     | none =>
       match callY T σ o with
       | some (y,args) => .yield y args o os σ xs
       | none =>
       match b9s A T an all σ o with
       | some u =>
         match b5V σ o u.heap with
         | some a=>a9z A T an all os (σ.upd u.sets u.heap) (xs++[{ sets:=u.sets,heap:=none,rd:=u.rd,hr:=true,ho:=u.ho,low:=(u.heap.getD []).take (a+1) }])
         | none=>a9z A T an all os (σ.upd u.sets u.heap) (xs++[{ sets:=u.sets,heap:=u.heap,rd:=u.rd,hr:=u.hr,ho:=u.ho,low:=[] }])
       | none => .stuck
   | some false =>
     match o.dst with
     | some d=>if decide (d<σ.n) && !(σ.get d).isBox then a9z A T an all os (σ.upd [(d,.tuple [])] none) (xs++[{ sets:=[(d,.tuple [])],heap:=none,rd:=a0q all o,hr:=false,ho:=[],low:=[] }]) else .stuck
     | none => .stuck
   | none => .stuck
def a1h (P:Program) (m:Nat) (ops:Array Oper) (l:List Oper) (xs:List Rec) (K:St->Prop) (σ:St):Prop :=
 ∃ (ys:List Rec) (σ':St),DSteps P m ops xs.length l σ ys σ'/\a2J ops.toList ((xs++ys).map Rec.foot)=true/\K σ'
section
variable {P:Program} {T:a0m} {m:Nat} {ops:Array Oper} {an:Ann} {K:St->Prop} {l:List Oper} {xs:List Rec} {σ:St}
theorem a1h.nil (hok:a2J ops.toList (xs.map Rec.foot)=true) (h:K σ):a1h P m ops [] xs K σ:=⟨[],σ,.nil _ _,by simpa using hok,h⟩
theorem a1h.cons {o:Oper} {x:Rec} (hs:a2K P m ops xs.length σ x) (h:a1h P m ops l (xs++[x]) K (x.app σ)):a1h P m ops (o::l) xs K σ:=by
 obtain ⟨ys,σ',h1,h2,h3⟩:=h;refine ⟨x::ys,σ',.cons _ _ _ _ _ _ _ hs (by simpa using h1),by simpa using h2,h3⟩
theorem b8g {ops:Array Oper} {o:Oper} {l:List Oper} {k:Nat} (hl:o::l=ops.toList.drop k):ops[k]?=some o/\l=ops.toList.drop (k+1):=by
 have h0:(ops.toList.drop k)[0]?=some o:=by rw [<-hl];rfl
 simp at h0;refine ⟨h0,?_⟩;have:=congrArg (List.drop 1) hl;simpa [List.drop_drop,Nat.add_comm] using this
def a8p (P:Program) (m:Nat) (ops:Array Oper) (T:a0m) (K:St->Prop):OutD->Prop
 | .done σ xs=>a2J ops.toList (xs.map Rec.foot)=true/\K σ
 | .call f args o rest σ xs=>a2S T σ o=some (f,args)->a2I ops.toList σ o=some true->ops[xs.length]?=some o->a1h P m ops (o::rest) xs K σ
 | .yield y args o rest σ xs=>callY T σ o=some (y,args)->a2I ops.toList σ o=some true->ops[xs.length]?=some o->a1h P m ops (o::rest) xs K σ
 | .stuck=>False
theorem a6M {A:Ar} {an:Ann} {n:Nat} {g:Nat->AV} {H h:List Obj} {o:Oper} {t:TypeId} {s:Nat} {y:Operand} {a k:Nat} {i:Int} {j:Nat} {ss:a2b} (hop:o.op = .store t (.tmp s) y) (hg:g s = .eptr a k i j)
  (he:a2F A T an n g H o=some (ss,some h)) : ∃ ob,h=H.set a ob:=by
 have e1:a9f A T an n g o=none:=rfl;have e2:a3S A T an n g H o=none:=by unfold a3S;simp only [hop]
 have e4:a8a A T an n g H o=none:=by unfold a8a;simp only [hop]
 have e6:a8b A T an n g H o=none:=by unfold a8b;simp only [hop,hg]
 unfold a2F at he;rw [e1,e4,e6] at he;cases hG:a8c A T an n g H o with
 | some r =>
   rw [hG] at he;simp only at he;subst he;unfold a8c at hG;simp only [hop,hg] at hG
   repeat' split at hG
   all_goals first
    | (cases hG;done)
    | (cases hG;exact ⟨_,rfl⟩)
 | none =>
 rw [hG,e2] at he;simp only at he;have e3:a5S g H (.tmp s) = .eptr a k i j:=by simp [a5S,a2v,hg]
 unfold a1f at he;simp only [hop,e3] at he
 repeat' split at he
 all_goals first
  | (cases he;done)
  | (cases he;exact ⟨_,rfl⟩)
theorem b4e {u:Upd} {a:Nat} {ob:Obj} {σ τ:St} (hh:u.heap=some (σ.heap.set a ob)) (hτ:true=true->τ.heap=σ.heap) :
  Rec.app τ { sets:=u.sets,heap:=none,rd:=u.rd,hr:=true,ho:=u.ho,low:=(u.heap.getD []).take (a+1) }=τ.upd u.sets u.heap:=by
 have hτ:=hτ rfl;unfold Rec.app;rw [hh];simp only [Option.getD_some,St.upd];congr 1;unfold a3Y;rw [hτ];by_cases ha:a<σ.heap.length
 ·rw [show ((σ.heap.set a ob).take (a+1)).length=a+1 by simp;omega];have:σ.heap.drop (a+1)=(σ.heap.set a ob).drop (a+1):=by rw [List.drop_set,if_pos (by omega)]
  rw [Option.getD_none,this,List.take_append_drop]
 rw [List.set_eq_of_length_le (by omega),Option.getD_none,List.take_of_length_le (by omega)];simp
theorem a2K.low {i:Nat} {u:Upd} {a:Nat} {ob:Obj} (hh:u.heap=some (σ.heap.set a ob))
  (h:a2K P m ops i σ { sets:=u.sets,heap:=u.heap,rd:=u.rd,hr:=u.hr,ho:=u.ho,low:=[] }) :
  a2K P m ops i σ { sets:=u.sets,heap:=none,rd:=u.rd,hr:=true,ho:=u.ho,low:=(u.heap.getD []).take (a+1) }:=by
 intro τ hrd hhr hho hn hm;have:=h τ hrd (fun _=>hhr rfl) hho hn hm;rw [b4e hh hhr];exact this
theorem b4f {A:Ar} {an:Ann} {all:List Oper} {o:Oper} {u:Upd} {a:Nat} (hl:b5V σ o u.heap=some a) (he:b9s A T an all σ o=some u) : ∃ ob,u.heap=some (σ.heap.set a ob):=by
 unfold b5V at hl;split at hl <;> try cases hl
 rename_i t s y hop;obtain ⟨k,i,j,h,hg,huh⟩ : ∃ k i j h,σ.get s = .eptr a k i j/\u.heap=some h:=by
  cases hg:σ.get s with
  | eptr a' k i j =>
    cases hu:u.heap with
    | none=>rw [hg,hu] at hl;cases hl
    | some h=>rw [hg,hu] at hl;cases hl;exact ⟨_,_,_,_,rfl,rfl⟩
  | _=>rw [hg] at hl;simp at hl
 clear hl;unfold b9s at he;simp only at he;have hin:(only (a8O σ.get all o) σ.get) s=σ.get s:=by
  unfold only;rw [if_pos];simp [a8O,a0q,hop,Op.operands,a4Q]
 split at he
 ·rename_i a' hho;simp [c2N,hop] at hho
 split at he
 ·rename_i ss h' hev;split at he
  ·rename_i hcond;cases he;cases h' with
   | none=>cases huh
   | some H' =>
     cases huh;have hhr:a1E an (only (a8O σ.get all o) σ.get) o=true:=by simpa using hcond
     rw [if_pos hhr] at hev;obtain ⟨ob,e⟩:=a6M hop (by rw [hin];exact hg) hev;exact ⟨ob,by rw [e]⟩
  cases he
 cases he
theorem a1h.run (hT:TOk P T) : ∀ (l:List Oper) (xs:List Rec) (σ:St),l=ops.toList.drop xs.length->a8p P m ops T K (a9z Ar.std T an ops.toList l σ xs)->a1h P m ops l xs K σ
 | [],xs,σ,_,h=>a1h.nil h.1 h.2
 | o::os,xs,σ,hl,h=>by
   obtain ⟨ho,hl'⟩:=b8g hl;unfold a9z at h;cases hw:a2I ops.toList σ o with
   | none=>simp [hw,a8p] at h
   | some b =>
     cases b with
     | true =>
       simp only [hw] at h;cases hc:a2S T σ o with
       | some p =>
         obtain ⟨f,args⟩:=p;simp only [hc] at h;exact h hc hw ho
       | none =>
         simp only [hc] at h;cases hy:callY T σ o with
         | some p =>
           obtain ⟨y,args⟩:=p;simp only [hy] at h;exact h hy hw ho
         | none =>
         simp only [hy] at h;cases he:b9s Ar.std T an ops.toList σ o with
         | none=>simp [he,a8p] at h
         | some u =>
           simp only [he] at h;cases hlo:b5V σ o u.heap with
           | none =>
             simp only [hlo] at h;exact a1h.cons (a2K.op hT ho hw he) (a1h.run hT os _ _ (by simpa using hl') h)
           | some a =>
             simp only [hlo] at h;obtain ⟨ob,hh⟩:=b4f hlo he;refine a1h.cons (a2K.low hh (a2K.op hT ho hw he)) (a1h.run hT os _ _ (by simpa using hl') ?_);rw [b4e hh (fun _=>rfl)];exact h
     | false =>
       simp only [hw] at h;cases hd:o.dst with
       | none=>simp [hd,a8p] at h
       | some d =>
         simp only [hd] at h;split at h
         ·rename_i hc;simp at hc;exact a1h.cons (a2K.skip ho hw hd hc.1 hc.2) (a1h.run hT os _ _ (by simpa using hl') h)
         exact h.elim
theorem a1h.done (hT:TOk P T) {σ':St} {xs':List Rec} (hl:l=ops.toList.drop xs.length) (h : ∀ A:Ar,A=Ar.std->a9z A T an ops.toList l σ xs = .done σ' xs') (hok:a2J ops.toList (xs'.map Rec.foot)=true) (hq:K σ'):a1h P m ops l xs K σ :=
 a1h.run (an:=an) hT l xs σ hl (by rw [h _ rfl];exact ⟨hok,hq⟩)
theorem a1h.stepCall (hT:TOk P T) {f:FuncId} {args:List AV} {o:Oper} {rest:List Oper} {σ1:St} {xs1:List Rec} {r:AV} {d:Nat} (hl:l=ops.toList.drop xs.length) (h : ∀ A:Ar,A=Ar.std->a9z A T an ops.toList l σ xs = .call f args o rest σ1 xs1)
  (hargs:a3L 0 args=true) (hd:o.dst=some d) (hlt:d<σ1.n) (hb:(σ1.get d).isBox=false) (hfr:args.all AV.free=true) (hc:a0c P f args [] r [])
  (k:a1h P m ops rest (xs1++[{ sets:=[(d,r)],heap:=none,rd:=a0q ops.toList o,hr:=false,ho:=[],low:=[] }]) K (σ1.upd [(d,r)] none)):a1h P m ops l xs K σ :=
 a1h.run (an:=an) hT l xs σ hl (by
  rw [h _ rfl];exact fun hcall hw ho=>a1h.cons (a2K.call ho hw hcall hargs hd hlt hb hfr hc) k)
theorem AWp.regionDraw {id:Nat} {Q:Exit->St->Prop} (hmix:P.follows .mixedOrders=true) (hm:m<=σ.heap.length) (h:a1h P m ops ops.toList [] (Q .normal) σ):AWp P m (.region id ops true) Q σ:=by
 obtain ⟨ys,σ',h1,h2,h3⟩:=h;exact AWp.regionD hmix hm h1 h2 h3
theorem a2u.stepCall (hT:TOk P T) {Q:Exit->St->Prop} {f:FuncId} {args:List AV} {o:Oper} {rest:List Oper} {σ1:St} {H Hr H':List Obj} {r:AV} {d:Nat} (h : ∀ A:Ar,A=Ar.std->a9v A T an ops.toList l σ = .call f args o rest σ1)
  (hm:m<=σ.heap.length) (hH:σ1.heap=H++Hr) (hr:Hr=[]\/H'.length=H.length) (hin:a0s H.length H=true) (hargs:a3L H.length args=true) (hd:o.dst=some d) (hlt:d<σ1.n) (hb:(σ1.get d).isBox=false)
  (hfr:args.all AV.free=true) (hc:a0c P f args H r H') (k:a2u P m ops rest Q { σ1 with env:=a3d σ1.env d r,heap:=H'++Hr }):a2u P m ops l Q σ :=
 a2u.run (an:=an) hT l σ hm (by
  rw [h _ rfl];intro hcall hw;refine a2u.call hw hcall hH hr hin hargs hd hlt hb hfr hc ?_;intro r n G a w Q' hm' R hQ;exact k r n G a w Q' hm' R (fun e a' w' hp=>by
   obtain ⟨σ',G',R',hE,hm'',hq⟩:=hp;exact hQ e a' w' ⟨σ',G',R',hE,hm'',fun _=>hq⟩))
end
section
variable {P:Program} {T:a0m} {m:Nat} {Q:Exit->St->Prop} {σ σ':St} {ops:Array Oper} {an:Ann} {id:Nat} {c:Code}
theorem AWp.reg1 (an:Ann) (hT:TOk P T) (h : ∀ A:Ar,A=Ar.std->a9v A T an ops.toList ops.toList σ = .done σ') (hm:m<=σ.heap.length) (k:Q .normal σ'):AWp P m (.region id ops false) Q σ :=
 AWp.region (a2u.done hT (an:=an) h hm k)
theorem AWp.reg1D (an:Ann) (hT:TOk P T) (hmix:P.follows .mixedOrders=true) {xs:List Rec} (h : ∀ A:Ar,A=Ar.std->a9z A T an ops.toList ops.toList σ [] = .done σ' xs) (hok:a2J ops.toList (xs.map Rec.foot)=true) (hm:m<=σ.heap.length) (k:Q .normal σ'):AWp P m (.region id ops true) Q σ :=
 AWp.regionDraw hmix hm (a1h.done hT (an:=an) rfl h hok k)
end
theorem RepV.fewer {G:Gh} {w:World} {k:Nat} {ℓ:Loc} {av:AV} {v:Value} (h:RepV G w ℓ av v):av.inb k=true->RepV { G with nh:=k } w ℓ av v:=by
 have tail : ∀ {ℓ:Loc} {k':Nat} {v:Value},b2H G w ℓ k' v->b2H { G with nh:=k } w ℓ k' v:=fun h=>h
 induction h with
 | undef ℓ v=>exact fun _ => .undef ℓ v
 | abool ℓ b=>exact fun _ => .abool ℓ b
 | d ℓ x v h=>exact fun _ => .d ℓ x v h
 | ptr ℓ a off ha=>intro hb;simp [AV.inb] at hb;exact RepV.ptr (G:={ G with nh:=k }) ℓ a off hb
 | nilptr ℓ=>exact fun _ => .nilptr ℓ
 | iptr ℓ cs b off vs hK h1 h=>exact fun _ => .iptr ℓ cs b off vs hK h1 h
 | own ℓ k l v h ht=>exact fun _ => .own ℓ k l v h (tail ht)
 | lim ℓ k l v h ht=>exact fun _ => .lim ℓ k l v h ht
 | tail ℓ k l v h ht=>exact fun _ => .tail ℓ k l v h ht
 | func ℓ f as bs va vb ha hb _ _ hc hc' ih ih' =>
   intro hbl;simp [AV.inb] at hbl;exact .func ℓ f as bs va vb ha hb (fun i hi=>ih i hi (a0R hbl.1 i hi)) (fun i hi=>ih' i hi (a0R hbl.2 i hi)) hc hc'
 | nilfunc ℓ=>exact fun _ => .nilfunc ℓ
 | yield ℓ l hl=>intro hb;simp [AV.inb] at hb;exact RepV.yield (G:={ G with nh:=k }) ℓ l hb
 | map ℓ a ha=>intro hb;simp [AV.inb] at hb;exact RepV.map (G:={ G with nh:=k }) ℓ a hb
 | nilmap ℓ=>exact fun _ => .nilmap ℓ
 | lbox t cs vs e hO hw hs _ hc ih =>
   intro hbl;simp [AV.inb] at hbl;exact RepV.lbox (G:={ G with nh:=k }) t cs vs e hO hw hs (fun j hj=>ih j hj (a0R hbl j hj)) hc
 | place ℓ r off=>exact fun _=>RepV.place (G:={ G with nh:=k }) ℓ r off
 | mref ℓ a k' lo n b off cap ha h1 h2 h3 h4=>intro hb;simp [AV.inb] at hb;exact RepV.mref (G:={ G with nh:=k }) ℓ a k' lo n b off cap hb h1 h2 h3 h4
 | mcap ℓ a k' lo n c b off cap ha h1 h2 h3 h4 h5=>intro hb;simp [AV.inb] at hb;exact RepV.mcap (G:={ G with nh:=k }) ℓ a k' lo n c b off cap hb h1 h2 h3 h4 h5
 | gref ℓ a k' p ha hc hq=>intro hb;simp [AV.inb] at hb;exact RepV.gref (G:={ G with nh:=k }) ℓ a k' p hb hc hq
 | fresh ℓ k l v h=>exact fun _ => .fresh ℓ k l v h
 | junk ℓ v h=>exact fun _ => .junk ℓ v h
 | eptr ℓ a k' i j ha hi=>intro hb;simp [AV.inb] at hb;exact RepV.eptr (G:={ G with nh:=k }) ℓ a k' i j hb hi
 | vptr ℓ a k' i j m z ha hi hz hm=>intro hb;simp [AV.inb] at hb;exact RepV.vptr (G:={ G with nh:=k }) ℓ a k' i j m z hb hi hz hm
 | agg ℓ cs vs hs _ hc hf ih =>
   intro hbl;simp [AV.inb] at hbl;exact .agg ℓ cs vs hs (fun i hi=>ih i hi (a0R hbl i hi)) hc hf
 | tuple ℓ cs vs hs _ hc ih =>
   intro hbl;simp [AV.inb] at hbl;exact .tuple ℓ cs vs hs (fun i hi=>ih i hi (a0R hbl i hi)) hc
theorem RelH.fewer {G:Gh} {H:List Obj} {w:World} (R:RelH G H w) {k:Nat} (hk:k<=H.length) (hb:a0s k (H.take k)=true):RelH { G with nh:=k } (H.take k) w:=by
 have hsub:Sub G { G with nh:=k } w w (fun _=>True) k:=⟨KLe.refl _,fun b ℓ f _ hO=>⟨hO,rfl⟩,fun _ _=>rfl,Nat.le_refl _⟩
 refine ⟨⟨R.sane.no⟩,by simp;omega,fun i ob hob => ?_,R.kept,R.disj⟩;have hi:i<k:=by have:=(zp2.1 hob).1;simp at this;omega
 rw [List.getElem?_take_of_lt hi] at hob;exact (R.objs i ob hob).sub R.sane hi hsub trivial (fun _=>trivial) (a3B hb i ob (by rw [List.getElem?_take_of_lt hi];exact hob))
def St.fit (σ:St) (ts:List Nat) (k:Nat):St:={ σ with env:=a9w σ.env ts,heap:=σ.heap.take k }
def St.fits (σ:St) (ts:List Nat) (k:Nat):Bool:=Nat.ble k σ.heap.length&&a3L k ((a9w σ.env ts).map (·.2))&&a0s k (σ.heap.take k)
theorem Rel.fit {G:Gh} {σ:St} {a:Act} {w:World} (R:Rel G σ a w) {ts:List Nat} {k:Nat} (h:σ.fits ts k=true):Rel { G with nh:=k } (σ.fit ts k) a w:=by
 simp only [St.fits,zp4,Nat.ble_eq] at h;obtain ⟨⟨h1,h2⟩,h3⟩:=h;have R':=R.keep ts;exact ⟨R.h.fewer h1 h3,R'.size,fun t=>(R'.slots t).fewer (a6E h2 t),R'.places,R'.df⟩
theorem Ext.nh {m:Nat} {G G':Gh} {w w':World} (h:Ext m G w G' w') (k:Nat):Ext m G w { G' with nh:=k } w':=⟨h.K,h.new,h.others,h.size,h.β,h.io⟩
section
variable {P:Program} {T:a0m} {m:Nat} {Q:Exit->St->Prop} {σ:St} {c:Code}
theorem AWp.fit (ts:List Nat) (k:Nat) (hm:m<=k) (hf:σ.fits ts k=true) (h:AWp P m c Q (σ.fit ts k)):AWp P m c Q σ:=by
 intro r n G a w hm' R;refine wpIn_mono (h r n _ a w hm (R.fit hf)) ?_;rintro e a' w' ⟨σ',G',R',hE,hm'',hQ⟩;exact ⟨σ',G',R',⟨hE.K,hE.new,hE.others,hE.size,hE.β,hE.io⟩,hm'',hQ⟩
theorem AWp.cut {x y:Code} (R:St->Prop) (h:AWp P m x (AExit.then R Q) σ) (k : ∀ σ',R σ'->AWp P m y Q σ'):AWp P m (.seq x y) Q σ:=by
 refine AWp.seq (AWp.mono h ?_);intro e σ' hq;cases e with
 | normal=>exact k σ' hq
 | _=>exact hq
end
section
variable {P:Program} {T:a0m} {m i:Nat} {ops:Array Oper} {σ:St} {o:Oper} {an:Ann}
theorem b2q {H:List Obj} : ∀ {τ:List Obj},(∀ a,a<H.length->τ[a]?=H[a]?) -> ∃ rest,τ=H++rest:=by
 induction H with
 | nil=>intro τ _;exact ⟨τ,rfl⟩
 | cons x H ih =>
   intro τ h;cases τ with
   | nil=>have:=h 0 (by simp);simp at this
   | cons y τ =>
     have h0:=h 0 (by simp);simp at h0;subst h0;obtain ⟨rest,rfl⟩:=ih (τ:=τ) (fun a ha=>by have:=h (a+1) (by simp;omega);simpa using this);exact ⟨rest,rfl⟩
theorem a2K.callL (ho:ops[i]?=some o) {f:FuncId} {args:List AV} {r:AV} {H rest H':List Obj} {d:Nat} (hw:a2I ops.toList σ o=some true) (hcall:a2S T σ o=some (f,args)) (hH:σ.heap=H++rest)
  (hl:H'.length=H.length) (hin:a0s H.length H=true)
  (hargs:a3L H.length args=true) (hd:o.dst=some d) (hlt:d<σ.n) (hb:(σ.get d).isBox=false) (hfr:args.all AV.free=true) (hc:a0c P f args H r H') :
  a2K P m ops i σ { sets:=[(d,r)],heap:=none,rd:=a0q ops.toList o,hr:=false,ho:=List.range H.length,low:=H' }:=by
 intro τ hrd _ hho hn hm;obtain ⟨rest',hheap⟩ : ∃ rest',τ.heap=H++rest':=b2q (fun a ha=>by
  rw [hho a (List.mem_range.2 ha),hH,zp7 ha])
 have happ:a3Y H' τ.heap=H'++rest':=by unfold a3Y;rw [hheap,hl,List.drop_left]
 obtain ⟨hcb,hrl,hri,hin',hHH,hcc⟩:=hc;refine ⟨by rw [a2m];exact Nat.le_trans hm (b4c _ _),fun rr n G a w Q' K R hK => ?_⟩;have hdm:d∈a0q ops.toList o:=by simp [a0q,hd]
 have hbτ:(τ.get d).isBox=false:=by rw [hrd d hdm];exact hb
 unfold wpOpIn;simp only [ho];rw [if_pos (a2A (b:=true) (by rw [a3m (σ:=σ) hrd];exact hw) R)];obtain ⟨hnd,vs,hrun,hvs,hrep⟩:=a6H (T:=T) (by rw [a6L (σ:=σ) hrd];exact hcall) hcb R;have RH:RelH G (H++rest') w:=by rw [<-hheap];exact R.h
 have hRh:=RH.handed hin;have hfr' : ∀ c∈args,c.free=true:=by simpa using hfr
 have hsub:Sub G (G.handed H.length) w w (fun ℓ=>ℓ = .no) H.length :=
  ⟨KLe.refl _,fun b ℓ f hl hO=>absurd (hl▸rfl) (R.h.sane.no b ℓ f hO),fun _ _=>rfl,Nat.le_refl _⟩
 refine ⟨fun _ _=>trivial,?_⟩;rw [Oper.semAt_eq _ _ _ hnd,hrun];refine ⟨fun hh=>by simp [Wd] at hh,?_⟩;refine CallsIn.mono (a5t (hcc (n-1) (G.handed H.length) w vs hvs (fun i hi => ?_) hRh (fun b ℓ f hO => ?_))) ?_
 ·exact (hrep i hi).sub R.h.sane hsub rfl (a0R hargs i hi) (AV.free_isLocal (hfr' _ (zp6 hi)))
 ·have:=(a2B hO).2;cases ℓ <;> simp [a1n] at this
  ·rename_i i;exact ⟨i,rfl⟩
  rename_i i j;exact ⟨i,rfl⟩
 rintro e w' ⟨v,G3,rfl,hv,R3,hE⟩;obtain ⟨R',hext⟩:=R.back (H:=H) (rest:=rest') hheap (.inr hl) hHH R3 hE hin' hv hrl hri (by rw [hn];exact hlt) hbτ;show K (a.put o.dst v) w';rw [hd];refine hK _ _ w' ?_ (hext m (by rw [<-R.h.nh];exact hm));simpa [Rec.app,St.upd,a0A,happ] using R'
variable {K:St->Prop} {l:List Oper} {xs:List Rec}
theorem a1h.stepCallL (hT:TOk P T) {f:FuncId} {args:List AV} {o:Oper} {rest:List Oper} {σ1:St} {xs1:List Rec} {r:AV} {H Hr H':List Obj} {d:Nat} (hl:l=ops.toList.drop xs.length) (h : ∀ A:Ar,A=Ar.std->a9z A T an ops.toList l σ xs = .call f args o rest σ1 xs1)
  (hH:σ1.heap=H++Hr) (hr:H'.length=H.length) (hin:a0s H.length H=true) (hargs:a3L H.length args=true) (hd:o.dst=some d) (hlt:d<σ1.n) (hb:(σ1.get d).isBox=false) (hfr:args.all AV.free=true) (hc:a0c P f args H r H')
  (k:a1h P m ops rest (xs1++[{ sets:=[(d,r)],heap:=none,rd:=a0q ops.toList o,hr:=false,ho:=List.range H.length,low:=H' }]) K (σ1.upd [(d,r)] (some (H'++Hr)))):a1h P m ops l xs K σ :=
 a1h.run (an:=an) hT l xs σ hl (by
  rw [h _ rfl];exact fun hcall hw ho=>a1h.cons (a2K.callL ho hw hcall hH hr hin hargs hd hlt hb hfr hc) (by
   have:Rec.app σ1 { sets:=[(d,r)],heap:=none,rd:=a0q ops.toList o,hr:=false,ho:=List.range H.length,low:=H' }=σ1.upd [(d,r)] (some (H'++Hr)):=by
    simp only [Rec.app,St.upd,Option.getD_none,Option.getD_some,a3Y,hH,hr,List.drop_left]
   rw [this];exact k))
end
end Go.Am
