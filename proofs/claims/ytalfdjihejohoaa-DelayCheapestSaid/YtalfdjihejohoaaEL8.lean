/- Own text: EL8. -/
import Derived.Test.YtalfdjihejohoaaD1ga
set_option maxRecDepth 100000
set_option linter.unusedVariables false
set_option linter.unusedSimpArgs false
set_option linter.unusedSectionVars false
namespace Go.Am
theorem holds_iff (f:Fen) (s:Sta):holdsF f s=true↔f.1=s.1/\s.2.1<=f.2/\f.2<s.2.2:=by
 unfold holdsF
 simp only [zp4,decide_eq_true_eq,and_assoc]
def sumW {α:Type} (F:List α) (w:α->Int):Int:=(F.map w).sum
theorem sumW_nil {α:Type} (w:α->Int):sumW [] w=0:=rfl
theorem sumW_cons {α:Type} (a:α) (F:List α) (w:α->Int):sumW (a::F) w=w a+sumW F w:=rfl
theorem sumW_le {α:Type} {F:List α} {w v:α->Int} (h : ∀ f∈F,w f<=v f):sumW F w<=sumW F v:=by
 induction F with
 | nil=>exact Int.le_refl _
 | cons a F ih =>
   rw [sumW_cons,sumW_cons]
   have h1:=h a (by simp)
   have h2:=ih fun f hf=>h f (by simp [hf])
   omega
theorem sumW_congr {α:Type} {F:List α} {w v:α->Int} (h : ∀ f∈F,w f=v f):sumW F w=sumW F v :=
 Int.le_antisymm (sumW_le fun f hf=>Int.le_of_eq (h f hf)) (sumW_le fun f hf=>Int.le_of_eq (h f hf).symm)
theorem sumW_add {α:Type} (F:List α) (w v:α->Int):sumW F (fun f=>w f+v f)=sumW F w+sumW F v:=by
 induction F with
 | nil=>rfl
 | cons a F ih=>rw [sumW_cons,sumW_cons,sumW_cons,ih];omega
theorem sumW_zero {α:Type} (F:List α):sumW F (fun _=>0)=0:=by
 induction F with
 | nil=>rfl
 | cons a F ih=>rw [sumW_cons,ih];rfl
theorem sumW_nonneg {α:Type} {F:List α} {w:α->Int} (h : ∀ f∈F,0<=w f):0<=sumW F w:=by
 have:=sumW_le (F:=F) (w:=fun _=>0) (v:=w) h
 rw [sumW_zero] at this;exact this
theorem sumW_one {α:Type} {F:List α} {w:α->Int} (h : ∀ f∈F,0<=w f) {g:α} (hg:g∈F):w g<=sumW F w:=by
 induction F with
 | nil=>cases hg
 | cons a F ih =>
   rw [sumW_cons]
   have h0:=h a (by simp)
   have h1:=sumW_nonneg (F:=F) (w:=w) fun f hf=>h f (by simp [hf])
   rcases List.mem_cons.1 hg with rfl | hg
   ·omega
   ·have:=ih (fun f hf=>h f (by simp [hf])) hg;omega
theorem sumW_at {α:Type} [DecidableEq α] {F:List α} (hn:F.Nodup) {g:α} (hg:g∈F) (p:Int):sumW F (fun f=>if f=g then p else 0)=p:=by
 induction F with
 | nil=>cases hg
 | cons a F ih =>
   rw [List.nodup_cons] at hn
   rw [sumW_cons]
   by_cases e:a=g
   ·subst e
    rw [if_pos rfl]
    have:sumW F (fun f=>if f=a then p else 0)=0 :=
     (sumW_congr (v:=fun _=>0) fun f hf=>if_neg (fun h:f=a=>hn.1 (by rw [<-h];exact hf))).trans (sumW_zero F)
    omega
   ·rw [if_neg e]
    have hg':g∈F:=(List.mem_cons.1 hg).resolve_left fun h=>e h.symm
    rw [ih hn.2 hg'];omega
theorem sumW_sub {α:Type} [DecidableEq α] {S F:List α} (h:S.Sublist F) (hn:F.Nodup) (c:α->Int):(S.map c).sum=sumW F (fun f=>if f∈S then c f else 0):=by
 induction h with
 | slnil=>rfl
 | cons a h ih =>
   rename_i S F
   rw [List.nodup_cons] at hn
   rw [sumW_cons,if_neg fun hm=>hn.1 (h.subset hm),ih hn.2];omega
 | cons_cons a h ih =>
   rename_i S F
   rw [List.nodup_cons] at hn
   rw [sumW_cons,if_pos (by simp),List.map_cons,List.sum_cons,ih hn.2]
   congr 1
   refine sumW_congr fun f hf => ?_
   have hfa : ¬ f=a:=fun e=>hn.1 (e▸hf)
   by_cases hs:f∈S
   ·rw [if_pos hs,if_pos (by simp [hs])]
   ·rw [if_neg hs,if_neg (by simp [hs,hfa])]
def upFrom (a:Int):Nat->List Int
 | 0=>[]
 | n+1=>a::upFrom (a+1) n
theorem mem_upFrom {g:Int} : ∀ {n:Nat} {a:Int},g∈upFrom a n↔a<=g/\g<a+n
 | 0,a=>by simp [upFrom] <;> omega
 | n+1,a=>by
   unfold upFrom
   rw [List.mem_cons,mem_upFrom (n:=n)]
   push_cast
   omega
def minL (m:Int):List Int->Int
 | []=>m
 | a::l=>minL (if a<m then a else m) l
theorem minL_le : ∀ (l:List Int) (m:Int),minL m l<=m /\ ∀ a∈l,minL m l<=a
 | [],m=>⟨Int.le_refl _,fun a h=>by cases h⟩
 | b::l,m=>by
   by_cases hc:b<m
   ·obtain ⟨h1,h2⟩:=minL_le l b
    have e:minL m (b::l)=minL b l:=by show minL (if b<m then b else m) l=_;rw [if_pos hc]
    rw [e]
    refine ⟨by omega,fun a ha => ?_⟩
    rcases List.mem_cons.1 ha with rfl | ha
    ·exact h1
    ·exact h2 a ha
   ·obtain ⟨h1,h2⟩:=minL_le l m
    have e:minL m (b::l)=minL m l:=by show minL (if b<m then b else m) l=_;rw [if_neg hc]
    rw [e]
    refine ⟨h1,fun a ha => ?_⟩
    rcases List.mem_cons.1 ha with rfl | ha
    ·omega
    ·exact h2 a ha
theorem minL_mem : ∀ (l:List Int) (m:Int),minL m l=m\/minL m l∈l
 | [],m => .inl rfl
 | b::l,m=>by
   unfold minL
   rcases minL_mem l (if b<m then b else m) with h | h
   ·split at h <;> rename_i hc
    ·rw [if_pos hc,h];exact .inr (by simp)
    ·rw [if_neg hc,h];exact .inl rfl
   ·exact .inr (List.mem_cons_of_mem _ h)
def priceOf (mx:Int) (L:Fen->Int) (s:Sta):Int:=minL mx ((upFrom s.2.1 (s.2.2-s.2.1).toNat).map fun g=>L (s.1,g))
def payL (L:Fen->Int) (s:Sta) (p:Int):Fen->Int:=fun f=>if holdsF f s=true then L f-p else L f
def greedy (mx:Int):List Sta->(Fen->Int)->List Int
 | [],_=>[]
 | s::Q,L=>priceOf mx L s::greedy mx Q (payL L s (priceOf mx L s))
theorem greedy_len (mx:Int) : ∀ (Q:List Sta) (L:Fen->Int),(greedy mx Q L).length=Q.length
 | [],_=>rfl
 | s::Q,L=>by unfold greedy;rw [List.length_cons,greedy_len mx Q,List.length_cons]
section
variable {mx:Int} {F:List Fen}
def InF (F:List Fen) (s:Sta):Prop:=s.2.1<s.2.2 /\ ∀ f,holdsF f s=true->f∈F
theorem price_le {L:Fen->Int} {s:Sta} {f:Fen} (h:holdsF f s=true):priceOf mx L s<=L f:=by
 obtain ⟨h1,h2,h3⟩:=(holds_iff f s).1 h
 refine (minL_le _ mx).2 _ (List.mem_map.2 ⟨f.2,mem_upFrom.2 ⟨h2,by omega⟩,?_⟩)
 rw [<-h1]
theorem price_at {L:Fen->Int} {s:Sta} (hs:InF F s) (hm : ∀ f∈F,L f<=mx) : ∃ f,holdsF f s=true/\L f=priceOf mx L s:=by
 have hlt:=hs.1
 have hf0:holdsF (s.1,s.2.1) s=true:=(holds_iff _ _).2 ⟨rfl,Int.le_refl _,hlt⟩
 rcases minL_mem ((upFrom s.2.1 (s.2.2-s.2.1).toNat).map fun g=>L (s.1,g)) mx with h | h
 ·refine ⟨(s.1,s.2.1),hf0,?_⟩
  have h1:=hm _ (hs.2 _ hf0)
  have h2:=price_le (mx:=mx) (L:=L) hf0
  have h3:priceOf mx L s=mx:=h
  omega
 ·obtain ⟨g,hg,e⟩:=List.mem_map.1 h
  obtain ⟨g1,g2⟩:=mem_upFrom.1 hg
  exact ⟨(s.1,g),(holds_iff _ _).2 ⟨rfl,g1,by omega⟩,e⟩
theorem price_nonneg {L:Fen->Int} {s:Sta} (hs:InF F s) (hm : ∀ f∈F,L f<=mx) (h0 : ∀ f∈F,0<=L f):0<=priceOf mx L s:=by
 obtain ⟨f,h1,h2⟩:=price_at hs hm
 rw [<-h2];exact h0 f (hs.2 f h1)
theorem pay_ok {L:Fen->Int} {s:Sta} (hs:InF F s) (hm : ∀ f∈F,L f<=mx) (h0 : ∀ f∈F,0<=L f) :
  (∀ f∈F,payL L s (priceOf mx L s) f<=mx) /\ ∀ f∈F,0<=payL L s (priceOf mx L s) f:=by
 have hp:=price_nonneg hs hm h0
 refine ⟨fun f hf => ?_,fun f hf => ?_⟩ <;> unfold payL
 ·have:=hm f hf;split <;> omega
 ·have:=h0 f hf
  split
  ·rename_i h;have:=price_le (mx:=mx) (L:=L) h;omega
  ·exact this
theorem greedy_nonneg : ∀ (Q:List Sta) (L:Fen->Int),(∀ s∈Q,InF F s)->(∀ f∈F,L f<=mx)->(∀ f∈F,0<=L f) -> ∀ p∈greedy mx Q L,0<=p/\p<=mx
 | [],_,_,_,_,p,hp=>by cases hp
 | s::Q,L,hQ,hm,h0,p,hp=>by
   unfold greedy at hp
   rcases List.mem_cons.1 hp with rfl | hp
   ·exact ⟨price_nonneg (hQ s (by simp)) hm h0,(minL_le _ mx).1⟩
   ·obtain ⟨a,b⟩:=pay_ok (hQ s (by simp)) hm h0
    exact greedy_nonneg Q _ (fun u hu=>hQ u (by simp [hu])) a b p hp
def paid (f:Fen) (l:List (Sta×Int)):Int:=sumW l fun q=>if holdsF f q.1=true then q.2 else 0
theorem greedy_fits : ∀ (Q:List Sta) (L:Fen->Int),(∀ s∈Q,InF F s)->(∀ f∈F,L f<=mx)->(∀ f∈F,0<=L f) -> ∀ f∈F,paid f (Q.zip (greedy mx Q L))<=L f
 | [],L,_,_,h0,f,hf=>h0 f hf
 | s::Q,L,hQ,hm,h0,f,hf=>by
   obtain ⟨a,b⟩:=pay_ok (hQ s (by simp)) hm h0
   have ih:=greedy_fits Q _ (fun u hu=>hQ u (by simp [hu])) a b f hf
   have key:paid f ((s::Q).zip (greedy mx (s::Q) L))=(if holdsF f s=true then priceOf mx L s else 0)+paid f (Q.zip (greedy mx Q (payL L s (priceOf mx L s)))):=rfl
   rw [key]
   generalize paid f (Q.zip (greedy mx Q (payL L s (priceOf mx L s))))=w at ih
   unfold payL at ih
   by_cases h:holdsF f s=true
   ·rw [if_pos h] at ih ⊢;omega
   ·rw [if_neg h] at ih ⊢;omega
theorem greedy_strong (hn:F.Nodup) : ∀ (Q:List Sta) (L:Fen->Int),Q.Pairwise (fun s u=>s.2.2<=u.2.2)->(∀ s∈Q,InF F s)->(∀ f∈F,L f<=mx)->(∀ f∈F,0<=L f) ->
  ∃ φ:Fen->Prop,∃ _:DecidablePred φ,(∀ s∈Q,∃ f∈F,φ f/\holdsF f s=true)/\sumW F (fun f=>if φ f then L f else 0)<=(greedy mx Q L).sum
 | [],L,_,_,_,h0=>⟨fun _=>False,inferInstance,fun s hs=>(by cases hs),Int.le_of_eq (by simp only [if_false];exact sumW_zero F)⟩
 | s::Q,L,hord,hQ,hm,h0=>by
   rw [List.pairwise_cons] at hord
   have hs:=hQ s (by simp)
   obtain ⟨a,b⟩:=pay_ok hs hm h0
   obtain ⟨φ,hd,hit,hle⟩:=greedy_strong hn Q _ hord.2 (fun u hu=>hQ u (by simp [hu])) a b
   have hp:=price_nonneg hs hm h0
   have hsum:(greedy mx (s::Q) L).sum=priceOf mx L s+(greedy mx Q (payL L s (priceOf mx L s))).sum:=rfl
   by_cases hex : ∃ f∈F,φ f/\holdsF f s=true
   ·
    have hmax : ∀ (n:Nat) (f:Fen),(s.2.2-f.2).toNat<=n->f∈F->φ f->holdsF f s=true -> ∃ g∈F,φ g/\holdsF g s=true /\ ∀ f∈F,φ f->holdsF f s=true->f.2<=g.2:=by
     intro n
     induction n with
     | zero =>
       intro f h1 h2 h3 h4
       have:=(holds_iff f s).1 h4
       omega
     | succ n ih =>
       intro f h1 h2 h3 h4
       by_cases hall : ∀ g∈F,φ g->holdsF g s=true->g.2<=f.2
       ·exact ⟨f,h2,h3,h4,hall⟩
       ·simp only [Classical.not_forall] at hall
        obtain ⟨g,q1,q2,q3,q4⟩:=hall
        refine ih g ?_ q1 q2 q3
        have:=(holds_iff f s).1 h4
        omega
    obtain ⟨f0,m1,m2,m3⟩:=hex
    obtain ⟨g,g1,g2,g3,g4⟩:=hmax _ f0 (Nat.le_refl _) m1 m2 m3
    obtain ⟨e1,e2,e3⟩:=(holds_iff g s).1 g3
    refine ⟨fun f=>φ f/\(holdsF f s=false\/f=g),inferInstance,fun u hu => ?_,?_⟩
    ·rcases List.mem_cons.1 hu with rfl | hu
     ·exact ⟨g,g1,⟨g2,.inr rfl⟩,g3⟩
     ·obtain ⟨f,k1,k2,k3⟩:=hit u hu
      by_cases hf:holdsF f s=true
      ·obtain ⟨r1,r2,r3⟩:=(holds_iff f s).1 hf
       obtain ⟨t1,t2,t3⟩:=(holds_iff f u).1 k3
       have:=g4 f k1 k2 hf
       have hend:=hord.1 u hu
       exact ⟨g,g1,⟨g2,.inr rfl⟩,(holds_iff g u).2 ⟨by omega,by omega,by omega⟩⟩
      ·exact ⟨f,k1,⟨k2,.inl (by simpa using hf)⟩,k3⟩
    ·have h1:sumW F (fun f=>if φ f/\(holdsF f s=false\/f=g) then L f else 0)<=sumW F (fun f=>(if φ f then payL L s (priceOf mx L s) f else 0)+(if f=g then priceOf mx L s else 0)):=by
      refine sumW_le fun f hf => ?_
      have hbf:=b f hf
      by_cases hφ:φ f
      ·rw [if_pos hφ]
       by_cases hg:f=g
       ·subst hg
        rw [if_pos ⟨hφ,.inr rfl⟩,if_pos rfl]
        unfold payL
        rw [if_pos g3];omega
       ·rw [if_neg hg]
        by_cases hh:holdsF f s=true
        ·rw [if_neg (by rintro ⟨_,h | h⟩;rw [hh] at h;cases h;exact hg h)];omega
        ·rw [if_pos ⟨hφ,.inl (by simpa using hh)⟩]
         unfold payL
         rw [if_neg hh];omega
      ·rw [if_neg (fun h=>hφ h.1),if_neg hφ]
       split <;> omega
     rw [sumW_add,sumW_at hn g1] at h1
     refine Int.le_trans h1 ?_
     rw [hsum];omega
   ·obtain ⟨g,g1,g2⟩:=price_at hs hm
    have gF:=hs.2 g g1
    have hno : ∀ f∈F,φ f->holdsF f s=false:=fun f hf h=>by
     cases hh:holdsF f s with
     | false=>rfl
     | true=>exact absurd ⟨f,hf,h,hh⟩ hex
    refine ⟨fun f=>φ f\/f=g,inferInstance,fun u hu => ?_,?_⟩
    ·rcases List.mem_cons.1 hu with rfl | hu
     ·exact ⟨g,gF,.inr rfl,g1⟩
     ·obtain ⟨f,k1,k2,k3⟩:=hit u hu
      exact ⟨f,k1,.inl k2,k3⟩
    ·have h1:sumW F (fun f=>if φ f\/f=g then L f else 0)<=sumW F (fun f=>(if φ f then payL L s (priceOf mx L s) f else 0)+(if f=g then priceOf mx L s else 0)):=by
      refine sumW_le fun f hf => ?_
      by_cases hg:f=g
      ·subst hg
       have : ¬ φ f:=fun h=>by rw [hno f hf h] at g1;cases g1
       rw [if_pos (.inr rfl),if_neg this,if_pos rfl,g2];omega
      ·rw [if_neg hg]
       by_cases hφ:φ f
       ·rw [if_pos (.inl hφ),if_pos hφ]
        unfold payL
        rw [if_neg (by rw [hno f hf hφ];simp)];omega
       ·rw [if_neg (by rintro (h | h);exact hφ h;exact hg h),if_neg hφ];omega
     rw [sumW_add,sumW_at hn gF] at h1
     refine Int.le_trans h1 ?_
     rw [hsum];omega
theorem weak {c:Fen->Int} (φ:Fen->Prop) [DecidablePred φ] : ∀ (l:List (Sta×Int)),(∀ q∈l,0<=q.2)->(∀ q∈l,∃ f∈F,φ f/\holdsF f q.1=true) ->
  sumW l (fun q=>q.2)<=sumW F (fun f=>if φ f then paid f l else 0)
 | [],_,_=>by
   refine Int.le_of_eq ((sumW_congr (w:=fun f=>if φ f then paid f [] else 0) (v:=fun _=>0) fun f hf => ?_).trans (sumW_zero F)).symm
   split <;> rfl
 | (s,p)::l,h0,hit=>by
   have ih:=weak (c:=c) φ l (fun q hq=>h0 q (by simp [hq])) (fun q hq=>hit q (by simp [hq]))
   have hp:=h0 (s,p) (by simp)
   obtain ⟨g,g1,g2,g3⟩:=hit (s,p) (by simp)
   have h1:sumW F (fun f=>if φ f then paid f ((s,p)::l) else 0)=sumW F (fun f=>(if φ f/\holdsF f s=true then p else 0)+(if φ f then paid f l else 0)):=by
    refine sumW_congr fun f hf => ?_
    by_cases hφ:φ f
    ·rw [if_pos hφ,if_pos hφ]
     unfold paid
     rw [sumW_cons]
     by_cases hh:holdsF f s=true
     ·rw [if_pos hh,if_pos ⟨hφ,hh⟩]
     ·rw [if_neg hh,if_neg fun h=>hh h.2]
    ·rw [if_neg hφ,if_neg hφ,if_neg fun h=>hφ h.1];rfl
   rw [h1,sumW_add,sumW_cons]
   have h2:=sumW_one (F:=F) (w:=fun f=>if φ f/\holdsF f s=true then p else 0) (fun f hf=>by show 0<=(if _ then p else 0);split;exact hp;exact Int.le_refl _) g1
   simp only [if_pos (show φ g/\holdsF g s=true from ⟨g2,g3⟩)] at h2
   show p+sumW l (fun q=>q.2)<=_
   omega
end
end Go.Am

namespace Go.Am
def ltFen (f g:Fen):Bool:=decide (f.1<g.1)||(decide (f.1=g.1)&&decide (f.2<g.2))
theorem ltFen_iff (f g:Fen):ltFen f g=true↔f.1<g.1\/(f.1=g.1/\f.2<g.2):=by
 unfold ltFen
 simp only [Bool.or_eq_true,zp4,decide_eq_true_eq]
theorem ltFen_irr (f:Fen):ltFen f f=false:=by
 rw [<-Bool.not_eq_true,ltFen_iff];omega
theorem ltFen_tr {f g h:Fen} (a:ltFen f g=true) (b:ltFen g h=true):ltFen f h=true:=by
 rw [ltFen_iff] at *;omega
theorem ltFen_tot {f g:Fen} (h:f≠g):ltFen f g=true\/ltFen g f=true:=by
 obtain ⟨a,b⟩:=f;obtain ⟨c,d⟩:=g
 rw [ltFen_iff,ltFen_iff]
 simp only [ne_eq,Prod.mk.injEq] at h
 show (a<c\/a=c/\b<d)\/(c<a\/c=a/\d<b)
 omega
def lexB:List Fen->List Fen->Bool
 | [],[]=>false
 | [],_::_=>true
 | _::_,[]=>false
 | f::l,g::m=>bif decide (f=g) then lexB l m else ltFen f g
theorem lexB_irr : ∀ l,lexB l l=false
 | []=>rfl
 | f::l=>by unfold lexB;rw [decide_eq_true rfl,cond_true];exact lexB_irr l
theorem lexB_tr : ∀ {a b c:List Fen},lexB a b=true->lexB b c=true->lexB a c=true
 | [],[],_,h,_=>by cases h
 | [],_::_,[],_,h=>by cases h
 | [],_::_,_::_,_,_=>rfl
 | _::_,[],_,h,_=>by cases h
 | _::_,_::_,[],_,h=>by cases h
 | f::a,g::b,k::c,h1,h2=>by
   unfold lexB at h1 h2 ⊢
   by_cases e1:f=g
   ·subst e1
    rw [decide_eq_true rfl,cond_true] at h1
    by_cases e2:f=k
    ·subst e2
     rw [decide_eq_true rfl,cond_true] at h2 ⊢
     exact lexB_tr h1 h2
    ·rw [decide_eq_false e2,cond_false] at h2 ⊢;exact h2
   ·rw [decide_eq_false e1,cond_false] at h1
    by_cases e2:g=k
    ·subst e2
     rw [decide_eq_false e1,cond_false];exact h1
    ·rw [decide_eq_false e2,cond_false] at h2
     have h3:=ltFen_tr h1 h2
     have e3:f≠k:=fun e=>by subst e;rw [ltFen_irr] at h3;cases h3
     rw [decide_eq_false e3,cond_false];exact h3
theorem lexB_tot : ∀ {a b:List Fen},a≠b->lexB a b=true\/lexB b a=true
 | [],[],h=>absurd rfl h
 | [],_::_,_ => .inl rfl
 | _::_,[],_ => .inr rfl
 | f::a,g::b,h=>by
   unfold lexB
   by_cases e:f=g
   ·subst e
    rw [decide_eq_true rfl,cond_true,cond_true]
    exact lexB_tot fun e=>h (by rw [e])
   ·rw [decide_eq_false e,decide_eq_false (fun e'=>e e'.symm),cond_false,cond_false]
    exact ltFen_tot e
section
variable (w:List Fen->Int)
def bet (l m:List Fen):Bool:=decide (w l<w m)||(decide (w l=w m)&&lexB l m)
theorem bet_iff (l m:List Fen):bet w l m=true↔w l<w m\/(w l=w m/\lexB l m=true):=by
 unfold bet
 simp only [Bool.or_eq_true,zp4,decide_eq_true_eq]
theorem bet_irr (l:List Fen):bet w l l=false:=by
 rw [<-Bool.not_eq_true,bet_iff,lexB_irr];simp
theorem bet_tr {a b c:List Fen} (h1:bet w a b=true) (h2:bet w b c=true):bet w a c=true:=by
 rw [bet_iff] at *
 rcases h1 with h1 | ⟨h1,h1'⟩ <;> rcases h2 with h2 | ⟨h2,h2'⟩
 ·exact .inl (by omega)
 ·exact .inl (by omega)
 ·exact .inl (by omega)
 ·exact .inr ⟨by omega,lexB_tr h1' h2'⟩
theorem bet_tot {a b:List Fen} (h:a≠b):bet w a b=true\/bet w b a=true:=by
 rw [bet_iff,bet_iff]
 rcases Int.lt_trichotomy (w a) (w b) with h1 | h1 | h1
 ·exact .inl (.inl h1)
 ·rcases lexB_tot h with h2 | h2
  ·exact .inl (.inr ⟨h1,h2⟩)
  ·exact .inr (.inr ⟨h1.symm,h2⟩)
 ·exact .inr (.inl h1)
def Best (P:List Fen->Prop) (S:List Fen):Prop:=P S /\ ∀ l,P l->bet w l S=false
theorem Best.uniq {P:List Fen->Prop} {S T:List Fen} (h:Best w P S) (h':Best w P T):S=T:=by
 by_cases e:S=T
 ·exact e
 ·rcases bet_tot w e with k | k
  ·rw [h'.2 S h.1] at k;cases k
  ·rw [h.2 T h'.1] at k;cases k
end
end Go.Am
