/- Own text: JH20. -/
import Derived.Test.YtkjeamngjnfpkaaJH12
set_option maxRecDepth 100000
set_option linter.unusedVariables false
set_option linter.unusedSimpArgs false
namespace Go.Am
open Go
def und (m:Int) (d:Call):Bool:=decide (d.fr<=m)&&(decide (d.to=0)||decide (m<=d.to))
def many (h:List Call) (m:Int):Nat:=(h.filter (und m)).length
section
variable {h:List Call}
end
end Go.Am

namespace Go.Am
open Go
section
variable {S:List Spec} {h:List Call} {must:Call->Call->Bool}
theorem isOrdM_parts {l:List Int} (ho:isOrdM S h must l=true):(∀ x∈l,inH h x=true)/\l.Nodup/\(∀ (i:Nat) c,h[i]?=some c->c.to≠0->(i:Int)∈l)/\l.Pairwise (fun y x=>must (hc h x) (hc h y)=false)/\allowsL S h l=true:=by
 simp only [isOrdM,isL,zp4] at ho
 obtain ⟨⟨o1,o2⟩,o3,o4⟩:=ho
 obtain ⟨n1,n2⟩:=nums_iff.1 o1
 exact ⟨n1,n2,full_iff.1 o2,(keepsL_iff _ _ _).1 o3,o4⟩
end
end Go.Am

namespace Go.Am
open Go
def playOk (S:List Spec) (c:Call):Bool:=decide (c.sa=0)&&(decide (c.fr=0)&&(decide (c.to=0)&&(btw 0 c.ob ((S.length:Int)-1)&&(btw 0 c.op ((spOf S c).2.1-1)&&btw 0 c.th 3))))
section
variable (S:List Spec) (w:List Call) (hs:SpecsOk S) (hw:w.length<Lg)
include hs hw
end
end Go.Am
namespace Go.Am
section
variable (S:List Spec) (w:List Call) (hs:SpecsOk S) (hw:w.length<Lg)
include hs hw
end
end Go.Am

namespace Go.Am
open Go
section
variable {S:List Spec}
section
variable {w:List Call} (ha:areS S=true) (h8:w.length<=8) (hp:w.all (playOk S)=true)
include ha h8 hp
end
end
end Go.Am

namespace Go.Am
open Go
theorem validH_pw {h:List Call}:validH h=true↔h.length<=8/\(∀ c∈h,callOk c=true)/\h.Pairwise fun d c=>meet c d=false:=by
 rw [validH_iff]
 constructor
 ·rintro ⟨h1,h2⟩
  refine ⟨h1,fun c hc => ?_,?_⟩
  ·obtain ⟨i,hi,rfl⟩:=List.getElem_of_mem hc
   exact (h2 i _ (zp1 hi)).1
  ·rw [List.pairwise_iff_getElem]
   intro i j hi hj hij
   refine (h2 j _ (zp1 hj)).2 _ ?_
   have hlt:i<(h.take j).length:=by simp;omega
   have e:(h.take j)[i]=h[i]:=List.getElem_take
   rw [<-e];exact zp6 hlt
 ·rintro ⟨h1,h2,h3⟩
  refine ⟨h1,fun i c hc=>⟨h2 c (List.mem_of_getElem? hc),fun d hd => ?_⟩⟩
  obtain ⟨hi,rfl⟩:=zp2.1 hc
  obtain ⟨j,hj,rfl⟩:=List.getElem_of_mem hd
  have hj1:j<i/\j<h.length:=by simp at hj;omega
  rw [List.getElem_take]
  exact List.pairwise_iff_getElem.1 h3 j i hj1.2 hi hj1.1
theorem validH_nodup {h:List Call} (hv:validH h=true):h.Nodup:=by
 obtain ⟨h1,h2,h3⟩:=validH_pw.1 hv
 refine h3.imp ?_
 intro a b hm e
 subst e
 unfold meet at hm
 simp at hm
def alw (S:List Spec):List Call->Int×Int->Bool
 | [],_=>true
 | c::L,s=>okS S c s&&alw S L (doS S c s)
theorem allowsF_alw (S:List Spec) (h:List Call) : ∀ (l:List Int) (s:Int×Int),allowsF S h l s=alw S (l.map (hc h)) s
 | [],_=>rfl
 | x::l,s=>by simp only [allowsF,List.map_cons,alw,allowsF_alw S h l]
structure LinC (S:List Spec) (h L:List Call):Prop where
 nd:L.Nodup
 sub : ∀ c∈L,c∈h
 full : ∀ c∈h,c.to≠0->c∈L
 keep:L.Pairwise fun y x=>bef x y=false
 allow:alw S L (0,0)=true
theorem lin_iff {S:List Spec} {h:List Call} (hv:validH h=true):ords0 S h≠[] ↔ ∃ L,LinC S h L:=by
 obtain ⟨_,hok,_⟩:=validH_pw.1 hv
 have hnd:=validH_nodup hv
 constructor
 ·intro hne
  obtain ⟨l,hl⟩ : ∃ l,l∈ords0 S h:=by
   cases ho:ords0 S h with
   | nil=>exact absurd ho hne
   | cons a r=>exact ⟨a,by simp⟩
  obtain ⟨x1,x2,x3,x4,x5⟩:=isOrdM_parts ((mem_ords0 hok (bef_must hok) l).1 hl)
  refine ⟨(cN l).map (hc h),?_,?_,?_,?_,?_⟩
  ·rw [List.Nodup,List.pairwise_map]
   refine List.Pairwise.imp_of_mem ?_ x2
   intro a b ha hb hne e
   have ga:=hc_get (x1 a ha)
   have gb:=hc_get (x1 b hb)
   have ia:=inH_iff.1 (x1 a ha)
   have ib:=inH_iff.1 (x1 b hb)
   rw [e] at ga
   have:=(zp2.1 ga)
   have hb2:=(zp2.1 gb)
   have heq:a.toNat=b.toNat:=by
    refine (List.getElem_inj hnd (h₀:=this.1) (h₁:=hb2.1)).1 ?_
    rw [this.2,hb2.2]
   omega
  ·intro c hc'
   obtain ⟨x,hx,rfl⟩:=List.mem_map.1 hc'
   exact hc_mem (x1 x hx)
  ·intro c hcm hto
   obtain ⟨i,hi,rfl⟩:=List.getElem_of_mem hcm
   have hg:=zp1 hi
   exact List.mem_map.2 ⟨(i:Int),x3 i _ hg hto,hc_nat hg⟩
  ·rw [List.pairwise_map];exact x4
  ·rw [<-allowsF_alw];exact x5
 ·rintro ⟨L,hL⟩ hnil
  have hidx : ∀ c∈L,∃ i:Nat,h[i]?=some c:=fun c hcm=>by
   obtain ⟨i,hi,e⟩:=List.getElem_of_mem (hL.sub c hcm)
   exact ⟨i,by rw [zp1 hi,e]⟩
  have hl : ∃ l:List Nat,(cN l).map (hc h)=L /\ ∀ x∈cN l,inH h x=true:=by
   have : ∀ L:List Call,(∀ c∈L,∃ i:Nat,h[i]?=some c) -> ∃ l:List Nat,(cN l).map (hc h)=L /\ ∀ x∈cN l,inH h x=true:=by
    intro L
    induction L with
    | nil=>intro _;exact ⟨[],rfl,by simp [cN]⟩
    | cons c L ih =>
      intro hx
      obtain ⟨l,h1,h2⟩:=ih (fun d hd=>hx d (by simp [hd]))
      obtain ⟨i,hi⟩:=hx c (by simp)
      refine ⟨i::l,?_,?_⟩
      ·show hc h (i:Int)::(cN l).map (hc h)=c::L
       rw [hc_nat hi,h1]
      ·intro x hxm
       rcases List.mem_cons.1 (show x∈(i:Int)::cN l from hxm) with rfl | hxm
       ·have:=(zp2.1 hi).1
        exact inH_iff.2 ⟨by omega,by omega⟩
       ·exact h2 x hxm
   exact this L hidx
  obtain ⟨l,h1,h2⟩:=hl
  have hmem:l∈ords0 S h:=by
   refine (mem_ords0 hok (bef_must hok) l).2 ?_
   simp only [isOrdM,isL,zp4]
   refine ⟨⟨nums_iff.2 ⟨h2,?_⟩,full_iff.2 fun i c hi hto => ?_⟩,(keepsL_iff _ _ _).2 ?_,?_⟩
   ·have:=hL.nd
    rw [<-h1,List.Nodup,List.pairwise_map] at this
    exact this.imp fun hq e=>hq (by rw [e])
   ·have hcm:=hL.full c (List.mem_of_getElem? hi) hto
    rw [<-h1] at hcm
    obtain ⟨x,hx,e⟩:=List.mem_map.1 hcm
    have gx:=hc_get (h2 x hx)
    have ix:=inH_iff.1 (h2 x hx)
    rw [e] at gx
    have a1:=zp2.1 gx
    have a2:=zp2.1 hi
    have:x.toNat=i:=(List.getElem_inj hnd (h₀:=a1.1) (h₁:=a2.1)).1 (by rw [a1.2,a2.2])
    have:x=(i:Int):=by omega
    rw [<-this];exact hx
   ·have:=hL.keep
    rw [<-h1,List.pairwise_map] at this
    exact this
   ·show allowsF S h (cN l) (0,0)=true
    rw [allowsF_alw,h1];exact hL.allow
  rw [hnil] at hmem
  cases hmem
end Go.Am

set_option linter.unusedSectionVars false
namespace Go.Am
open Go
section
variable {τ ρ:Type} {c:Cod τ} {l:List D}
end
end Go.Am

namespace Go.Am
open Go
section
variable {h:List Call} (hl:h.length<Lg) {i b e:Int}
include hl
end
end Go.Am

namespace Go.Am
open Go
section
variable {h:List Call}
end
end Go.Am

namespace Go.Am
open Go
theorem cut_not {m:Int} {c:Call} (h : ¬ m<c.to):cutC m c=c:=by unfold cutC;rw [decide_eq_false h];rfl
theorem cut_yes {m:Int} {c:Call} (h:m<c.to):cutC m c=(c.1,c.2.1,c.2.2.1,0,c.2.2.2.2.1,0):=by unfold cutC;rw [decide_eq_true h];rfl
theorem cut_th (m:Int) (c:Call):(cutC m c).th=c.th:=by by_cases h:m<c.to;rw [cut_yes h];rw [cut_not h]
theorem cut_ob (m:Int) (c:Call):(cutC m c).ob=c.ob:=by by_cases h:m<c.to;rw [cut_yes h];rw [cut_not h]
theorem cut_op (m:Int) (c:Call):(cutC m c).op=c.op:=by by_cases h:m<c.to;rw [cut_yes h];rw [cut_not h]
theorem cut_fr (m:Int) (c:Call):(cutC m c).fr=c.fr:=by by_cases h:m<c.to;rw [cut_yes h];rw [cut_not h]
theorem cut_to (m:Int) (c:Call):(cutC m c).to=c.to /\ ¬ m<c.to\/(cutC m c).to=0/\m<c.to:=by
 by_cases h:m<c.to
 ·right;rw [cut_yes h];exact ⟨rfl,h⟩
 ·left;rw [cut_not h];exact ⟨rfl,h⟩
theorem cut_ok {m:Int} {c:Call} (h:callOk c=true):callOk (cutC m c)=true:=by
 by_cases hm:m<c.to
 ·rw [cut_yes hm]
  obtain ⟨h1,h2,h3,h4,h5,h6⟩:=(callOk_iff c).1 h
  exact (callOk_iff _).2 ⟨h1,h2,h3,⟨Int.le_refl 0,by show (0:Int)<=9;omega⟩,h5,.inl ⟨rfl,rfl⟩⟩
 ·rw [cut_not hm];exact h
theorem meet_iff (c d:Call):meet c d=true↔(c.fr=d.fr\/c.fr=d.to\/c.to=d.fr\/(c.to≠0/\c.to=d.to))\/(c.th=d.th /\ ¬ (c.to≠0/\c.to<d.fr) /\ ¬ (d.to≠0/\d.to<c.fr)):=by
 simp only [meet,bef,Bool.or_eq_true,zp4,decide_eq_true_eq,Bool.not_eq_true',Bool.and_eq_false_iff,decide_eq_false_iff_not,not_and]
 constructor
 ·rintro (h | ⟨h1,h2,h3⟩)
  ·exact .inl h
  ·refine .inr ⟨h1,fun h => ?_,fun h => ?_⟩
   ·rcases h2 with h2 | h2
    ·exact absurd h h2
    ·exact h2
   ·rcases h3 with h3 | h3
    ·exact absurd h h3
    ·exact h3
 ·rintro (h | ⟨h1,h2,h3⟩)
  ·exact .inl h
  ·refine .inr ⟨h1,?_,?_⟩
   ·by_cases h:c.to≠0
    ·exact .inr (h2 h)
    ·exact .inl h
   ·by_cases h:d.to≠0
    ·exact .inr (h3 h)
    ·exact .inl h
theorem meet_no {c d:Call}:meet c d=false ↔ ¬ ((c.fr=d.fr\/c.fr=d.to\/c.to=d.fr\/(c.to≠0/\c.to=d.to))\/(c.th=d.th /\ ¬ (c.to≠0/\c.to<d.fr) /\ ¬ (d.to≠0/\d.to<c.fr))):=by
 rw [<-meet_iff];simp
theorem cut_meet {m:Int} {c d:Call} (hc:callOk c=true) (hd:callOk d=true) (hcm:c.fr<=m) (hdm:d.fr<=m) (h:meet c d=false):meet (cutC m c) (cutC m d)=false:=by
 rw [meet_no] at h ⊢
 have c1:=(callOk_iff c).1 hc
 have d1:=(callOk_iff d).1 hd
 rw [cut_fr,cut_fr,cut_th,cut_th]
 generalize c.th=cth at *
 generalize d.th=dth at *
 rcases cut_to m c with ⟨e,e'⟩ | ⟨e,e'⟩ <;> rcases cut_to m d with ⟨f,f'⟩ | ⟨f,f'⟩ <;> rw [e,f] <;> omega
theorem pairwise_map' {α β:Type} {R:β->β->Prop} {f:α->β} {l:List α} (h:l.Pairwise fun a b=>R (f a) (f b)):(l.map f).Pairwise R:=by
 rw [List.pairwise_map];exact h
theorem unt_valid {h:List Call} (hv:validH h=true) (m:Int):validH (untH h m)=true:=by
 obtain ⟨h8,hok,hpw⟩:=validH_pw.1 hv
 refine validH_pw.2 ⟨?_,?_,?_⟩
 ·unfold untH;rw [List.length_map];exact Nat.le_trans (List.length_filter_le _ _) h8
 ·intro c hc
  obtain ⟨d,hd,rfl⟩:=List.mem_map.1 hc
  exact cut_ok (hok d (List.mem_filter.1 hd).1)
 ·refine pairwise_map' ?_
  have:=(hpw.sublist (List.filter_sublist (p:=fun c=>decide (c.fr<=m))))
  refine List.Pairwise.imp_of_mem ?_ this
  intro a b ha hb hab
  have ha:=List.mem_filter.1 ha
  have hb:=List.mem_filter.1 hb
  exact cut_meet (hok b hb.1) (hok a ha.1) (by simpa using hb.2) (by simpa using ha.2) hab
def upTo {α:Type} (p:α->Bool):List α->List α
 | []=>[]
 | c::L=>bif (c::L).any p then c::upTo p L else []
theorem upTo_sub {α:Type} (p:α->Bool) : ∀ L:List α,(upTo p L).Sublist L
 | [] => .slnil
 | c::L=>by
   unfold upTo
   cases (c::L).any p with
   | true=>exact (upTo_sub p L).cons_cons c
   | false=>exact List.nil_sublist _
theorem upTo_mem {α:Type} (p:α->Bool) : ∀ (L:List α) (x:α),x∈L->p x=true->x∈upTo p L
 | c::L,x,hx,hp=>by
   unfold upTo
   have:(c::L).any p=true:=List.any_eq_true.2 ⟨x,hx,hp⟩
   rw [this,cond_true]
   rcases List.mem_cons.1 hx with rfl | hx
   ·exact List.mem_cons_self
   ·exact List.mem_cons_of_mem _ (upTo_mem p L x hx hp)
theorem upTo_pre {α:Type} (p:α->Bool) {R:α->α->Prop} : ∀ (L:List α),L.Pairwise R -> ∀ x∈upTo p L,p x=true \/ ∃ y∈L,p y=true/\R x y
 | [],_,x,hx=>by cases hx
 | c::L,hpw,x,hx=>by
   unfold upTo at hx
   cases ha:(c::L).any p with
   | false=>rw [ha] at hx;cases hx
   | true =>
     rw [ha,cond_true] at hx
     rw [List.pairwise_cons] at hpw
     rcases List.mem_cons.1 hx with rfl | hx
     ·obtain ⟨y,hy,hpy⟩:=List.any_eq_true.1 ha
      rcases List.mem_cons.1 hy with rfl | hy
      ·exact .inl hpy
      ·exact .inr ⟨y,List.mem_cons_of_mem _ hy,hpy,hpw.1 y hy⟩
     ·rcases upTo_pre p L hpw.2 x hx with h | ⟨y,hy,h1,h2⟩
      ·exact .inl h
      ·exact .inr ⟨y,List.mem_cons_of_mem _ hy,h1,h2⟩
theorem upTo_alw (S:List Spec) (p:Call->Bool) : ∀ (L:List Call) (s:Int×Int),alw S L s=true->alw S (upTo p L) s=true
 | [],_,_=>rfl
 | c::L,s,h=>by
   unfold upTo
   simp only [alw,zp4] at h
   cases (c::L).any p with
   | false=>rfl
   | true =>
     rw [cond_true]
     simp only [alw,zp4]
     exact ⟨h.1,upTo_alw S p L _ h.2⟩
theorem cut_do (S:List Spec) (m:Int) (c:Call) (s:Int×Int):doS S (cutC m c) s=doS S c s:=by
 have h1:(cutC m c).2.1=c.2.1:=cut_ob m c
 have h2:(cutC m c).2.2.1=c.2.2.1:=cut_op m c
 simp only [doS,nowOf,spOf,Call.ob,Call.op,h1,h2]
theorem cut_okS (S:List Spec) (m:Int) (c:Call) (s:Int×Int) (h:okS S c s=true):okS S (cutC m c) s=true:=by
 by_cases hm:m<c.to
 ·rw [cut_yes hm];simp [okS]
 ·rw [cut_not hm];exact h
theorem cut_alw (S:List Spec) (m:Int) : ∀ (L:List Call) (s:Int×Int),alw S L s=true->alw S (L.map (cutC m)) s=true
 | [],_,_=>rfl
 | c::L,s,h=>by
   simp only [alw,zp4] at h
   simp only [List.map_cons,alw,zp4,cut_do]
   exact ⟨cut_okS S m c s h.1,cut_alw S m L _ h.2⟩
theorem fr_ne : ∀ {h:List Call},h.Pairwise (fun d c=>meet c d=false) -> ∀ a∈h,∀ b∈h,a.fr=b.fr->a=b
 | [],_,a,ha,_,_,_=>by cases ha
 | c::h,hpw,a,ha,b,hb,e=>by
   rw [List.pairwise_cons] at hpw
   rcases List.mem_cons.1 ha with rfl | ha' <;> rcases List.mem_cons.1 hb with rfl | hb'
   ·rfl
   ·exact absurd (Or.inl (Or.inl e.symm)) (meet_no.1 (hpw.1 b hb'))
   ·exact absurd (Or.inl (Or.inl e)) (meet_no.1 (hpw.1 a ha'))
   ·exact fr_ne hpw.2 a ha' b hb' e
theorem nodup_map {α β:Type} {f:α->β} : ∀ {l:List α},l.Nodup->(∀ a∈l,∀ b∈l,f a=f b->a=b)->(l.map f).Nodup
 | [],_,_ => .nil
 | a::l,hn,hi=>by
   rw [List.nodup_cons] at hn
   rw [List.map_cons,List.nodup_cons]
   refine ⟨fun hm => ?_,nodup_map hn.2 (fun x hx y hy=>hi x (List.mem_cons_of_mem _ hx) y (List.mem_cons_of_mem _ hy))⟩
   obtain ⟨b,hb,e⟩:=List.mem_map.1 hm
   have:=hi b (List.mem_cons_of_mem _ hb) a List.mem_cons_self e
   exact hn.1 (this▸hb)
theorem unt_lin {S:List Spec} {h L:List Call} (hv:validH h=true) (hL:LinC S h L) (m:Int) : ∃ L',LinC S (untH h m) L':=by
 obtain ⟨_,hok,hpw⟩:=validH_pw.1 hv
 have hsub:=upTo_sub (fun c:Call=>decide (c.to≠0)&&decide (c.to<=m)) L
 generalize hU:upTo (fun c:Call=>decide (c.to≠0)&&decide (c.to<=m)) L=U at hsub
 have hfr : ∀ c∈U,c.fr<=m:=by
  intro c hc
  have hcL:=hsub.subset hc
  have c1:=(callOk_iff c).1 (hok c (hL.sub c hcL))
  rw [<-hU] at hc
  rcases upTo_pre _ L hL.keep c hc with h1 | ⟨y,hy,h1,h2⟩
  ·simp only [zp4,decide_eq_true_eq] at h1;omega
  ·simp only [zp4,decide_eq_true_eq] at h1
   simp only [bef,Bool.and_eq_false_iff,decide_eq_false_iff_not] at h2
   rcases h2 with h2 | h2
   ·exact absurd h1.1 h2
   ·omega
 refine ⟨U.map (cutC m),nodup_map (hL.nd.sublist hsub) (fun a ha b hb e => ?_),fun c hc => ?_,fun c hc hto => ?_,?_,?_⟩
 ·refine fr_ne hpw a (hL.sub a (hsub.subset ha)) b (hL.sub b (hsub.subset hb)) ?_
  rw [<-cut_fr m a,<-cut_fr m b,e]
 ·obtain ⟨d,hd,rfl⟩:=List.mem_map.1 hc
  exact List.mem_map_of_mem (List.mem_filter.2 ⟨hL.sub d (hsub.subset hd),decide_eq_true (hfr d hd)⟩)
 ·obtain ⟨d,hd,rfl⟩:=List.mem_map.1 hc
  refine List.mem_map_of_mem ?_
  have hd:=List.mem_filter.1 hd
  rcases cut_to m d with ⟨e,e'⟩ | ⟨e,_⟩
  ·rw [e] at hto
   rw [<-hU]
   refine upTo_mem _ L d (hL.full d hd.1 hto) ?_
   simp only [zp4,decide_eq_true_eq]
   exact ⟨hto,by omega⟩
  ·exact absurd e hto
 ·refine pairwise_map' ((hL.keep.sublist hsub).imp ?_)
  intro a b hab
  simp only [bef,Bool.and_eq_false_iff,decide_eq_false_iff_not] at hab ⊢
  rw [cut_fr]
  rcases cut_to m b with ⟨e,_⟩ | ⟨e,_⟩
  ·rw [e];exact hab
  ·rw [e];exact .inl (by simp)
 ·exact cut_alw S m U (0,0) (by rw [<-hU];exact upTo_alw S _ L (0,0) hL.allow)
end Go.Am
