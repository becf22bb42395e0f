/- Own text: ML19. -/
import Derived.Test.YtlljehkmemajkaaML15
set_option maxRecDepth 100000
set_option maxHeartbeats 2000000
set_option linter.unusedVariables false
set_option linter.unusedSimpArgs false
set_option linter.unusedSectionVars false
namespace Go.Am
open Go
structure SP (P:Pg) (s:Sta) (n:Nat->Nat):Prop where
 k:WfK 1 P s
 b : ∀ t,t<3 -> ∀ j,btI (s t) j=decide (j<n t)
 l : ∀ t,n t<=(thr P t).length
theorem SP.init (P:Pg):SP P s0 (fun _=>0):=⟨WfK.init 1 P,fun t ht j=>by unfold btI s0;simp,fun t=>Nat.zero_le _⟩
theorem doS_low (P:Pg) (s:Sta) (t i:Nat) {u:Nat} (hu:u<3):doS P s t i u=dS s t i u:=by
 unfold doS
 split
 ·rw [up_ne _ _ _ (by omega)]
 ·split
  ·rw [up_ne _ _ _ (by omega)]
  ·rfl
section
variable {P:Pg} (hv:VP P) {s:Sta} {n:Nat->Nat} (h:SP P s n)
include hv h
theorem SP.nxe {t:Nat} (ht:t<3):nx s t=n t:=by
 obtain ⟨h1,h2,_⟩:=nx_spec hv h.k.wf ht
 have hb:=h.b t ht
 rcases Nat.lt_trichotomy (nx s t) (n t) with g | g | g
 ·rw [hb,decide_eq_true g] at h2;cases h2
 ·exact g
 ·have:=h1 _ g
  rw [hb,decide_eq_false (Nat.lt_irrefl _)] at this;cases this
theorem SP.step {t:Nat} (ht:t<P.length) (hi:n t<(thr P t).length):SP P (doS P s t (n t)) (fup n t (n t+1)):=by
 have ht3:=lt3 hv ht
 have hb:btI (s t) (n t)=false:=by rw [h.b t ht3];simp
 have hw:=act_wf hv h.k ht hi hb
 have e:actS 1 P s t (n t)=doS P s t (n t):=by unfold actS;simp
 rw [e] at hw
 refine ⟨hw,fun u hu j => ?_,fun u => ?_⟩
 ·rw [doS_low P s t _ hu]
  unfold dS
  by_cases hut:u=t
  ·subst hut
   rw [up_same,up_same,btI_set,h.b u hu]
   rw [Bool.eq_iff_iff];simp;omega
  ·rw [up_ne _ _ _ hut,up_ne _ _ _ hut];exact h.b u hu j
 ·by_cases hut:u=t
  ·subst hut;rw [up_same];omega
  ·rw [up_ne _ _ _ hut];exact h.l u
theorem SP.over:overS P s=true ↔ ∀ t,t<P.length->n t=(thr P t).length:=by
 unfold overS
 rw [List.all_eq_true]
 constructor
 ·intro hh t ht
  have:=hh t (List.mem_range.2 ht)
  rw [zp4,decide_eq_true_eq] at this
  obtain ⟨d0,d1⟩:=h.k.wf.d t (lt3 hv ht)
  have hl:=h.l t
  rcases Nat.lt_or_eq_of_le hl with g | g
  ·have:=(btI_all d0 d1).1 this.1 _ g
   rw [h.b t (lt3 hv ht)] at this;simp at this
  ·exact g
 ·intro hh t ht
  have ht:=List.mem_range.1 ht
  obtain ⟨d0,d1⟩:=h.k.wf.d t (lt3 hv ht)
  rw [zp4,decide_eq_true_eq]
  refine ⟨(btI_all d0 d1).2 fun i hi => ?_,?_⟩
  ·rw [h.b t (lt3 hv ht),hh t ht];simpa using hi
  ·rw [h.k.nb (by decide) t (lt3 hv ht)];rfl
end
def run (P:Pg):Sta->List Nat->Option Sta
 | s,[]=>some s
 | s,t::w=>if t<P.length/\nx s t<(thr P t).length then run P (doS P s t (nx s t)) w else none
def Gd (P:Pg) (s:Sta) (o:List Int) (w:List Nat):Prop := ∃ s',run P s w=some s'/\overS P s'=true/\outE P s'=o
theorem run_app {P:Pg} : ∀ {w w':List Nat} {s s':Sta},run P s w=some s'->run P s (w++w')=run P s' w'
 | [],_,s,s',h=>by cases h;rfl
 | t::w,w',s,s',h=>by
   unfold run at h
   by_cases hc:t<P.length/\nx s t<(thr P t).length
   ·rw [if_pos hc] at h
    rw [List.cons_append,run,if_pos hc]
    exact run_app h
   ·rw [if_neg hc] at h;cases h
theorem run_sp {P:Pg} (hv:VP P) : ∀ {w:List Nat} {s s':Sta} {n:Nat->Nat},SP P s n->run P s w=some s'->(∃ n',SP P s' n')/\Stps 1 P (vw P s) (vw P s')
 | [],s,s',n,h,hr=>by cases hr;exact ⟨⟨n,h⟩,.refl _⟩
 | t::w,s,s',n,h,hr=>by
   unfold run at hr
   by_cases hc:t<P.length/\nx s t<(thr P t).length
   ·rw [if_pos hc] at hr
    have ht3:=lt3 hv hc.1
    have e:=SP.nxe hv h ht3
    have hs:=SP.step hv h hc.1 (e▸hc.2)
    rw [<-e] at hs
    obtain ⟨h1,h2⟩:=run_sp hv hs hr
    refine ⟨h1,Stps.trans (Stps.one ?_) h2⟩
    have hm:mayT 1 (thr P t) ((vw P s).t t) (nx s t):=(may_nx hv h.k hc.1 (by decide) hc.2).2 ⟨rfl,fun hk=>by cases hk⟩
    have ea:=vw_act hv h.k hc.1 hc.2 (may_bit (.inl rfl) hv h.k hc.1 hm)
    have e2:actS 1 P s t (nx s t)=doS P s t (nx s t):=by unfold actS;simp
    rw [e2] at ea
    rw [ea]
    exact .act t _ hc.1 hc.2 hm
   ·rw [if_neg hc] at hr;cases hr
theorem reach_run {P:Pg} (hv:VP P) {u:Sta} (h:Reach (scs 1 P) s0 u) : ∃ w,run P s0 w=some u:=by
 induction h with
 | init=>exact ⟨[],rfl⟩
 | @step s u hs hn ih =>
   obtain ⟨w,hw⟩:=ih
   have hk:=(reach_wf (.inl rfl) hv hs).1
   rcases (mem_scs (.inl rfl) hv hk).1 hn with ⟨t,i,ht,hi,hm,rfl⟩ | ⟨_,_,h2,_⟩
   ·refine ⟨w++[t],?_⟩
    rw [run_app hw]
    have e:=((may_nx hv hk ht (by decide) hi).1 hm).1
    subst e
    have e2:actS 1 P s t (nx s t)=doS P s t (nx s t):=by unfold actS;simp
    rw [run,if_pos ⟨ht,hi⟩,e2];rfl
   ·cases h2
theorem can_gd {P:Pg} (hv:VP P) {o:List Int}:Can 1 P o ↔ ∃ w,Gd P s0 o w:=by
 constructor
 ·rintro ⟨a,h1,h2,rfl⟩
  obtain ⟨u,hu,rfl⟩:=stps_reach (.inl rfl) hv h1
  obtain ⟨w,hw⟩:=reach_run hv hu
  have hk:=(reach_wf (.inl rfl) hv hu).1
  exact ⟨w,u,hw,(overS_iff hv hk.wf).2 h2,(outE_eq u).symm⟩
 ·rintro ⟨w,u,h1,h2,rfl⟩
  obtain ⟨⟨n,hn⟩,h3⟩:=run_sp hv (SP.init P) h1
  rw [vw_init] at h3
  exact ⟨_,h3,(overS_iff hv hn.k.wf).1 h2,outE_eq u⟩
def und (P:Pg) (n:Nat->Nat):Nat:=((thr P 0).length-n 0)+((thr P 1).length-n 1)+((thr P 2).length-n 2)
theorem und_step {P:Pg} {n:Nat->Nat} {t:Nat} (ht:t<3) (hi:n t<(thr P t).length):und P (fup n t (n t+1))+1=und P n:=by
 unfold und
 rcases (show t=0\/t=1\/t=2 by omega) with rfl | rfl | rfl
 ·rw [up_same,up_ne _ _ _ (by decide),up_ne _ _ _ (by decide)];omega
 ·rw [up_same,up_ne _ _ _ (by decide),up_ne _ _ _ (by decide)];omega
 ·rw [up_same,up_ne _ _ _ (by decide),up_ne _ _ _ (by decide)];omega
theorem run_len {P:Pg} (hv:VP P) : ∀ {w:List Nat} {s s':Sta} {n:Nat->Nat},SP P s n->run P s w=some s' -> ∃ n',SP P s' n'/\w.length+und P n'=und P n
 | [],s,s',n,h,hr=>by cases hr;exact ⟨n,h,by simp⟩
 | t::w,s,s',n,h,hr=>by
   unfold run at hr
   by_cases hc:t<P.length/\nx s t<(thr P t).length
   ·rw [if_pos hc] at hr
    have ht3:=lt3 hv hc.1
    have e:=SP.nxe hv h ht3
    have hs:=SP.step hv h hc.1 (e▸hc.2)
    have hu:=und_step ht3 (e▸hc.2)
    rw [<-e] at hs hu
    obtain ⟨n',h1,h2⟩:=run_len hv hs hr
    refine ⟨n',h1,?_⟩
    simp only [List.length_cons];omega
   ·rw [if_neg hc] at hr;cases hr
theorem und_over {P:Pg} (hv:VP P) {s:Sta} {n:Nat->Nat} (h:SP P s n):overS P s=true↔und P n=0:=by
 rw [SP.over hv h]
 have h0:=h.l 0
 have h1:=h.l 1
 have h2:=h.l 2
 unfold und
 constructor
 ·intro hh
  have key : ∀ t,(thr P t).length-n t=0:=fun t=>by
   by_cases ht:t<P.length
   ·rw [hh t ht];omega
   ·rw [thr_none (by omega)];simp
  rw [key 0,key 1,key 2]
 ·intro hh t ht
  rcases (show t=0\/t=1\/t=2 by have:=lt3 hv ht;omega) with rfl | rfl | rfl <;> omega
theorem gd_len {P:Pg} (hv:VP P) {s:Sta} {n:Nat->Nat} (h:SP P s n) {o:List Int} {w:List Nat} (hg:Gd P s o w):w.length=und P n:=by
 obtain ⟨s',h1,h2,_⟩:=hg
 obtain ⟨n',g1,g2⟩:=run_len hv h h1
 have:=(und_over hv g1).1 h2
 omega
abbrev iW (w:List Nat):List Int:=w.map fun t:Nat=>(t:Int)
theorem M33L0_eq {P:Pg} (hv:VP P) {W:List Nat} (hW:W.length<=1000) : ∀ (k i:Nat) {s s':Sta} {n:Nat->Nat},i+k=W.length->SP P s n->run P s (W.drop i)=some s' ->
  iter (M33L0 Ar.std (eP P) (eInts (iW W))) ((i:Int),eS s)=some (.inl (eS s')):=by
 intro k
 induction k with
 | zero =>
   intro i s s' n hi h hr
   rw [List.drop_eq_nil_of_le (by omega)] at hr
   cases hr
   refine iter_inr ?_
   unfold M33L0
   exact cnF (by simp;omega) rfl
 | succ k ih =>
   intro i s s' n hi h hr
   have hil:i<W.length:=by omega
   rw [List.drop_eq_getElem_cons hil] at hr
   have hget:(iW W)[i]?=some ((W[i]:Nat):Int):=by rw [List.getElem?_map,zp1 hil];rfl
   generalize W[i]=t at hr hget
   rw [run] at hr
   by_cases hc:t<P.length/\nx s t<(thr P t).length
   ·rw [if_pos hc] at hr
    have ht3:=lt3 hv hc.1
    have e:=SP.nxe hv h ht3
    have hs:=SP.step hv h hc.1 (e▸hc.2)
    rw [<-e] at hs
    have hst:M33L0 Ar.std (eP P) (eInts (iW W)) ((i:Int),eS s)=some (.inl (((i+1:Nat):Int),eS (doS P s t (nx s t)))):=by
     unfold M33L0
     dsimp only
     have hn3:=hv.n3
     have e1:Ar.std.wrp .i64 (Ar.std.zsub (Ar.std.len (eP P)) 1)=((P.length-1:Nat):Int):=by
      have el:Ar.std.len (eP P)=(P.length:Int):=by simp
      simp only [el,std_wrp,std_zsub]
      rw [i64w _ (by omega) (by omega)];omega
     have eb:btw 0 (t:Int) ((P.length-1:Nat):Int)=true:=by
      unfold btw;simp;omega
     refine cnT (by simp;omega) (bt (gt_enc hget) (bt (v:=false) ?_ (cnF rfl ?_)))
     ·rw [e1]
      refine bt (M65_eq _ _ _) ?_
      rw [eb]
      refine cnT rfl (bt (gaS s (by simp)) (bt (M75_eq hv h.k.wf ht3) (bt (gt_eP (thr_get hc.1)) ?_)))
      simp;omega
     ·refine bt (gaS s (by simp)) (bt (M75_eq hv h.k.wf ht3) (bt (M76_eq hv h.k.wf hc.1 hc.2) (bck (by rw [lenS];rfl) (bck (by rw [lenS];rfl) ?_))))
      rw [splS0 _ _ (eS_len s) (by simp)]
      simp only [std_wrp,std_zadd]
      rw [i64w _ (by omega) (by omega)];rfl
    rw [iter_inl hst]
    exact ih (i+1) (by omega) hs hr
   ·rw [if_neg hc] at hr;cases hr
theorem M33_eq {P:Pg} (hv:VP P) {W:List Nat} {o:List Int} (h:Gd P s0 o W):M33 Ar.std (eP P) (eInts (iW W))=some (eInts o,0):=by
 have hl:=gd_len hv (SP.init P) h
 have hP:=VP.short hv
 obtain ⟨s',h1,h2,rfl⟩:=h
 obtain ⟨⟨n,hn⟩,_⟩:=run_sp hv (SP.init P) h1
 have hW:W.length<=1000:=by
  rw [hl];unfold und
  have:=hv.l7 0;have:=hv.l7 1;have:=hv.l7 2
  omega
 have e:=M23_eq hP
 rw [VP.to hv] at e
 unfold M33
 refine bt e (cnT rfl (bt (M33L0_eq hv hW W.length 0 (by omega) (SP.init P) h1) ?_))
 rw [Sum.elim_inl]
 refine bt (gaS s' (by simp)) (bt (M77_eq hv hn.k.wf) ?_)
 rw [h2]
 exact cnT rfl (bt (M78_eq hv hn.k.wf) rfl)
end Go.Am

namespace Go.Am
open Go
def eMB (L:List Sta):List (D×D):=L.map fun s=>(.agg (eS s),.bool true)
theorem lkMB {n:Sta} (hn : ∀ i,41<=i->n i=0) : ∀ {L:List Sta},ZL L->lk Ar.std cB (eMB L) (.agg (eS n))=some (if n∈L then some true else none):=by
 have key : ∀ {L:List Sta},ZL L->Am.mget (eMB L) (.agg (eS n))=if n∈L then some (.bool true) else none:=by
  intro L
  induction L with
  | nil=>intro _;simp [eMB,Am.mget]
  | cons s L ih =>
    intro hL
    have ih:=ih (fun u hu=>hL u (by simp [hu]))
    unfold eMB at ih ⊢
    simp only [List.map_cons,Am.mget]
    by_cases h:s=n
    ·subst h;simp
    ·have : ¬ (D.agg (eS s)=D.agg (eS n)):=fun e=>h (eS_inj (by injection e) (hL s (by simp)) hn)
     rw [if_neg this,ih]
     by_cases hm:n∈L
     ·rw [if_pos hm,if_pos (by simp [hm])]
     ·rw [if_neg hm,if_neg (by simp [hm];exact fun e=>h e.symm)]
 intro L hL
 unfold lk
 have e:Ar.std.mget (eMB L) (.agg (eS n))=Am.mget (eMB L) (.agg (eS n)):=rfl
 rw [e,key hL]
 by_cases hm:n∈L
 ·rw [if_pos hm,if_pos hm];rfl
 ·rw [if_neg hm,if_neg hm];rfl
theorem putMB {n:Sta} (hn : ∀ i,41<=i->n i=0) : ∀ {L:List Sta},ZL L -> ∃ L',Ar.std.mput (eMB L) (.agg (eS n)) (.bool true)=eMB L' /\ ∀ u∈L',u∈L\/u=n
 | [],_=>⟨[n],rfl,fun u hu => .inr (List.mem_singleton.1 hu)⟩
 | s::L,hL=>by
   obtain ⟨L',h1,h2⟩:=putMB hn (L:=L) (fun u hu=>hL u (by simp [hu]))
   by_cases h:s=n
   ·subst h
    refine ⟨s::L,?_,fun u hu => .inl hu⟩
    show Am.mput _ _ _=_
    unfold eMB
    simp [Am.mput]
   ·refine ⟨s::L',?_,fun u hu => ?_⟩
    ·have : ¬ (D.agg (eS s)=D.agg (eS n)):=fun e=>h (eS_inj (by injection e) (hL s (by simp)) hn)
     have h1':Am.mput (eMB L) (.agg (eS n)) (.bool true)=eMB L':=h1
     show Am.mput _ _ _=_
     unfold eMB at h1' ⊢
     simp only [List.map_cons,Am.mput]
     rw [if_neg this,h1']
    ·rcases List.mem_cons.1 hu with rfl | hu
     ·exact .inl (by simp)
     ·exact (h2 u hu).imp (fun h=>by simp [h]) id
def Bad (P:Pg) (o:List Int) (L:List Sta):Prop:=ZL L /\ ∀ u∈L,∀ w,¬ Gd P u o w
def First (P:Pg) (s:Sta) (o:List Int) (w:List Nat):Prop:=Gd P s o w /\ ∀ w',Gd P s o w'->cmpD (iW w) (iW w')<=0
def Hunt (P:Pg) (o:List Int) (s:Sta) (r:Option (List D×Bool×List (D×D))):Prop :=
 (∃ w m,r=some (eInts (iW w),true,m)/\First P s o w)\/(∃ L,Bad P o L/\r=some ([],false,eMB L) /\ ∀ w,¬ Gd P s o w)
theorem gd_cons {P:Pg} {s:Sta} {o:List Int} {t:Nat} {w:List Nat}:Gd P s o (t::w)↔(t<P.length/\nx s t<(thr P t).length)/\Gd P (doS P s t (nx s t)) o w:=by
 unfold Gd
 rw [run]
 by_cases hc:t<P.length/\nx s t<(thr P t).length
 ·rw [if_pos hc];exact ⟨fun h=>⟨hc,h⟩,fun h=>h.2⟩
 ·rw [if_neg hc]
  constructor
  ·rintro ⟨_,h,_⟩;cases h
  ·rintro ⟨h,_⟩;exact absurd h hc
theorem M70R_eq {P:Pg} (hv:VP P) {o:List Int} (ho:GH o) : ∀ (f:Nat) {s:Sta} {n:Nat->Nat},SP P s n->und P n<f->f<=1000000 -> ∀ {L:List Sta},Bad P o L->Hunt P o s (M70R Ar.std f (eP P) (eInts o) (eS s) (eMB L)):=by
 intro f
 induction f with
 | zero=>intro s n _ hf;omega
 | succ f ih =>
   intro s n h hf hfm L hL
   have hwf:=h.k.wf
   unfold M70R M70B
   have ga1:ga Ar.std (eS s) (Ar.std.zadd 0 (Int.ofNat 0)) (Int.ofNat 41)=some (eS s):=gaS s (by simp)
   have c41:Ar.std.zeq (Ar.std.len (eS s)) (Int.ofNat 41)=true:=by rw [lenS];rfl
   cases hov:overS P s with
   | true =>
     have hu:=(und_over hv h).1 hov
     have only : ∀ w,Gd P s o w->w=[]:=fun w hg=>by
      have:=gd_len hv h hg
      exact List.length_eq_zero_iff.1 (by omega)
     have e:=M77_eq hv hwf
     rw [hov] at e
     have hlen:(outE P s).length<4294967296:=by
      have:=sumLd8 hv hwf
      unfold outE;simp;omega
     have val : ∀ (r:Option (List D×Bool×List (D×D))),some (([]:List D),decide (outE P s=o),eMB L)=r->Hunt P o s r:=by
      rintro r rfl
      by_cases heq:outE P s=o
      ·refine .inl ⟨[],eMB L,by rw [decide_eq_true heq];rfl,⟨s,rfl,hov,heq⟩,fun w' hg => ?_⟩
       rw [only w' hg];decide
      ·refine .inr ⟨L,hL,by rw [decide_eq_false heq],fun w hg => ?_⟩
       have:=only w hg
       subst this
       obtain ⟨s',h1,h2,h3⟩:=hg
       cases h1
       exact heq h3
     refine val _ (Eq.symm ?_)
     exact bck c41 (bt ga1 (bt e (cnT rfl (bt (M78_eq hv hwf) (bt (M100_eq hlen ho) rfl)))))
   | false =>
     have e:=M77_eq hv hwf
     rw [hov] at e
     have nov : ∀ w,Gd P s o w->w≠[]:=fun w hg hw=>by
      subst hw
      obtain ⟨s',h1,h2,h3⟩:=hg
      cases h1
      rw [hov] at h2;cases h2
     by_cases hin:s∈L
     ·refine .inr ⟨L,hL,?_,hL.2 s hin⟩
      refine bck c41 (bt ga1 (bt e (cnF rfl (bt (v:=true) (bck (confS s) (bt (lkMB hwf.z hL.1) ?_)) (cnT rfl rfl)))))
      rw [if_pos hin];rfl
     ·have key:=iter_relE (step:=M70L0 Ar.std (eP P) (eInts o) (eS s) (M70R Ar.std f)) P.length (fun (L:List Sta) i=>((i:Int),eMB L))
       (fun i L=>Bad P o L /\ ∀ t,t<i->nx s t<(thr P t).length -> ∀ w,¬ Gd P (doS P s t (nx s t)) o w) (fun i x => ∃ w m,x = .inr (eInts (iW w),m)/\First P s o w) (fun L => .inl (eMB L))
       (fun t L ht hR=>by
        obtain ⟨hB,hno⟩:=hR
        have ht3:=lt3 hv ht
        have hn3:=hv.n3
        have en:=SP.nxe hv h ht3
        have ew:Ar.std.wrp .i64 (Ar.std.zadd (t:Int) 1)=((t+1:Nat):Int):=by simp only [std_wrp,std_zadd];exact wrap1 (n:=10) (by omega) (by omega)
        by_cases hc:nx s t<(thr P t).length
        ·have hs:=SP.step hv h ht (en▸hc)
         have hu:=und_step ht3 (en▸hc)
         rw [<-en] at hs hu
         rcases ih hs (by omega) (by omega) hB with ⟨w,m,e1,hg,hf1⟩ | ⟨L',hB',e1,hng⟩
         ·have hwl:=gd_len hv hs hg
          refine .inr ⟨_,⟨t::w,m,rfl,gd_cons.2 ⟨⟨ht,hc⟩,hg⟩,fun w' hg' => ?_⟩,?_⟩
          ·cases w' with
           | nil=>exact absurd rfl (nov _ hg')
           | cons t' w' =>
             obtain ⟨hc',hg2⟩:=gd_cons.1 hg'
             show cmpD ((t:Int)::iW w) ((t':Int)::iW w')<=0
             rw [cmpD]
             rcases Nat.lt_trichotomy t' t with g | g | g
             ·exact absurd hg2 (hno t' g hc'.2 w')
             ·subst g;rw [if_pos rfl];exact hf1 w' hg2
             ·rw [if_neg (by omega)];omega
          ·unfold M70L0
           refine cnT (by simp;omega) (bt (M75_eq hv hwf ht3) (bt (gt_eP (thr_get ht)) ?_))
           unfold jn
           refine cnT (by simp;exact hc) (bt (M76_eq hv hwf ht hc) (bt e1 (cnT rfl ?_)))
           have ea:ap Ar.std [D.int .i64 (t:Int)] (eInts (iW w))=some (eInts (iW (t::w))):=by
            rw [ap_std (by simp;omega)];rfl
           exact bt ea rfl
         ·refine .inl ⟨L',⟨hB',fun t' ht' hc' => ?_⟩,?_⟩
          ·rcases Nat.lt_or_eq_of_le (Nat.le_of_lt_succ ht') with g | g
           ·exact hno t' g hc'
           ·subst g;exact hng
          ·unfold M70L0
           refine cnT (by simp;omega) (bt (M75_eq hv hwf ht3) (bt (gt_eP (thr_get ht)) ?_))
           unfold jn
           refine cnT (by simp;exact hc) (bt (M76_eq hv hwf ht hc) (bt e1 (cnF rfl ?_)))
           rw [ew]
        ·refine .inl ⟨L,⟨hB,fun t' ht' hc' => ?_⟩,?_⟩
         ·rcases Nat.lt_or_eq_of_le (Nat.le_of_lt_succ ht') with g | g
          ·exact hno t' g hc'
          ·subst g;exact absurd hc' hc
         ·unfold M70L0
          refine cnT (by simp;omega) (bt (M75_eq hv hwf ht3) (bt (gt_eP (thr_get ht)) ?_))
          unfold jn
          refine cnF (by simp;omega) ?_
          rw [ew])
       (fun L _=>by
        unfold M70L0
        exact cnF (by simp) rfl) L ⟨hL,fun t ht=>by omega⟩
      rcases key with ⟨L',⟨hB',hno⟩,hit⟩ | ⟨i,x,_,⟨w,m,rfl,hF⟩,hit⟩
      ·have hng : ∀ w,¬ Gd P s o w:=fun w hg=>by
        cases w with
        | nil=>exact nov _ hg rfl
        | cons t w =>
          obtain ⟨hc,hg2⟩:=gd_cons.1 hg
          exact hno t hc.1 hc.2 w hg2
       obtain ⟨L2,hp,hm⟩:=putMB hwf.z hB'.1
       refine .inr ⟨L2,⟨fun u hu => ?_,fun u hu => ?_⟩,?_,hng⟩
       ·rcases hm u hu with g | g
        ·exact hB'.1 u g
        ·subst g;exact hwf.z
       ·rcases hm u hu with g | g
        ·exact hB'.2 u g
        ·subst g;exact hng
       ·refine bck c41 (bt ga1 (bt e (cnF rfl (bt (v:=false) (bck (confS s) (bt (lkMB hwf.z hL.1) ?_)) (cnF rfl (bt hit ?_))))))
        ·rw [if_neg hin];rfl
        ·rw [Sum.elim_inl]
         refine bck (confS s) ?_
         rw [hp]
      ·refine .inl ⟨w,m,?_,hF⟩
       refine bck c41 (bt ga1 (bt e (cnF rfl (bt (v:=false) (bck (confS s) (bt (lkMB hwf.z hL.1) ?_)) (cnF rfl (bt hit rfl))))))
       rw [if_neg hin];rfl
theorem M28_eq {P:Pg} (hv:VP P) {o:List Int} (ho:GH o) (hc:Can 1 P o) : ∃ w,First P s0 o w/\M28 Ar.std (eP P) (eInts o)=some (eInts (iW w),0):=by
 have e:=M23_eq (VP.short hv)
 rw [VP.to hv] at e
 have hu:und P (fun _=>0)<fuel:=by
  have:=hv.l7 0;have:=hv.l7 1;have:=hv.l7 2
  unfold und fuel
  omega
 have hf:fuel<=1000000:=by unfold fuel;omega
 obtain ⟨w0,hw0⟩:=(can_gd hv).1 hc
 rcases M70R_eq hv ho fuel (SP.init P) hu hf (L:=[]) ⟨fun u hu=>(by cases hu),fun u hu=>(by cases hu)⟩ with ⟨w,m,e1,hF⟩ | ⟨L,_,_,hng⟩
 ·refine ⟨w,hF,?_⟩
  unfold M28
  refine bt e (cnT rfl (bt (v:=(eInts (iW w),true,m)) ?_ (cnT rfl rfl)))
  unfold M70
  exact e1
 ·exact absurd hw0 (hng w0)
end Go.Am

namespace Go.Am
open Go
def inn (v tot:Nat):Nat->Nat
 | 0=>v
 | i+1=>inn v tot i*(tot+i+1) / (i+1)
def sch (a b c:Nat):Nat:=inn (inn (inn 1 0 a) a b) (a+b) c
theorem schF : ∀ a b c:Fin 8,sch a.val b.val c.val<=1000000000/\sch a.val b.val c.val=(if a.val=0/\b.val=0/\c.val=0 then 1 else
  (if 0<a.val then sch (a.val-1) b.val c.val else 0)+(if 0<b.val then sch a.val (b.val-1) c.val else 0)+(if 0<c.val then sch a.val b.val (c.val-1) else 0)):=by decide +kernel
theorem sch_le {a b c:Nat} (ha:a<=7) (hb:b<=7) (hc:c<=7):sch a b c<=1000000000:=(schF ⟨a,by omega⟩ ⟨b,by omega⟩ ⟨c,by omega⟩).1
theorem sch_rec {a b c:Nat} (ha:a<=7) (hb:b<=7) (hc:c<=7) (hn : ¬ (a=0/\b=0/\c=0)):sch a b c=(if 0<a then sch (a-1) b c else 0)+(if 0<b then sch a (b-1) c else 0)+(if 0<c then sch a b (c-1) else 0):=by
 have:=(schF ⟨a,by omega⟩ ⟨b,by omega⟩ ⟨c,by omega⟩).2
 rw [if_neg hn] at this
 exact this
theorem M35L0_eq {l:List D} {v tot m:Nat} (hl:l.length=m) (hm:m<=7) (ht:tot<=100) (hb : ∀ i,i<=m->inn v tot i<=1000000000):iter (M35L0 Ar.std l) ((v:Int),(tot:Int),0)=some ((inn v tot m:Int),((tot+m:Nat):Int)):=by
 have key:=iter_rel (step:=M35L0 Ar.std l) m (fun (_:Unit) (i:Nat)=>((inn v tot i:Int),((tot+i:Nat):Int),(i:Int))) (fun _ _=>True) (fun _=>((inn v tot m:Int),((tot+m:Nat):Int)))
  (fun i _ hi _=>by
   refine ⟨(),trivial,?_⟩
   unfold M35L0
   dsimp only
   have h1:=hb i (by omega)
   have h2:=hb (i+1) (by omega)
   have e1:Ar.std.wrp .i64 (Ar.std.zadd (i:Int) 1)=((i+1:Nat):Int):=by simp only [std_wrp,std_zadd];exact wrap1 (n:=10) (by omega) (by omega)
   have e2:Ar.std.wrp .i64 (Ar.std.zadd ((tot+i:Nat):Int) 1)=((tot+i+1:Nat):Int):=by simp only [std_wrp,std_zadd];exact wrap1 (n:=1000) (by omega) (by omega)
   have hprod:inn v tot i*(tot+i+1)<=1000000000*108:=Nat.mul_le_mul h1 (by omega)
   have e3:Ar.std.wrp .i64 (Ar.std.zmul (inn v tot i:Int) ((tot+i+1:Nat):Int))=((inn v tot i*(tot+i+1):Nat):Int):=by
    simp only [std_wrp,std_zmul]
    rw [<-Int.natCast_mul,i64w _ (by omega) (by omega)]
   rw [e1,e2,e3]
   refine cnT (by simp;omega) (bnk (by simp;omega) ?_)
   have e4:Ar.std.quo .i64 ((inn v tot i*(tot+i+1):Nat):Int) ((i+1:Nat):Int)=(inn v tot (i+1):Int):=by
    show IntKind.i64.wrap (Int.tdiv _ _)=_
    have:Int.tdiv ((inn v tot i*(tot+i+1):Nat):Int) ((i+1:Nat):Int)=((inn v tot i*(tot+i+1) / (i+1):Nat):Int):=rfl
    rw [this]
    have h3:inn v tot i*(tot+i+1) / (i+1)=inn v tot (i+1):=rfl
    rw [h3,i64w _ (by omega) (by omega)]
   rw [e4];rfl)
  (fun _ _=>by
   unfold M35L0
   dsimp only
   exact cnF (by simp;omega) rfl) () trivial
 obtain ⟨_,_,h⟩:=key
 exact h
def schT (P:Pg):Nat->Nat×Nat
 | 0=>(1,0)
 | t+1=>(inn (schT P t).1 (schT P t).2 (thr P t).length,(schT P t).2+(thr P t).length)
theorem schT3 (P:Pg):(schT P 3).1=sch (thr P 0).length (thr P 1).length (thr P 2).length:=by
 simp [schT,sch]
theorem schT_none {P:Pg} : ∀ (k:Nat),(schT P (P.length+k)).1=(schT P P.length).1
 | 0=>rfl
 | k+1=>by
   have e:(thr P (P.length+k)).length=0:=by rw [thr_none (by omega)];rfl
   show inn (schT P (P.length+k)).1 _ (thr P (P.length+k)).length=_
   rw [e,inn,schT_none k]
theorem M35_eq {P:Pg} (hv:VP P):M35 Ar.std (eP P)=some ((sch (thr P 0).length (thr P 1).length (thr P 2).length:Int),0):=by
 have e:=M23_eq (VP.short hv)
 rw [VP.to hv] at e
 have l0:=hv.l7 0
 have l1:=hv.l7 1
 have l2:=hv.l7 2
 have hn3:=hv.n3
 have hT : ∀ t,t<3->(schT P t).2<=100 /\ ∀ i,i<=(thr P t).length->inn (schT P t).1 (schT P t).2 i<=1000000000:=by
  intro t ht
  rcases (show t=0\/t=1\/t=2 by omega) with rfl | rfl | rfl
  ·exact ⟨by simp [schT],fun i hi=>sch_le (a:=i) (b:=0) (c:=0) (by omega) (by omega) (by omega)⟩
  ·refine ⟨by simp [schT];omega,fun i hi => ?_⟩
   have:=sch_le (a:=(thr P 0).length) (b:=i) (c:=0) (by omega) (by omega) (by omega)
   simpa [sch,schT,inn] using this
  ·refine ⟨by simp [schT];omega,fun i hi => ?_⟩
   have:=sch_le (a:=(thr P 0).length) (b:=(thr P 1).length) (c:=i) (by omega) (by omega) (by omega)
   simpa [sch,schT] using this
 have key:=iter_rel (step:=M35L1 Ar.std (eP P)) P.length (fun (_:Unit) (t:Nat)=>(((schT P t).1:Int),((schT P t).2:Int),(t:Int))) (fun _ _=>True) (fun _=>((schT P P.length).1:Int))
  (fun t _ ht _=>by
   refine ⟨(),trivial,?_⟩
   unfold M35L1
   dsimp only
   obtain ⟨h1,h2⟩:=hT t (by omega)
   refine cnT (by simp;omega) (bt (gt_eP (thr_get ht)) (bt (M35L0_eq (m:=(thr P t).length) (by simp) (hv.l7 t) h1 h2) ?_))
   dsimp only
   have e1:Ar.std.wrp .i64 (Ar.std.zadd (t:Int) 1)=((t+1:Nat):Int):=by simp only [std_wrp,std_zadd];exact wrap1 (n:=10) (by omega) (by omega)
   rw [e1];rfl)
  (fun _ _=>by
   unfold M35L1
   dsimp only
   exact cnF (by simp) rfl) () trivial
 obtain ⟨_,_,h⟩:=key
 have h':iter (M35L1 Ar.std (eP P)) (1,0,0)=some ((schT P P.length).1:Int):=h
 unfold M35
 refine bt e (cnT rfl (bt h' ?_))
 have:=schT_none (P:=P) (3-P.length)
 rw [show P.length+(3-P.length)=3 by omega,schT3] at this
 rw [this]
theorem cover {α:Type} (p q r:α->Bool) : ∀ (O:List α),(∀ o∈O,p o=true\/q o=true\/r o=true)->O.length<=(O.filter p).length+(O.filter q).length+(O.filter r).length
 | [],_=>by simp
 | o::O,h=>by
   have ih:=cover p q r O (fun x hx=>h x (List.mem_cons_of_mem _ hx))
   have ho:=h o (List.mem_cons_self ..)
   rw [List.filter_cons,List.filter_cons,List.filter_cons]
   rcases ho with ho | ho | ho <;> rw [if_pos ho] <;> (repeat' split) <;> simp only [List.length_cons] <;> omega
open Classical in
theorem out_le {P:Pg} (hv:VP P) : ∀ (k:Nat) {s:Sta} {n:Nat->Nat},SP P s n->und P n=k -> ∀ {O:List (List Int)},O.Nodup->(∀ o∈O,∃ w,Gd P s o w) ->
  O.length<=sch ((thr P 0).length-n 0) ((thr P 1).length-n 1) ((thr P 2).length-n 2):=by
 intro k
 have l0:=hv.l7 0
 have l1:=hv.l7 1
 have l2:=hv.l7 2
 induction k with
 | zero =>
   intro s n h hu O hO hg
   have hle:O.length<=[outE P s].length:=nodup_le hO fun o ho=>by
    obtain ⟨w,hw⟩:=hg o ho
    have hl:=gd_len hv h hw
    obtain rfl:w=[]:=List.length_eq_zero_iff.1 (by omega)
    obtain ⟨s',h1,_,h3⟩:=hw
    cases h1
    rw [h3];simp
   unfold und at hu
   rw [show (thr P 0).length-n 0=0 by omega,show (thr P 1).length-n 1=0 by omega,show (thr P 2).length-n 2=0 by omega]
   exact hle
 | succ k ih =>
   intro s n h hu O hO hg
   have hu':=hu
   unfold und at hu'
   rw [sch_rec (by omega) (by omega) (by omega) (by omega)]
   have hc:=cover (fun o=>decide (n 0<(thr P 0).length /\ ∃ w,Gd P (doS P s 0 (n 0)) o w)) (fun o=>decide (n 1<(thr P 1).length /\ ∃ w,Gd P (doS P s 1 (n 1)) o w)) (fun o=>decide (n 2<(thr P 2).length /\ ∃ w,Gd P (doS P s 2 (n 2)) o w)) O (fun o ho=>by
    obtain ⟨w,hw⟩:=hg o ho
    have hl:=gd_len hv h hw
    cases w with
    | nil=>simp at hl;omega
    | cons t w =>
      obtain ⟨⟨c1,c2⟩,hw2⟩:=gd_cons.1 hw
      have ht3:=lt3 hv c1
      rw [SP.nxe hv h ht3] at c2 hw2
      rcases (show t=0\/t=1\/t=2 by omega) with rfl | rfl | rfl
      ·exact .inl (decide_eq_true ⟨c2,w,hw2⟩)
      ·exact .inr (.inl (decide_eq_true ⟨c2,w,hw2⟩))
      ·exact .inr (.inr (decide_eq_true ⟨c2,w,hw2⟩)))
   have part : ∀ t,t<3->(O.filter fun o=>decide (n t<(thr P t).length /\ ∃ w,Gd P (doS P s t (n t)) o w)).length<=if 0<(thr P t).length-n t then
     sch ((thr P 0).length-fup n t (n t+1) 0) ((thr P 1).length-fup n t (n t+1) 1) ((thr P 2).length-fup n t (n t+1) 2) else 0:=by
    intro t ht
    by_cases hlt:n t<(thr P t).length
    ·have htP:t<P.length:=by
      rcases Nat.lt_or_ge t P.length with g | g
      ·exact g
      ·rw [thr_none g] at hlt;simp at hlt
     rw [if_pos (by omega)]
     have hs:=SP.step hv h htP hlt
     have hus:=und_step ht hlt
     refine ih hs (by omega) (hO.filter _) fun o ho => ?_
     have:=(List.mem_filter.1 ho).2
     rw [decide_eq_true_eq] at this
     exact this.2
    ·rw [if_neg (by omega)]
     refine Nat.le_of_eq ?_
     rw [List.length_eq_zero_iff,List.filter_eq_nil_iff]
     intro o ho
     simp [hlt]
   have p0:=part 0 (by omega)
   have p1:=part 1 (by omega)
   have p2:=part 2 (by omega)
   simp only [up_same,up_ne _ _ _ (show (1:Nat)≠0 by decide),up_ne _ _ _ (show (2:Nat)≠0 by decide),up_ne _ _ _ (show (0:Nat)≠1 by decide),up_ne _ _ _ (show (2:Nat)≠1 by decide),up_ne _ _ _ (show (0:Nat)≠2 by decide),up_ne _ _ _ (show (1:Nat)≠2 by decide)] at p0 p1 p2
   rw [show (thr P 0).length-(n 0+1)=(thr P 0).length-n 0-1 by omega] at p0
   rw [show (thr P 1).length-(n 1+1)=(thr P 1).length-n 1-1 by omega] at p1
   rw [show (thr P 2).length-(n 2+1)=(thr P 2).length-n 2-1 by omega] at p2
   omega
theorem IsO.sch {P:Pg} (hv:VP P) {O:List (List Int)} (h:IsO 1 P O):O.length<=sch (thr P 0).length (thr P 1).length (thr P 2).length:=by
 have:=out_le hv _ (SP.init P) rfl (SS.nodup h.ss) (fun o ho=>(can_gd hv).1 ((h.mem o).1 ho))
 simpa using this
end Go.Am

namespace Go.Am
open Go
def eF (f:Nat->Nat) (m:Nat):List D:=enc (cI .i64) ((List.range m).map fun i=>(f i:Int))
theorem eF_get (f:Nat->Nat) {m i:Nat} (h:i<m):(eF f m)[i]?=some (.int .i64 (f i:Int)):=by
 unfold eF enc
 rw [List.getElem?_map,List.getElem?_map,List.getElem?_range h];rfl
theorem gcF (f:Nat->Nat) {m i:Nat} (h:i<m):gc Ar.std (cI .i64) (eF f m) (Ar.std.nat (Ar.std.zadd 0 (i:Int)))=some (f i:Int):=by
 have e:Ar.std.nat (Ar.std.zadd 0 (i:Int))=i:=natI (by simp)
 rw [e]
 have h2:=eF_get f h
 unfold gc
 have:Ar.std.lget (eF f m) i=some (.int .i64 (f i:Int)):=h2
 rw [this];rfl
theorem lgetF (f:Nat->Nat) {m i:Nat} (h:i<m):Ar.std.lget (eF f m) (Ar.std.nat (Ar.std.zadd 0 (i:Int)))=some (.int .i64 (f i:Int)):=by
 have e:Ar.std.nat (Ar.std.zadd 0 (i:Int))=i:=natI (by simp)
 rw [e];exact eF_get f h
theorem lsetF (f:Nat->Nat) {m i:Nat} (h:i<m) (v:Nat) {z:Int} (hz:z=v):Ar.std.lset (eF f m) (Ar.std.nat (Ar.std.zadd 0 (i:Int))) (.int .i64 z)=eF (fup f i v) m:=by
 subst hz
 have e:Ar.std.nat (Ar.std.zadd 0 (i:Int))=i:=natI (by simp)
 rw [e]
 show (eF f m).set i _=_
 apply List.ext_getElem?
 intro j
 by_cases hj:j<m
 ·by_cases hij:i=j
  ·subst hij
   rw [List.getElem?_set_self (by simp [eF];exact h),eF_get _ h,up_same]
  ·rw [List.getElem?_set_ne hij,eF_get _ hj,eF_get _ hj,up_ne _ _ _ (fun h=>hij h.symm)]
 ·rw [List.getElem?_eq_none (by simp [eF];omega),List.getElem?_eq_none (by simp [eF];omega)]
theorem eF_zero (m:Nat):Ar.std.rep (m:Int) (.int .i64 0)=eF (fun _=>0) m:=by
 show List.replicate ((m:Int)).toNat _=_
 apply List.ext_getElem?
 intro j
 rw [Int.toNat_natCast]
 by_cases hj:j<m
 ·rw [eF_get _ hj,List.getElem?_replicate,if_pos hj];rfl
 ·rw [List.getElem?_eq_none (by simp;omega),List.getElem?_eq_none (by simp [eF];omega)]
theorem eF_ext {f g:Nat->Nat} {m:Nat} (h : ∀ i,i<m->f i=g i):eF f m=eF g m:=by
 unfold eF
 congr 1
 exact List.map_congr_left fun i hi=>by rw [h i (List.mem_range.1 hi)]
theorem remN {a b:Nat} (hb:0<b) (hb2:b<100):Ar.std.rem (a:Int) (b:Int)=((a%b:Nat):Int):=by
 show Int.tmod (a:Int) (b:Int)=_
 exact rfl
def lens (P:Pg) (t:Nat):Nat:=(thr P t).length
theorem M8L0_eq {P:Pg} (hv:VP P):iter (M8L0 Ar.std (eP P)) (0,0,eF (fun _=>0) P.length)=some ((und P (fun _=>0):Int),eF (lens P) P.length):=by
 have hn3:=hv.n3
 have key:=iter_rel (step:=M8L0 Ar.std (eP P)) P.length (fun (_:Unit) (t:Nat)=>((((List.range t).map (lens P)).sum:Int),(t:Int),eF (fun u=>if u<t then lens P u else 0) P.length)) (fun _ _=>True)
  (fun _=>((((List.range P.length).map (lens P)).sum:Int),eF (lens P) P.length))
  (fun t _ ht _=>by
   refine ⟨(),trivial,?_⟩
   unfold M8L0
   dsimp only
   have hl:=hv.l7 t
   have hsum:((List.range t).map (lens P)).sum<=7*t:=by
    clear ht
    induction t with
    | zero=>simp
    | succ t ih =>
      have:=hv.l7 t
      have ih:=ih this
      rw [List.range_succ,List.map_append,List.sum_append]
      simp only [List.map_cons,List.map_nil,List.sum_cons,List.sum_nil,lens] at ih ⊢
      omega
   have el:Ar.std.len (eT (thr P t))=((lens P t:Nat):Int):=by simp [lens]
   refine cnT (by simp;omega) (bt (gt_eP (thr_get ht)) (bck (by simp) (bck (by simp;omega) (bt (lgetF _ ht) (bck (by simp) (bck (by simp;omega) ?_))))))
   rw [el,lsetF _ ht (lens P t) rfl]
   refine bt (gcF _ ht) ?_
   rw [up_same]
   have e1:Ar.std.wrp .i64 (Ar.std.zadd (t:Int) 1)=((t+1:Nat):Int):=by simp only [std_wrp,std_zadd];exact wrap1 (n:=10) (by omega) (by omega)
   have e2:Ar.std.wrp .i64 (Ar.std.zadd ((((List.range t).map (lens P)).sum:Nat):Int) ((lens P t:Nat):Int))=((((List.range (t+1)).map (lens P)).sum:Nat):Int):=by
    simp only [std_wrp,std_zadd]
    have:lens P t<=7:=hl
    rw [i64w _ (by omega) (by omega),List.range_succ,List.map_append,List.sum_append]
    simp
   rw [e1,e2]
   have e3:eF (fup (fun u=>if u<t then lens P u else 0) t (lens P t)) P.length=eF (fun u=>if u<t+1 then lens P u else 0) P.length:=eF_ext fun u hu=>by
    by_cases hut:u=t
    ·subst hut;rw [up_same,if_pos (by omega)]
    ·rw [up_ne _ _ _ hut]
     by_cases h:u<t
     ·rw [if_pos h,if_pos (by omega)]
     ·rw [if_neg h,if_neg (by omega)]
   rw [e3])
  (fun _ _=>by
   unfold M8L0
   dsimp only
   refine cnF (by simp) ?_
   have e3:eF (fun u=>if u<P.length then lens P u else 0) P.length=eF (lens P) P.length:=eF_ext fun u hu=>by rw [if_pos hu]
   rw [e3]) () trivial
 obtain ⟨_,_,h⟩:=key
 have e0:eF (fun u=>if u<0 then lens P u else 0) P.length=eF (fun _=>0) P.length:=eF_ext fun u _=>by simp
 rw [e0] at h
 refine (show iter (M8L0 Ar.std (eP P)) (0,0,eF (fun _=>0) P.length)=_ from h).trans ?_
 have e:((List.range P.length).map (lens P)).sum=und P (fun _=>0):=by
  have hz : ∀ t,P.length<=t->lens P t=0:=fun t ht=>by unfold lens;rw [thr_none ht];rfl
  have h1:=hv.n1
  unfold und
  simp only [Nat.sub_zero]
  have r1:((List.range 1).map (lens P)).sum=(thr P 0).length:=by simp [List.range_succ,lens]
  have r2:((List.range 2).map (lens P)).sum=(thr P 0).length+(thr P 1).length:=by simp [List.range_succ,lens]
  have r3:((List.range 3).map (lens P)).sum=(thr P 0).length+(thr P 1).length+(thr P 2).length:=by simp [List.range_succ,lens];omega
  have hz' : ∀ t,P.length<=t->(thr P t).length=0:=hz
  rcases (show P.length=1\/P.length=2\/P.length=3 by omega) with hl | hl | hl
  ·have:=hz' 1 (by omega);have:=hz' 2 (by omega)
   rw [hl,r1];omega
  ·have:=hz' 2 (by omega)
   rw [hl,r2];omega
  ·rw [hl,r3]
 rw [e]
theorem M8L1_eq {P:Pg} (hv:VP P) (f:Nat->Nat) : ∀ (k t:Nat),t<P.length->f ((t+k)%P.length)≠0 -> ∃ t',t'<P.length/\f t'≠0/\iter (M8L1 Ar.std (eP P) (eF f P.length)) (t:Int)=some (t':Int):=by
 have hn3:=hv.n3
 intro k
 induction k with
 | zero =>
   intro t ht hf
   rw [Nat.add_zero,Nat.mod_eq_of_lt ht] at hf
   refine ⟨t,ht,hf,iter_inr ?_⟩
   unfold M8L1
   refine bck (by simp) (bck (by simp;omega) (bt (gcF _ ht) (cnF (by simp;exact hf) rfl)))
 | succ k ih =>
   intro t ht hf
   by_cases h0:f t=0
   ·have hst:M8L1 Ar.std (eP P) (eF f P.length) (t:Int)=some (.inl (((t+1)%P.length:Nat):Int)):=by
     unfold M8L1
     refine bck (by simp) (bck (by simp;omega) (bt (gcF _ ht) (cnT (by simp [h0]) (bnk (by simp;exact List.ne_nil_of_length_pos (by omega)) ?_))))
     have e1:Ar.std.wrp .i64 (Ar.std.zadd (t:Int) 1)=((t+1:Nat):Int):=by simp only [std_wrp,std_zadd];exact wrap1 (n:=10) (by omega) (by omega)
     have el:Ar.std.len (eP P)=(P.length:Int):=by simp
     rw [e1,el,remN (by omega) (by omega)]
    rw [iter_inl hst]
    refine ih _ (Nat.mod_lt _ (by omega)) ?_
    rw [Nat.mod_add_mod,show t+1+k=t+(k+1) by omega]
    exact hf
   ·refine ⟨t,ht,h0,iter_inr ?_⟩
    unfold M8L1
    refine bck (by simp) (bck (by simp;omega) (bt (gcF _ ht) (cnF (by simp;exact h0) rfl)))
theorem M8L2_eq {P:Pg} (hv:VP P) {ps:List Int} (hps : ∀ p∈ps,0<=p/\p<256) : ∃ w s',run P s0 w=some s'/\overS P s'=true /\
  iter (M8L2 Ar.std (eP P) (enc (cI .u8) ps) (und P (fun _=>0):Int)) ([],0,eF (lens P) P.length)=some (eInts (iW w),eF (fun _=>0) P.length):=by
 have hn3:=hv.n3
 have hn1:=hv.n1
 have l0:=hv.l7 0
 have l1:=hv.l7 1
 have l2:=hv.l7 2
 have hT:und P (fun _=>0)<=21:=by unfold und;omega
 have el:Ar.std.len (eP P)=(P.length:Int):=by simp
 generalize hTd:und P (fun _=>0)=T at hT
 have key:=iter_rel (step:=M8L2 Ar.std (eP P) (enc (cI .u8) ps) (T:Int)) T (fun (s:List Nat×(Nat->Nat)) (i:Nat)=>(eInts (iW s.1),(i:Int),eF (fun t=>lens P t-s.2 t) P.length))
  (fun i s => ∃ s',run P s0 s.1=some s'/\SP P s' s.2/\s.1.length=i/\und P s.2+i=T) (fun s=>(eInts (iW s.1),eF (fun t=>lens P t-s.2 t) P.length))
  (fun i s hi hR=>by
   obtain ⟨w,n⟩:=s
   obtain ⟨s',hr,hs,hwl,hu⟩:=hR
   simp only at hr hs hwl hu
   have hex : ∃ u,u<P.length/\lens P u-n u≠0:=by
    have hz : ∀ t,P.length<=t->(thr P t).length=0:=fun t ht=>by rw [thr_none ht];rfl
    unfold und at hu
    unfold lens
    by_cases h0:(thr P 0).length-n 0≠0
    ·exact ⟨0,by omega,h0⟩
    ·by_cases h1:(thr P 1).length-n 1≠0
     ·refine ⟨1,?_,h1⟩
      rcases Nat.lt_or_ge 1 P.length with g | g
      ·exact g
      ·have:=hz 1 g;omega
     ·have h2:(thr P 2).length-n 2≠0:=by omega
      refine ⟨2,?_,h2⟩
      rcases Nat.lt_or_ge 2 P.length with g | g
      ·exact g
      ·have:=hz 2 g;omega
   obtain ⟨u,hu1,hu2⟩:=hex
   have hv123 : ∃ t0:Nat,t0<P.length/\(bif Ar.std.zlt (i:Int) (Ar.std.len (enc (cI .u8) ps)) then
     (gt Ar.std (cI .u8) (enc (cI .u8) ps) (i:Int)).bind fun a117=>(nk (Ar.std.zeq (Ar.std.len (eP P)) 0)).bind fun _=>some (Ar.std.rem (Ar.std.wrp .i64 a117) (Ar.std.len (eP P))) else some 0:Option Int)=some (t0:Int):=by
    by_cases hip:i<ps.length
    ·have hget:=zp1 hip
     have hb:=hps _ (zp6 hip)
     generalize ps[i]=p at hget hb
     obtain ⟨q,rfl⟩:=zp9 hb.1
     refine ⟨q%P.length,Nat.mod_lt _ (by omega),cnT (by simp;omega) (bt (gt_enc hget) (bnk (by simp;exact List.ne_nil_of_length_pos (by omega)) ?_))⟩
     have e1:Ar.std.wrp .i64 (q:Int)=(q:Int):=by simp only [std_wrp];exact i64w _ (by omega) (by omega)
     rw [e1,el,remN (by omega) (by omega)]
    ·exact ⟨0,by omega,cnF (by simp;omega) rfl⟩
   obtain ⟨t0,ht0,e0⟩:=hv123
   obtain ⟨t,ht,hft,e1⟩:=M8L1_eq hv (fun t=>lens P t-n t) (u+P.length-t0) t0 ht0 (by
    rw [show t0+(u+P.length-t0)=u+P.length by omega,Nat.add_mod_right,Nat.mod_eq_of_lt hu1];exact hu2)
   have hft:lens P t-n t≠0:=hft
   have ht3:=lt3 hv ht
   have hlt:n t<(thr P t).length:=by unfold lens at hft;omega
   have hstep:=SP.step hv hs ht hlt
   have hus:=und_step ht3 hlt
   have en:=SP.nxe hv hs ht3
   refine ⟨(w++[t],fup n t (n t+1)),⟨doS P s' t (n t),?_,hstep,by simp;omega,by simp only;omega⟩,?_⟩
   ·simp only
    rw [run_app hr,run,if_pos ⟨ht,by rw [en];exact hlt⟩,en];rfl
   ·unfold M8L2
    dsimp only
    have ea:ap Ar.std (eInts (iW w)) [D.int .i64 (t:Int)]=some (eInts (iW (w++[t]))):=by
     rw [ap_std (by simp;omega)]
     simp [iW,enc]
     rfl
    have e4:Ar.std.wrp .i64 (Ar.std.zadd (i:Int) 1)=((i+1:Nat):Int):=by simp only [std_wrp,std_zadd];exact wrap1 (n:=100) (by omega) (by omega)
    have hl7:=hv.l7 t
    have e5:Ar.std.wrp .i64 (Ar.std.zsub ((lens P t-n t:Nat):Int) 1)=((lens P t-n t-1:Nat):Int):=by
     simp only [std_wrp,std_zsub]
     unfold lens at *
     rw [i64w _ (by omega) (by omega)];omega
    have e6:eF (fup (fun t=>lens P t-n t) t (lens P t-n t-1)) P.length=eF (fun u=>lens P u-fup n t (n t+1) u) P.length:=eF_ext fun u hu=>by
     by_cases hut:u=t
     ·subst hut;rw [up_same,up_same];omega
     ·rw [up_ne _ _ _ hut,up_ne _ _ _ hut]
    refine cnT (by simp;omega) (bt e0 (bt e1 (bck (by simp) (bck (by simp;omega) (bt (gcF _ ht) (bck (by simp) (bck (by simp;omega) (bt (lgetF _ ht) (bt ea ?_)))))))))
    rw [e4,e5,lsetF _ ht _ rfl,e6])
  (fun s hR=>by
   unfold M8L2
   dsimp only
   exact cnF (by simp) rfl) ([],fun _=>0) ⟨s0,rfl,SP.init P,rfl,by simp only;omega⟩
 obtain ⟨⟨w,n⟩,⟨s',hr,hs,hwl,hu⟩,h⟩:=key
 simp only at hr hs hwl hu h
 refine ⟨w,s',hr,(und_over hv hs).2 (by omega),?_⟩
 have e0:eF (fun t=>lens P t-0) P.length=eF (lens P) P.length:=eF_ext fun _ _=>by omega
 have hov:=(SP.over hv hs).1 ((und_over hv hs).2 (by omega))
 have e1:eF (fun t=>lens P t-n t) P.length=eF (fun _=>0) P.length:=eF_ext fun t ht=>by
  have:=hov t ht
  unfold lens;omega
 rw [e0,e1] at h
 exact h
theorem gd_vals {P:Pg} : ∀ {w:List Nat} {s s':Sta},run P s w=some s' -> ∀ t∈w,t<P.length
 | [],_,_,_,t,ht=>by cases ht
 | x::w,s,s',h,t,ht=>by
   rw [run] at h
   by_cases hc:x<P.length/\nx s x<(thr P x).length
   ·rw [if_pos hc] at h
    rcases List.mem_cons.1 ht with rfl | ht
    ·exact hc.1
    ·exact gd_vals h t ht
   ·rw [if_neg hc] at h;cases h
theorem iW_sm {P:Pg} (hv:VP P) {o:List Int} {w:List Nat} (h:Gd P s0 o w):SmL (iW w):=by
 have hl:=gd_len hv (SP.init P) h
 have hn3:=hv.n3
 have l0:=hv.l7 0
 have l1:=hv.l7 1
 have l2:=hv.l7 2
 have hT:und P (fun _=>0)<=21:=by unfold und;omega
 obtain ⟨s',h1,_,_⟩:=h
 refine ⟨by simp;omega,fun y hy => ?_⟩
 obtain ⟨t,ht,rfl⟩:=List.mem_map.1 hy
 have:=gd_vals h1 t ht
 omega
theorem M8L3_eq {P:Pg} (hv:VP P) {O:List (List Int)} (hO:IsO 1 P O):iter (M8L3 Ar.std (eP P) (eTab O)) 0=some (.inl ()):=by
 have hl:=hO.len
 have key : ∀ k i,i+k=O.length->iter (M8L3 Ar.std (eP P) (eTab O)) (i:Int)=some (.inl ()):=by
  intro k
  induction k with
  | zero =>
    intro i hi
    refine iter_inr ?_
    unfold M8L3
    exact bt (v:=false) (cnF (by rw [lenHis];simp;omega) rfl) (cnF rfl rfl)
  | succ k ih =>
    intro i hi
    by_cases h20:i<20
    ·have hio:i<O.length:=by omega
     have hget:=zp1 hio
     have hm:=zp6 hio
     generalize O[i]=o at hget hm
     have hc:=(hO.mem o).1 hm
     have hsm:=hO.sm (.inl rfl) hv o hm
     obtain ⟨w,hF,e1⟩:=M28_eq hv (hO.gh (.inl rfl) hv o hm) hc
     have hst:M8L3 Ar.std (eP P) (eTab O) (i:Int)=some (.inl ((i+1:Nat):Int)):=by
      unfold M8L3
      refine bt (v:=true) (cnT (by rw [lenHis];simp;omega) (by simp;omega)) (cnT rfl (bt (gt_eTab hget) (bt e1 (cnT rfl (bt (M33_eq hv hF.1) (bt (v:=false) (cnT rfl (bt (M30_eq hsm.1 hsm.1 hsm.2 hsm.2) ?_)) (cnF rfl ?_)))))))
      ·rw [cmpD_lt.2.2 rfl];rfl
      ·simp only [std_wrp,std_zadd]
       rw [i64w _ (by omega) (by omega)];rfl
     rw [iter_inl hst]
     exact ih (i+1) (by omega)
    ·refine iter_inr ?_
     unfold M8L3
     exact bt (v:=false) (cnT (by rw [lenHis];simp;omega) (by simp;omega)) (cnF rfl rfl)
 exact key O.length 0 (by omega)
theorem M8_ok (P:Pg) (hP:P.length<9223372036854775808) (hl : ∀ t∈P,t.length<9223372036854775808) (ps:List Int) (hps : ∀ p∈ps,0<=p/\p<256):M8 Ar.std (eP P) (enc (cI .u8) ps)=some true:=by
 obtain ⟨b,e,hb⟩:=M17_eq P hP hl
 unfold M8
 cases b with
 | true=>exact bt (v:=true) (bt e rfl) (cnT rfl (bt M18_eq rfl))
 | false =>
   have hS:=hb rfl
   have e2:=M24_eq hS
   cases hv:vPrg P with
   | false =>
     rw [hv] at e2
     exact bt (v:=true) (bt e (cnF rfl (bt e2 rfl))) (cnT rfl (bt M18_eq rfl))
   | true =>
     rw [hv] at e2
     by_cases h60:60<ps.length
     ·exact bt (v:=true) (bt e (cnF rfl (bt e2 (cnT rfl (by simp;omega))))) (cnT rfl (bt M18_eq rfl))
     ·have vp:=VP.of hv
      have hn3:=vp.n3
      have el:Ar.std.len (eP P)=(P.length:Int):=by simp
      refine bt (v:=false) (bt e (cnF rfl (bt e2 (cnT rfl (by simp;omega))))) (cnF rfl ?_)
      have efit:Ar.std.fits (Ar.std.len (eP P))=true:=by
       rw [el,std_fits,decide_eq_true_eq];omega
      have ezle:Ar.std.zle 0 (Ar.std.len (eP P))=true:=by
       rw [el,std_zle,decide_eq_true_eq];omega
      have ezeq:Ar.std.zeq (Ar.std.len (eP P)) (Ar.std.len (eP P))=true:=by rw [std_zeq,decide_eq_true_eq]
      refine bck ezeq (bck ezle (bck efit ?_))
      rw [el,eF_zero]
      refine bt (M8L0_eq vp) ?_
      dsimp only
      obtain ⟨w,s',hr,hov,e3⟩:=M8L2_eq vp hps
      refine bt e3 ?_
      dsimp only
      have hG:Gd P s0 (outE P s') w:=⟨s',hr,hov,rfl⟩
      generalize outE P s'=o at hG
      have hc:Can 1 P o:=(can_gd vp).2 ⟨w,hG⟩
      obtain ⟨O,hO,e4⟩ : ∃ O,IsO 1 P O/\M19 Ar.std (eP P) 1=some (eTab O,0):=by
       rcases M19_eq hS 1 with ⟨h1,_⟩ | ⟨_,h1,_⟩ | ⟨_,_,h⟩
       ·rw [hv] at h1;cases h1
       ·cases h1
       ·exact h
      have hm:=(hO.mem o).2 hc
      have hsm:=hO.sm (.inl rfl) vp o hm
      have hgh:=hO.gh (.inl rfl) vp o hm
      obtain ⟨w1,hF,e5⟩:=M28_eq vp hgh hc
      have e6:M21 Ar.std (eP P) 1 (eInts o)=some (true,0):=by
       classical
       rcases M21_eq hS 1 hgh with ⟨h1,_⟩ | ⟨_,h1,_⟩ | ⟨_,_,h⟩
       ·rw [hv] at h1;cases h1
       ·cases h1
       ·rw [h]
        exact congrArg (fun b=>some (b,(0:Int))) (decide_eq_true hc)
      have s1:=iW_sm vp hF.1
      have s2:=iW_sm vp hG
      refine bt (M33_eq vp hG) (bt e6 (bt e5 (bt (v:=false) (cnT rfl (cnT rfl (cnT rfl (cnT rfl (bt (M30_eq s1.1 s2.1 s1.2 s2.2) ?_))))) (cnF rfl ?_))))
      ·have:=hF.2 w hG
       simp;omega
      ·refine bt (M33_eq vp hF.1) (bt e4 (bt (v:=false) (cnT rfl (cnT rfl (bt (M30_eq hsm.1 hsm.1 hsm.2 hsm.2) ?_))) (cnF rfl (bt (M35_eq vp) (bt (v:=false) (cnT rfl ?_) (cnF rfl (bt (M8L3_eq vp hO) (bt M18_eq rfl))))))))
       ·rw [cmpD_lt.2.2 rfl];rfl
       ·have:=hO.sch vp
        rw [lenHis];simp;omega
end Go.Am
