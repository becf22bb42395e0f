/- Own text: ML22. -/
import Derived.Test.YtlljehkmemajkaaML15
import Derived.Test.YtlljehkmemajkaaGenp0
set_option maxRecDepth 100000
set_option maxHeartbeats 2000000
set_option linter.unusedVariables false
set_option linter.unusedSimpArgs false
set_option linter.unusedSectionVars false
namespace Go.Am
open Go
structure SP (P:Pg) (s:Sta) (n:Nat->Nat):Prop where
 k:WfK 1 P s
 b : ∀ t,t<3 -> ∀ j,btI (s t) j=decide (j<n t)
 l : ∀ t,n t<=(thr P t).length
theorem SP.init (P:Pg):SP P s0 (fun _=>0):=⟨WfK.init 1 P,fun t ht j=>by unfold btI s0;simp,fun t=>Nat.zero_le _⟩
section
variable {P:Pg} (hv:VP P) {s:Sta} {n:Nat->Nat} (h:SP P s n)
include hv h
theorem SP.over:overS P s=true ↔ ∀ t,t<P.length->n t=(thr P t).length:=by
 unfold overS
 rw [List.all_eq_true]
 constructor
 ·intro hh t ht
  have:=hh t (List.mem_range.2 ht)
  rw [zp4,decide_eq_true_eq] at this
  obtain ⟨d0,d1⟩:=h.k.wf.d t (lt3 hv ht)
  have hl:=h.l t
  rcases Nat.lt_or_eq_of_le hl with g | g
  ·have:=(btI_all d0 d1).1 this.1 _ g
   rw [h.b t (lt3 hv ht)] at this;simp at this
  ·exact g
 ·intro hh t ht
  have ht:=List.mem_range.1 ht
  obtain ⟨d0,d1⟩:=h.k.wf.d t (lt3 hv ht)
  rw [zp4,decide_eq_true_eq]
  refine ⟨(btI_all d0 d1).2 fun i hi => ?_,?_⟩
  ·rw [h.b t (lt3 hv ht),hh t ht];simpa using hi
  ·rw [h.k.nb (by decide) t (lt3 hv ht)];rfl
end
def run (P:Pg):Sta->List Nat->Option Sta
 | s,[]=>some s
 | s,t::w=>if t<P.length/\nx s t<(thr P t).length then run P (doS P s t (nx s t)) w else none
end Go.Am

namespace Go.Am
open Go
end Go.Am

namespace Go.Am
open Go
end Go.Am

namespace Go.Am
open Go
theorem remN {a b:Nat} (hb:0<b) (hb2:b<100):Ar.std.rem (a:Int) (b:Int)=((a%b:Nat):Int):=by
 show Int.tmod (a:Int) (b:Int)=_
 exact rfl
end Go.Am

namespace Go.Am
open Go
theorem count_le (R:List Int->List Int->Prop) (inj : ∀ o1 o2 o',R o1 o'->R o2 o'->o1=o2) : ∀ {O O':List (List Int)},O.Nodup->(∀ o∈O,∃ o',o'∈O'/\R o o')->O.length<=O'.length
 | [],_,_,_=>Nat.zero_le _
 | o::O,O',hO,h=>by
   obtain ⟨o',h1,h2⟩:=h o (List.mem_cons_self ..)
   rw [List.nodup_cons] at hO
   have ih:=count_le R inj (O:=O) (O':=O'.erase o') hO.2 (fun x hx=>by
    obtain ⟨x',g1,g2⟩:=h x (List.mem_cons_of_mem _ hx)
    refine ⟨x',(List.mem_erase_of_ne ?_).2 g1,g2⟩
    intro e
    subst e
    exact hO.1 (inj _ _ _ h2 g2▸hx))
   rw [List.length_erase_of_mem h1] at ih
   have:=List.length_pos_of_mem h1
   simp only [List.length_cons];omega
theorem filt_len {α:Type} (p:Nat->Prop) [DecidablePred p] (r r':Nat->α) : ∀ (L:List Nat),(L.filterMap fun i=>if p i then some (r i) else none).length=(L.filterMap fun i=>if p i then some (r' i) else none).length
 | []=>rfl
 | x::L=>by
   rw [List.filterMap_cons,List.filterMap_cons]
   by_cases h:p x
   ·rw [if_pos h,if_pos h];simp only [List.length_cons];rw [filt_len p r r' L]
   ·rw [if_neg h,if_neg h];exact filt_len p r r' L
theorem reads_len (l:List Ac) (r r':Nat->Int):(reads l r).length=(reads l r').length:=filt_len _ _ _ _
theorem flat_inj {f g:Nat->List Int} {c d:List Int} : ∀ {L:List Nat},(∀ t∈L,(f t).length=(g t).length)->L.flatMap f++c=L.flatMap g++d->(∀ t∈L,f t=g t)/\c=d
 | [],_,h=>⟨fun t ht=>(by cases ht),by simpa using h⟩
 | x::L,hl,h=>by
   rw [List.flatMap_cons,List.flatMap_cons,List.append_assoc,List.append_assoc] at h
   obtain ⟨h1,h2⟩:=List.append_inj h (hl x (List.mem_cons_self ..))
   obtain ⟨h3,h4⟩:=flat_inj (fun t ht=>hl t (List.mem_cons_of_mem _ ht)) h2
   refine ⟨fun t ht => ?_,h4⟩
   rcases List.mem_cons.1 ht with rfl | ht
   ·exact h1
   ·exact h3 t ht
def ren (m t:Nat):Nat:=if t<m then m-1-t else t
theorem ren_ren (m t:Nat):ren m (ren m t)=t:=by
 unfold ren
 by_cases h:t<m
 ·rw [if_pos h,if_pos (by omega)];omega
 ·rw [if_neg h,if_neg h]
theorem ren_lt {m t:Nat} (h:t<m):ren m t<m:=by unfold ren;rw [if_pos h];omega
theorem fup_ren {α:Type} (f:Nat->α) (m t:Nat) (b:α):(fun x=>fup f t b (ren m x))=fup (fun x=>f (ren m x)) (ren m t) b:=by
 funext x
 unfold fup
 by_cases h:x=ren m t
 ·rw [if_pos h,if_pos (by rw [h,ren_ren])]
 ·rw [if_neg h,if_neg (fun e=>h (by rw [<-e,ren_ren]))]
theorem thr_rev (P:Pg) (t:Nat):thr P.reverse t=thr P (ren P.length t):=by
 unfold thr ren
 rw [List.getD_eq_getElem?_getD,List.getD_eq_getElem?_getD]
 by_cases h:t<P.length
 ·rw [if_pos h,List.getElem?_reverse h]
 ·rw [if_neg h,List.getElem?_eq_none (by simp;omega),List.getElem?_eq_none (by omega)]
def phR (m:Nat) (s:AS):AS:=⟨fun t=>s.dn (ren m t),fun t=>s.rd (ren m t),fun t=>s.bf (ren m t),s.ce⟩
theorem doA_ren {k:Nat} {P:Pg} (s:AS) (t i:Nat):doA k P.reverse (phR P.length s) (ren P.length t) i=phR P.length (doA k P s t i):=by
 have ht:thr P.reverse (ren P.length t)=thr P t:=by rw [thr_rev,ren_ren]
 have hsn : ∀ c,sn (phR P.length s) (ren P.length t) c=sn s t c:=fun c=>by
  unfold sn phR
  dsimp only
  rw [ren_ren]
 refine AS.mkE ?_ ?_ ?_ ?_
 ·show fup (fun t=>s.dn (ren P.length t)) (ren P.length t) (fup (s.dn (ren P.length (ren P.length t))) i true)=fun x=>fup s.dn t (fup (s.dn t) i true) (ren P.length x)
  rw [fup_ren,ren_ren]
 ·show (if (aAt (thr P.reverse (ren P.length t)) i).1=1 then fup (fun t=>s.rd (ren P.length t)) (ren P.length t) (fup (s.rd (ren P.length (ren P.length t))) i (sn (phR P.length s) (ren P.length t) (aAt (thr P.reverse (ren P.length t)) i).2.1)) else fun t=>s.rd (ren P.length t))=fun x=>(doA k P s t i).rd (ren P.length x)
  rw [ht,hsn,ren_ren]
  unfold doA
  dsimp only
  by_cases h:(aAt (thr P t) i).1=1
  ·simp only [if_pos h];rw [fup_ren]
  ·simp only [if_neg h]
 ·show (if (aAt (thr P.reverse (ren P.length t)) i).1=2/\k=2 then fup (fun t=>s.bf (ren P.length t)) (ren P.length t) (s.bf (ren P.length (ren P.length t))++[((aAt (thr P.reverse (ren P.length t)) i).2.1,(aAt (thr P.reverse (ren P.length t)) i).2.2)]) else fun t=>s.bf (ren P.length t))=fun x=>(doA k P s t i).bf (ren P.length x)
  rw [ht,ren_ren]
  unfold doA
  dsimp only
  by_cases h:(aAt (thr P t) i).1=2/\k=2
  ·simp only [if_pos h];rw [fup_ren]
  ·simp only [if_neg h]
 ·unfold doA phR
  dsimp only
  rw [ht]
theorem stp_ren {k:Nat} {P:Pg} {s u:AS} (h:Stp k P s u):Stp k P.reverse (phR P.length s) (phR P.length u):=by
 cases h with
 | act t i ht hi hm =>
   rw [<-doA_ren]
   have e:thr P.reverse (ren P.length t)=thr P t:=by rw [thr_rev,ren_ren]
   refine .act _ i (by rw [List.length_reverse];exact ren_lt ht) (by rw [e];exact hi) ?_
   rw [e]
   have:(phR P.length s).t (ren P.length t)=s.t t:=by
    unfold phR AS.t
    dsimp only
    rw [ren_ren]
   rw [this];exact hm
 | out t ht hk hb =>
   have e:phR P.length (outB s t)=outB (phR P.length s) (ren P.length t):=by
    have hb2:(phR P.length s).bf (ren P.length t)=s.bf t:=by unfold phR;dsimp only;rw [ren_ren]
    unfold outB
    rw [hb2]
    cases hbt:s.bf t with
    | nil=>rfl
    | cons x r =>
      dsimp only
      unfold phR
      dsimp only
      rw [<-fup_ren]
   rw [e]
   refine .out _ (by rw [List.length_reverse];exact ren_lt ht) hk ?_
   unfold phR
   dsimp only
   rw [ren_ren];exact hb
theorem stps_map {k:Nat} {P P':Pg} (f:AS->AS) (hf : ∀ s u,Stp k P s u->Stp k P' (f s) (f u)) {s u:AS} (h:Stps k P s u):Stps k P' (f s) (f u):=by
 induction h with
 | refl=>exact .refl _
 | tail _ h' ih=>exact .tail ih (hf _ _ h')
theorem len_ren {k:Nat} {P:Pg} {O O':List (List Int)} (hO:IsO k P O) (hO':IsO k P.reverse O'):O.length<=O'.length:=by
 refine count_le (fun o o' => ∃ s,outc P s=o/\outc P.reverse (phR P.length s)=o') ?_ (SS.nodup hO.ss) fun o ho => ?_
 ·rintro o1 o2 o' ⟨s1,rfl,rfl⟩ ⟨s2,rfl,h⟩
  unfold outc at h
  obtain ⟨h1,h2⟩:=flat_inj (fun t ht=>reads_len _ _ _) h
  unfold outc
  have : ∀ (L:List Nat) (f g:Nat->List Int),(∀ x∈L,f x=g x)->L.flatMap f=L.flatMap g:=fun l f g hh=>by
   unfold List.flatMap
   rw [List.map_congr_left hh]
  refine congr (congrArg _ (this _ _ _ fun t ht => ?_)) h2.symm
  have ht:=List.mem_range.1 ht
  have:=h1 (ren P.length t) (List.mem_range.2 (by rw [List.length_reverse];exact ren_lt ht))
  rw [thr_rev,ren_ren] at this
  unfold phR at this
  dsimp only at this
  rw [ren_ren] at this
  exact this.symm
 ·obtain ⟨s,g1,g2,g3⟩:=(hO.mem o).1 ho
  refine ⟨_,(hO'.mem _).2 ⟨phR P.length s,stps_map (phR P.length) (fun _ _=>stp_ren) g1,fun t ht => ?_,rfl⟩,s,g3,rfl⟩
  rw [List.length_reverse] at ht
  have:=g2 (ren P.length t) (ren_lt ht)
  rw [thr_rev]
  exact this
section
variable (a b:Int)
def sg (c:Int):Int:=if c=a then b else if c=b then a else c
theorem sg_sg (c:Int):sg a b (sg a b c)=c:=by
 unfold sg
 by_cases h1:c=a
 ·rw [if_pos h1]
  by_cases h2:b=a
  ·rw [if_pos h2];omega
  ·rw [if_neg h2,if_pos rfl];exact h1.symm
 ·rw [if_neg h1]
  by_cases h2:c=b
  ·rw [if_pos h2,if_pos rfl];exact h2.symm
  ·rw [if_neg h2,if_neg h1,if_neg h2]
theorem sg_inj {c d:Int}:sg a b c=sg a b d↔c=d:=⟨fun h=>by rw [<-sg_sg a b c,h,sg_sg],fun h=>by rw [h]⟩
def swA (x:Ac):Ac:=if x.1=3 then x else (x.1,sg a b x.2.1,x.2.2)
theorem swA_1 (x:Ac):(swA a b x).1=x.1:=by unfold swA;split <;> rfl
theorem swA_3 (x:Ac):(swA a b x).2.2=x.2.2:=by unfold swA;split <;> rfl
theorem swA_2 {x:Ac} (h:x.1≠3):(swA a b x).2.1=sg a b x.2.1:=by unfold swA;rw [if_neg h]
theorem swA_swA (x:Ac):swA a b (swA a b x)=x:=by
 unfold swA
 by_cases h:x.1=3
 ·rw [if_pos h,if_pos h]
 ·rw [if_neg h,if_neg h]
  simp only [sg_sg]
def swP (P:Pg):Pg:=P.map fun l=>l.map (swA a b)
theorem swP_swP (P:Pg):swP a b (swP a b P)=P:=by
 unfold swP
 rw [List.map_map]
 refine (List.map_congr_left fun l _ => ?_).trans (List.map_id _)
 simp only [Function.comp,List.map_map]
 refine (List.map_congr_left fun x _ => ?_).trans (List.map_id _)
 exact swA_swA a b x
theorem thr_sw (P:Pg) (t:Nat):thr (swP a b P) t=(thr P t).map (swA a b):=by
 unfold thr swP
 rw [List.getD_eq_getElem?_getD,List.getD_eq_getElem?_getD,List.getElem?_map]
 cases P[t]? <;> rfl
theorem aAt_sw (l:List Ac) (i:Nat):aAt (l.map (swA a b)) i=swA a b (aAt l i):=by
 unfold aAt
 rw [List.getD_eq_getElem?_getD,List.getD_eq_getElem?_getD,List.getElem?_map]
 cases l[i]? <;> rfl
theorem must_sw {k:Nat} {x y:Ac}:must k (swA a b x) (swA a b y)↔must k x y:=by
 unfold must
 rw [swA_1,swA_1]
 by_cases h1:x.1=3
 ·simp [h1]
 ·by_cases h2:y.1=3
  ·simp [h2]
  ·rw [swA_2 a b h1,swA_2 a b h2,sg_inj]
def phS (s:AS):AS:=⟨s.dn,s.rd,fun t=>(s.bf t).map fun e=>(sg a b e.1,e.2),fun c=>s.ce (sg a b c)⟩
theorem fup_sg (f:Int->Int) (c v:Int):(fun x=>fup f c v (sg a b x))=fup (fun x=>f (sg a b x)) (sg a b c) v:=by
 funext x
 unfold fup
 by_cases h:x=sg a b c
 ·rw [if_pos h,if_pos (by rw [h,sg_sg])]
 ·rw [if_neg h,if_neg (fun e=>h (by rw [<-e,sg_sg]))]
theorem sn_sw (s:AS) (t:Nat) (c:Int):sn (phS a b s) t (sg a b c)=sn s t c:=by
 unfold sn phS
 dsimp only
 rw [List.foldl_map,sg_sg]
 simp only [sg_inj]
theorem doA_sw {k:Nat} {P:Pg} (s:AS) (t i:Nat):doA k (swP a b P) (phS a b s) t i=phS a b (doA k P s t i):=by
 have ea:aAt (thr (swP a b P) t) i=swA a b (aAt (thr P t) i):=by rw [thr_sw,aAt_sw]
 unfold doA
 rw [ea,swA_1,swA_3]
 generalize aAt (thr P t) i=x
 refine AS.mkE rfl ?_ ?_ ?_
 ·show (if x.1=1 then _ else _)=(if x.1=1 then _ else _)
  by_cases h:x.1=1
  ·rw [if_pos h,if_pos h,swA_2 a b (by rw [h];decide),sn_sw];rfl
  ·rw [if_neg h,if_neg h];rfl
 ·show (if x.1=2/\k=2 then _ else _)=fun u=>((if x.1=2/\k=2 then fup s.bf t (s.bf t++[(x.2.1,x.2.2)]) else s.bf) u).map fun e=>(sg a b e.1,e.2)
  by_cases h:x.1=2/\k=2
  ·rw [if_pos h,if_pos h,swA_2 a b (by rw [h.1];decide)]
   funext u
   by_cases hu:u=t
   ·subst hu
    rw [up_same,up_same,List.map_append];rfl
   ·rw [up_ne _ _ _ hu,up_ne _ _ _ hu];rfl
  ·rw [if_neg h,if_neg h];rfl
 ·show (if x.1=2/\k≠2 then _ else _)=fun c=>(if x.1=2/\k≠2 then fup s.ce x.2.1 x.2.2 else s.ce) (sg a b c)
  by_cases h:x.1=2/\k≠2
  ·rw [if_pos h,if_pos h,swA_2 a b (by rw [h.1];decide)]
   exact (fup_sg a b s.ce x.2.1 x.2.2).symm
  ·rw [if_neg h,if_neg h];rfl
theorem may_sw {k:Nat} {l:List Ac} {s:AS} {t i:Nat} (h:mayT k l (s.t t) i):mayT k (l.map (swA a b)) ((phS a b s).t t) i:=by
 obtain ⟨h1,h2,h3⟩:=h
 refine ⟨h1,fun j hj hm=>h2 j hj ?_,fun hk ha => ?_⟩
 ·rw [aAt_sw,aAt_sw,must_sw] at hm;exact hm
 ·rw [aAt_sw,swA_1] at ha
  have:=h3 hk ha
  show (s.bf t).map _=[]
  rw [show s.bf t=[] from this];rfl
theorem stp_sw {k:Nat} {P:Pg} {s u:AS} (h:Stp k P s u):Stp k (swP a b P) (phS a b s) (phS a b u):=by
 have hl:(swP a b P).length=P.length:=by unfold swP;simp
 cases h with
 | act t i ht hi hm =>
   rw [<-doA_sw]
   refine .act t i (by omega) (by rw [thr_sw,List.length_map];exact hi) ?_
   rw [thr_sw];exact may_sw a b hm
 | out t ht hk hb =>
   have e:phS a b (outB s t)=outB (phS a b s) t:=by
    unfold outB
    have hb2:(phS a b s).bf t=(s.bf t).map fun e=>(sg a b e.1,e.2):=rfl
    rw [hb2]
    cases hbt:s.bf t with
    | nil=>rfl
    | cons x r =>
      simp only [List.map_cons]
      refine AS.mkE rfl rfl ?_ (fup_sg a b s.ce x.1 x.2)
      funext u
      show (fup s.bf t r u).map _=fup _ t _ u
      by_cases hu:u=t
      ·subst hu;rw [up_same,up_same]
      ·rw [up_ne _ _ _ hu,up_ne _ _ _ hu];rfl
   rw [e]
   refine .out t (by omega) hk ?_
   intro h
   exact hb (List.map_eq_nil_iff.1 h)
theorem reads_sw (l:List Ac) (r:Nat->Int):reads (l.map (swA a b)) r=reads l r:=by
 unfold reads
 rw [List.length_map]
 simp only [aAt_sw,swA_1]
theorem outc_sw (P:Pg) (s:AS):outc (swP a b P) (phS a b s)=((List.range P.length).flatMap fun t=>reads (thr P t) (s.rd t))++[s.ce (sg a b 0),s.ce (sg a b 1),s.ce (sg a b 2)]:=by
 unfold outc
 rw [show (swP a b P).length=P.length by unfold swP;simp]
 simp only [thr_sw,reads_sw];rfl
theorem len_sw (ha:0<=a/\a<=2) (hb:0<=b/\b<=2) {k:Nat} {P:Pg} {O O':List (List Int)} (hO:IsO k P O) (hO':IsO k (swP a b P) O'):O.length<=O'.length:=by
 refine count_le (fun o o' => ∃ s,outc P s=o/\outc (swP a b P) (phS a b s)=o') ?_ (SS.nodup hO.ss) fun o ho => ?_
 ·rintro o1 o2 o' ⟨s1,rfl,rfl⟩ ⟨s2,rfl,h⟩
  rw [outc_sw,outc_sw] at h
  obtain ⟨h1,h2⟩:=flat_inj (fun t ht=>reads_len _ _ _) h
  simp only [List.cons.injEq,and_true] at h2
  have hr : ∀ c:Int,0<=c/\c<=2->s2.ce (sg a b c)=s1.ce (sg a b c):=fun c hc=>by
   rcases (show c=0\/c=1\/c=2 by omega) with rfl | rfl | rfl
   ·exact h2.1
   ·exact h2.2.1
   ·exact h2.2.2
  have hc : ∀ c:Int,0<=c/\c<=2->s1.ce c=s2.ce c:=fun c hc=>by
   have hb':0<=sg a b c/\sg a b c<=2:=by unfold sg;(repeat' split) <;> omega
   have:=hr _ hb'
   rw [sg_sg] at this;exact this.symm
  unfold outc
  have : ∀ (L:List Nat) (f g:Nat->List Int),(∀ x∈L,f x=g x)->L.flatMap f=L.flatMap g:=fun l f g hh=>by
   unfold List.flatMap
   rw [List.map_congr_left hh]
  rw [hc 0 (by omega),hc 1 (by omega),hc 2 (by omega)]
  congr 1
  exact this _ _ _ fun t ht=>(h1 t ht).symm
 ·obtain ⟨s,g1,g2,g3⟩:=(hO.mem o).1 ho
  refine ⟨_,(hO'.mem _).2 ⟨phS a b s,stps_map (phS a b) (fun _ _=>stp_sw a b) g1,fun t ht => ?_,rfl⟩,s,g3,rfl⟩
  rw [show (swP a b P).length=P.length by unfold swP;simp] at ht
  obtain ⟨q1,q2⟩:=g2 t ht
  rw [thr_sw,List.length_map]
  exact ⟨q1,by show (s.bf t).map _=[];rw [q2];rfl⟩
end
end Go.Am

namespace Go.Am
open Go
theorem M83_eq {l:List Ac} (h:l.length<=1000000):M83 Ar.std (eT l)=some (eT l):=by
 have e:ap Ar.std [] (eT l)=some (eT l):=ap_enc0 (by omega)
 unfold M83
 by_cases h0:0<l.length
 ·exact cnT (by simp;omega) (bt e rfl)
 ·obtain rfl:l=[]:=List.length_eq_zero_iff.1 (by omega)
  refine cnF (by simp) ?_
  rw [show ap Ar.std [] (eT [])=some [] from e]
  simp [both]
theorem M82_no {l:List Int} (h:l.length<=1000000) {x:Int} (hx:x∉l):M82 Ar.std (eInts l) x=some false:=by
 have e:M108 Ar.std (eInts l) x=some (-1):=by
  unfold M108
  have key:=iter_any (step:=M108L0 Ar.std (eInts l) x) l (fun _=>false) (.inr 0) (.inl ()) (fun i a ha hi=>by
   unfold M108L0
   refine cnT (by simp [hi]) (bt (gt_enc ha) (cnF ?_ ?_))
   ·simp
    intro hh
    subst hh
    exact hx (List.mem_of_getElem? ha)
   ·simp only [std_wrp,std_zadd]
    rw [i64w _ (by omega) (by omega)];rfl) (by
   unfold M108L0
   exact cnF (by simp) rfl)
  refine bt key ?_
  have:l.any (fun _=>false)=false:=by rw [List.any_eq_false];intro x _ h;cases h
  rw [this];rfl
 unfold M82
 exact bt e rfl
def bkw (m:Nat):List Int:=(List.range m).map fun t=>(((m-1-t:Nat)):Int)
theorem bkw_get {m i:Nat} (h:i<m):(bkw m)[i]?=some ((m-1-i:Nat):Int):=by
 unfold bkw
 rw [List.getElem?_map,List.getElem?_range h];rfl
theorem M9L0_eq {m:Nat} (hm:1<=m) (hm2:m<=3):iter (M9L0 Ar.std) ([],((m-1:Nat):Int))=some (eInts (bkw m)):=by
 rcases (show m=1\/m=2\/m=3 by omega) with rfl | rfl | rfl
 ·have s1:M9L0 Ar.std ([],((0:Nat):Int))=some (.inl ([.int .i64 0],-1)):=rfl
  have s2:M9L0 Ar.std ([.int .i64 0],-1)=some (.inr [.int .i64 0]):=rfl
  exact (iter_inl s1).trans (iter_inr s2)
 ·have s0:M9L0 Ar.std ([],((1:Nat):Int))=some (.inl ([.int .i64 1],0)):=rfl
  have s1:M9L0 Ar.std ([.int .i64 1],0)=some (.inl ([.int .i64 1,.int .i64 0],-1)):=rfl
  have s2:M9L0 Ar.std ([.int .i64 1,.int .i64 0],-1)=some (.inr [.int .i64 1,.int .i64 0]):=rfl
  exact (iter_inl s0).trans ((iter_inl s1).trans (iter_inr s2))
 ·have s00:M9L0 Ar.std ([],((2:Nat):Int))=some (.inl ([.int .i64 2],1)):=rfl
  have s0:M9L0 Ar.std ([.int .i64 2],1)=some (.inl ([.int .i64 2,.int .i64 1],0)):=rfl
  have s1:M9L0 Ar.std ([.int .i64 2,.int .i64 1],0)=some (.inl ([.int .i64 2,.int .i64 1,.int .i64 0],-1)):=rfl
  have s2:M9L0 Ar.std ([.int .i64 2,.int .i64 1,.int .i64 0],-1)=some (.inr [.int .i64 2,.int .i64 1,.int .i64 0]):=rfl
  exact (iter_inl s00).trans ((iter_inl s0).trans ((iter_inl s1).trans (iter_inr s2)))
theorem M39_eq {P:Pg} (hv:VP P):M39 Ar.std (eP P) (eInts (bkw P.length))=some (eP P.reverse,0):=by
 have hn3:=hv.n3
 have hn1:=hv.n1
 have hP:=VP.short hv
 have e:=M23_eq hP
 rw [VP.to hv] at e
 have hbl:(bkw P.length).length=P.length:=by unfold bkw;simp
 have key:=iter_rel (step:=M39L0 Ar.std (eP P) (eInts (bkw P.length))) P.length (fun (_:Unit) (i:Nat)=>(eP (P.reverse.take i),(i:Int))) (fun _ _=>True) (fun _=>(.inl (eP P.reverse):List D⊕Unit))
  (fun i _ hi _=>by
   refine ⟨(),trivial,?_⟩
   unfold M39L0
   dsimp only
   have hget:=bkw_get hi
   have hj:P.length-1-i<P.length:=by omega
   have e1:Ar.std.wrp .i64 (Ar.std.zsub (Ar.std.len (eP P)) 1)=((P.length-1:Nat):Int):=by
    have el:Ar.std.len (eP P)=(P.length:Int):=by simp
    simp only [el,std_wrp,std_zsub]
    rw [i64w _ (by omega) (by omega)];omega
   have eb:btw 0 ((P.length-1-i:Nat):Int) ((P.length-1:Nat):Int)=true:=by unfold btw;simp
   have hno:((P.length-1-i:Nat):Int)∉(bkw P.length).take i:=by
    intro hm
    obtain ⟨j,hj2⟩:=List.mem_iff_getElem?.1 hm
    by_cases hji:j<i
    ·rw [List.getElem?_take_of_lt hji,bkw_get (by omega)] at hj2
     have:=Option.some.inj hj2
     omega
    ·rw [List.getElem?_eq_none (by simp;omega)] at hj2;cases hj2
   have hr:P.reverse[i]?=some (thr P (P.length-1-i)):=by rw [List.getElem?_reverse hi,thr_get hj]
   have hl7:=hv.l7 (P.length-1-i)
   have ea:ap Ar.std (eP (P.reverse.take i)) [D.list 3 (eT (thr P (P.length-1-i)))]=some (eP (P.reverse.take (i+1))):=by
    rw [ap_std (by simp;omega),take_succ_get hr]
    unfold eP enc
    rw [List.map_append,List.map_append];rfl
   refine cnT (by simp [hbl];omega) (bt (gt_enc hget) (bt (v:=false) ?_ (cnF rfl (bt (gt_eP (thr_get hj)) (bt (M83_eq (by omega)) (bt ea ?_))))))
   ·rw [e1]
    refine bt (M65_eq _ _ _) ?_
    rw [eb]
    exact cnT rfl (bt (sl_encT (by omega)) (bt (M82_no (by simp;omega) hno) rfl))
   ·simp only [std_wrp,std_zadd]
    rw [i64w _ (by omega) (by omega)];rfl)
  (fun _ _=>by
   unfold M39L0
   dsimp only
   refine cnF (by simp [hbl]) ?_
   rw [List.take_of_length_le (by simp)]) () trivial
 obtain ⟨_,_,h⟩:=key
 unfold M39
 refine bt e (cnT rfl (bt (show iter (M39L0 Ar.std (eP P) (eInts (bkw P.length))) ([],0)=_ from h) ?_))
 rw [Sum.elim_inl]
 exact cnT (by simp) rfl
theorem lsetT (l:List Ac) {i:Nat} (h:i<l.length) (x:Ac) {z:Nat} (hz:z=i):Ar.std.lset (eT l) z (.agg [.int .i64 x.1,.int .i64 x.2.1,.int .i64 x.2.2])=eT (l.set i x):=by
 subst hz
 show (eT l).set z _=_
 unfold eT enc
 rw [List.map_set];rfl
theorem gcT {l:List Ac} {i:Nat} {x:Ac} (h:l[i]?=some x) {z:Nat} (hz:z=i):gc Ar.std cA3 (eT l) z=some x:=by
 subst hz
 have h2:(eT l)[z]?=some (cA3.en x):=by
  unfold eT enc
  rw [List.getElem?_map,h];rfl
 unfold gc
 have:Ar.std.lget (eT l) z=some (cA3.en x):=h2
 rw [this];rfl
theorem fzT (l:List Ac):fz Ar.std (eT l) 0 (Ar.std.len (eT l))=some (eT l):=by
 unfold fz
 have hz:Ar.std.zle (Ar.std.zadd 0 (Ar.std.len (eT l))) (Ar.std.len (eT l))=true:=by simp
 rw [hz,cond_true]
 have:Ar.std.sub (eT l) 0 (Ar.std.zadd 0 (Ar.std.len (eT l)))=eT l:=by
  show ((eT l).drop (0:Int).toNat).take ((0+((eT l).length:Int)).toNat-(0:Int).toNat)=_
  simp
  exact List.take_of_length_le (by simp)
 rw [this]
theorem scalT (l:List Ac):scalars (eT l)=true:=by
 unfold scalars eT enc
 rw [List.all_eq_true]
 intro x hx
 obtain ⟨y,_,rfl⟩:=List.mem_map.1 hx
 rfl
theorem M85_eq {l:List Ac} (hl:l.length<=20) (a b:Int):M85 Ar.std (eT l) a b=some (eT (l.map (swA a b))):=by
 unfold M85
 refine bt (M83_eq (by omega)) ?_
 by_cases h0:0<l.length
 ·refine cnT (by simp;omega) (bck (scalT l) ?_)
  have key:=iter_rel (step:=M85L0 Ar.std a b (eT l)) l.length (fun (_:Unit) (i:Nat)=>((i:Int),eT ((l.map (swA a b)).take i++l.drop i))) (fun _ _=>True) (fun _=>eT (l.map (swA a b)))
   (fun i _ hi _=>by
    refine ⟨(),trivial,?_⟩
    unfold M85L0
    dsimp only
    have hx:=zp1 hi
    generalize l[i]=x at hx
    have hlen:((l.map (swA a b)).take i++l.drop i).length=l.length:=by simp;omega
    have hmx:((l.map (swA a b)).take i++l.drop i)[i]?=some x:=by
     rw [zp8 (by simp;omega),List.getElem?_drop]
     rw [show i+(i-((l.map (swA a b)).take i).length)=i by simp;omega];exact hx
    have hnext : ∀ y,y=swA a b x->((l.map (swA a b)).take i++l.drop i).set i y=(l.map (swA a b)).take (i+1)++l.drop (i+1):=by
     rintro y rfl
     have hmg:(l.map (swA a b))[i]?=some (swA a b x):=by rw [List.getElem?_map,hx];rfl
     rw [take_succ_get hmg]
     apply List.ext_getElem?
     intro j
     rcases Nat.lt_trichotomy j i with g | g | g
     ·rw [List.getElem?_set_ne (by omega),zp7 (by simp;omega),List.append_assoc,zp7 (by simp;omega)]
     ·subst g
      rw [List.getElem?_set_self (by omega),List.append_assoc,zp8 (by simp;omega)]
      rw [show j-((l.map (swA a b)).take j).length=0 by simp;omega];rfl
     ·rw [List.getElem?_set_ne (by omega),zp8 (by simp;omega),zp8 (by simp;omega),List.getElem?_drop,List.getElem?_drop]
      congr 1
      simp;omega
    have hsame:swA a b x=x->((l.map (swA a b)).take i++l.drop i)=(l.map (swA a b)).take (i+1)++l.drop (i+1):=fun hs=>by
     rw [<-hnext x hs.symm]
     apply List.ext_getElem?
     intro j
     by_cases g:j=i
     ·subst g;rw [List.getElem?_set_self (by omega),hmx]
     ·rw [List.getElem?_set_ne (by omega)]
    have ez:Ar.std.nat (Ar.std.zadd 0 (i:Int))=i:=natI (by simp)
    have ew:Ar.std.wrp .i64 (Ar.std.zadd (i:Int) 1)=((i+1:Nat):Int):=by simp only [std_wrp,std_zadd];exact wrap1 (n:=100) (by omega) (by omega)
    rw [ew,ez]
    refine cnT (by simp;omega) (bck (by simp) (bck (by simp;omega) (bt (gcT hmx rfl) (bt (v := !decide (x.1=3)) rfl (bt (v:=eT ((l.map (swA a b)).take (i+1)++l.drop (i+1))) ?_ rfl)))))
    by_cases h3:x.1=3
    ·rw [decide_eq_true h3]
     rw [hsame (by unfold swA;rw [if_pos h3])];rfl
    ·rw [decide_eq_false h3]
     refine cnT rfl (bt (v:=eT ((l.map (swA a b)).take (i+1)++l.drop (i+1))) ?_ rfl)
     by_cases ha:x.2.1=a
     ·refine cnT (by simp [ha]) (bck (by simp) (bck (by simp;omega) ?_))
      rw [<-hnext (x.1,b,x.2.2) (by unfold swA sg;rw [if_neg h3,if_pos ha])]
      exact congrArg some (lsetT _ (by omega) (x.1,b,x.2.2) rfl)
     ·refine cnF (by simp [ha]) (bt (v:=eT ((l.map (swA a b)).take (i+1)++l.drop (i+1))) ?_ rfl)
      by_cases hb:x.2.1=b
      ·refine cnT (by simp [hb]) (bck (by simp) (bck (by simp;omega) ?_))
       rw [<-hnext (x.1,a,x.2.2) (by unfold swA sg;rw [if_neg h3,if_neg ha,if_pos hb])]
       exact congrArg some (lsetT _ (by omega) (x.1,a,x.2.2) rfl)
      ·refine cnF (by simp [hb]) ?_
       rw [hsame (by unfold swA sg;rw [if_neg h3,if_neg ha,if_neg hb])])
   (fun _ _=>by
    unfold M85L0
    dsimp only
    refine cnF (by simp) ?_
    rw [List.take_of_length_le (by simp),List.drop_eq_nil_of_le (Nat.le_refl _),List.append_nil]) () trivial
  obtain ⟨_,_,h⟩:=key
  refine bt (show iter (M85L0 Ar.std a b (eT l)) (0,eT l)=_ from h) ?_
  have el:Ar.std.len (eT l)=Ar.std.len (eT (l.map (swA a b))):=by simp
  rw [el]
  exact bt (fzT _) rfl
 ·obtain rfl:l=[]:=List.length_eq_zero_iff.1 (by omega)
  refine cnF (by simp) (bt (v:=()) ?_ rfl)
  refine iter_inr ?_
  unfold M85L1
  exact cnF (by simp) rfl
theorem M84_eq {P:Pg} (hv:VP P) (a b:Int):M84 Ar.std (eP P) a b=some (eP (swP a b P),0):=by
 have hn3:=hv.n3
 have e:=M23_eq (VP.short hv)
 rw [VP.to hv] at e
 have el:Ar.std.len (eP P)=(P.length:Int):=by simp
 have key:=iter_rel (step:=M84L0 Ar.std (eP P) a b) P.length (fun (_:Unit) (i:Nat)=>((i:Int),eP ((swP a b P).take i))) (fun _ _=>True) (fun _=>eP (swP a b P))
  (fun i _ hi _=>by
   refine ⟨(),trivial,?_⟩
   unfold M84L0
   dsimp only
   have hr:(swP a b P)[i]?=some ((thr P i).map (swA a b)):=by unfold swP;rw [List.getElem?_map,thr_get hi];rfl
   have hl7:=hv.l7 i
   have ea:ap Ar.std (eP ((swP a b P).take i)) [D.list 3 (eT ((thr P i).map (swA a b)))]=some (eP ((swP a b P).take (i+1))):=by
    rw [ap_std (by simp;omega),take_succ_get hr]
    unfold eP enc
    rw [List.map_append,List.map_append];rfl
   refine cnT (by simp;omega) (bt (gt_eP (thr_get hi)) (bt (M85_eq (by omega) a b) (bt ea ?_)))
   simp only [std_wrp,std_zadd]
   rw [i64w _ (by omega) (by omega)];rfl)
  (fun _ _=>by
   unfold M84L0
   dsimp only
   refine cnF (by simp) ?_
   rw [List.take_of_length_le (by unfold swP;simp)]) () trivial
 obtain ⟨_,_,h⟩:=key
 have ezle:Ar.std.zle 0 (Ar.std.len (eP P))=true:=by rw [el,std_zle,decide_eq_true_eq];omega
 have efit:Ar.std.fits (Ar.std.len (eP P))=true:=by rw [el,std_fits,decide_eq_true_eq];omega
 unfold M84
 refine bt e (cnT rfl (bck ezle (bck rfl (bck efit (bt (show iter (M84L0 Ar.std (eP P) a b) (0,Ar.std.rep 0 (.list 3 []))=_ from h) rfl)))))
theorem M40_eq {P:Pg} (hv:VP P) {a b:Int} (ha:0<=a/\a<=2) (hb:0<=b/\b<=2):M40 Ar.std (eP P) a b=some (eP (swP a b P),0):=by
 have e:=M23_eq (VP.short hv)
 rw [VP.to hv] at e
 have b1:btw 0 a 2=true:=by unfold btw;simp;omega
 have b2:btw 0 b 2=true:=by unfold btw;simp;omega
 unfold M40
 refine bt e (cnT rfl (bt (v:=false) (bt (M65_eq _ _ _) ?_) (cnF rfl (bt (M84_eq hv a b) rfl))))
 rw [b1]
 refine cnT rfl (bt (M65_eq _ _ _) ?_)
 rw [b2];rfl
theorem M41_eq {P:Pg} (hv:VP P):M41 Ar.std (eP P) (eP P)=some true:=by
 have hn3:=hv.n3
 unfold M41
 refine cnT (by simp) ?_
 have key:=iter_any (step:=M41L1 Ar.std (eP P) (eP P)) P (fun _=>false) (.inr ()) (.inl ()) (fun i t ht hi=>by
  have et:t=thr P i:=by rw [thr_get hi] at ht;exact (Option.some.inj ht).symm
  have hl7:=hv.l7 i
  rw [<-et] at hl7
  unfold M41L1
  refine cnT (by simp [hi]) (bt (gt_eP ht) (bt (gt_eP ht) (cnT (by simp) ?_)))
  have k2:=iter_any (step:=M41L0 Ar.std (eT t) (eT t)) t (fun _=>false) (.inr ()) (.inl ()) (fun j x hx hj=>by
   unfold M41L0
   refine cnT (by simp [hj]) (bt (gt_enc hx) (bt (gt_enc hx) (cnT (by simp [Ar.std]) ?_)))
   simp only [std_wrp,std_zadd]
   rw [i64w _ (by omega) (by omega)];rfl) (by
   unfold M41L0
   exact cnF (by simp) rfl)
  refine bt k2 ?_
  have:t.any (fun _=>false)=false:=by rw [List.any_eq_false];intro x _ h;cases h
  rw [this]
  simp only [cond_false,Sum.elim_inl,std_wrp,std_zadd]
  rw [i64w _ (by omega) (by omega)];rfl) (by
  unfold M41L1
  exact cnF (by simp) rfl)
 refine bt key ?_
 have:P.any (fun _=>false)=false:=by rw [List.any_eq_false];intro x _ h;cases h
 rw [this];rfl
end Go.Am

namespace Go.Am
open Go
theorem vPrg_rev (P:Pg):vPrg P.reverse=vPrg P:=by
 unfold vPrg allW
 rw [List.length_reverse,List.map_reverse,List.sum_reverse]
 congr 2
 rw [Bool.eq_iff_iff,List.all_eq_true,List.all_eq_true]
 simp
theorem vAct_sw {a b:Int} (ha:0<=a/\a<=2) (hb:0<=b/\b<=2) {x:Ac} (h:vAct x=true):vAct (swA a b x)=true:=by
 obtain ⟨p,q,r⟩:=x
 have hs : ∀ c:Int,0<=c->c<=2->0<=sg a b c/\sg a b c<=2:=fun c h1 h2=>by unfold sg;(repeat' split) <;> omega
 rcases act_cases h with ⟨h1,h2,h3,h4⟩ | ⟨h1,h2,h3,h4⟩ | h1
 ·have:=hs q h2 h3
  simp only at h1 h4
  subst h1 h4
  unfold swA vAct btw
  simp;omega
 ·have:=hs q h2 h3
  simp only at h1 h4
  subst h1
  unfold swA vAct btw
  simp;omega
 ·rw [h1];rfl
theorem nWk_sw (a b:Int) (l:List Ac):nWk (l.map (swA a b))=nWk l:=by
 unfold nWk
 rw [List.countP_map]
 refine List.countP_congr fun x _ => ?_
 show (wk (swA a b x)=true)↔_
 unfold wk
 rw [swA_1]
theorem vPrg_sw {a b:Int} (ha:0<=a/\a<=2) (hb:0<=b/\b<=2) {P:Pg} (h:vPrg P=true):vPrg (swP a b P)=true:=by
 unfold vPrg allW at *
 rw [zp4,zp4] at *
 obtain ⟨⟨h1,h2⟩,h3⟩:=h
 have e:((swP a b P).map nWk)=P.map nWk:=by
  unfold swP
  rw [List.map_map]
  exact List.map_congr_left fun l _=>nWk_sw a b l
 have el:(swP a b P).length=P.length:=by unfold swP;simp
 rw [e,el]
 refine ⟨⟨?_,h2⟩,h3⟩
 rw [List.all_eq_true] at *
 intro l hl
 obtain ⟨m,hm,rfl⟩:=List.mem_map.1 hl
 have:=h1 m hm
 unfold vThr at *
 rw [zp4,zp4] at *
 rw [List.length_map,nWk_sw]
 refine ⟨⟨this.1.1,?_⟩,this.2⟩
 have h4:=this.1.2
 rw [List.all_eq_true] at *
 intro x hx
 obtain ⟨y,hy,rfl⟩:=List.mem_map.1 hx
 exact vAct_sw ha hb (h4 y hy)
theorem M19_of {P:Pg} (hv:VP P) {z:Int} (hk:kindB z=true) : ∃ O,IsO z.toNat P O/\M19 Ar.std (eP P) z=some (eTab O,0):=by
 rcases M19_eq (VP.short hv) z with ⟨h1,_⟩ | ⟨_,h1,_⟩ | ⟨_,_,h⟩
 ·rw [VP.to hv] at h1;cases h1
 ·rw [hk] at h1;cases h1
 ·exact h
theorem rem3 {a:Int} (h:0<=a/\a<256):0<=Ar.std.rem (Ar.std.wrp .i64 a) 3/\Ar.std.rem (Ar.std.wrp .i64 a) 3<=2:=by
 have e:Ar.std.wrp .i64 a=a:=by simp only [std_wrp];exact i64w _ (by omega) (by omega)
 rw [e]
 obtain ⟨n,rfl⟩:=zp9 h.1
 have:=remN (a:=n) (b:=3) (by omega) (by omega)
 have e2:Ar.std.rem (n:Int) 3=((n%3:Nat):Int):=this
 rw [e2];omega
theorem M9_ok (P:Pg) (hP:P.length<9223372036854775808) (hl : ∀ t∈P,t.length<9223372036854775808) (a b c:Int) (ha:0<=a/\a<256) (hb:0<=b/\b<256) (hc:0<=c/\c<256):M9 Ar.std (eP P) a b c=some true:=by
 obtain ⟨q,e,hq⟩:=M17_eq P hP hl
 unfold M9
 cases q with
 | true=>exact bt (v:=true) (bt e rfl) (cnT rfl (bt M18_eq rfl))
 | false =>
   have hS:=hq rfl
   have e2:=M24_eq hS
   cases hv:vPrg P with
   | false =>
     rw [hv] at e2
     exact bt (v:=true) (bt e (cnF rfl (bt e2 rfl))) (cnT rfl (bt M18_eq rfl))
   | true =>
     rw [hv] at e2
     have vp:=VP.of hv
     have hn3:=vp.n3
     have hn1:=vp.n1
     refine bt (v:=false) (bt e (cnF rfl (bt e2 rfl))) (cnF rfl ?_)
     have ra:=rem3 ha
     have rb:=rem3 hb
     have rc:=rem3 hc
     generalize Ar.std.rem (Ar.std.wrp .i64 a) 3=x at ra
     generalize Ar.std.rem (Ar.std.wrp .i64 b) 3=y at rb
     generalize Ar.std.rem (Ar.std.wrp .i64 c) 3=z at rc
     have ez:Ar.std.wrp .i64 (Ar.std.zadd 1 z)=1+z:=by
      simp only [std_wrp,std_zadd]
      exact i64w _ (by omega) (by omega)
     have kz:kindB (1+z)=true:=by unfold kindB;simp;omega
     have e1:Ar.std.wrp .i64 (Ar.std.zsub (Ar.std.len (eP P)) 1)=((P.length-1:Nat):Int):=by
      have el:Ar.std.len (eP P)=(P.length:Int):=by simp
      simp only [el,std_wrp,std_zsub]
      rw [i64w _ (by omega) (by omega)];omega
     have vr:VP P.reverse:=VP.of (by rw [vPrg_rev];exact hv)
     have vs:VP (swP x y P):=VP.of (vPrg_sw ra rb hv)
     have er:M39 Ar.std (eP P.reverse) (eInts (bkw P.length))=some (eP P,0):=by
      have:=M39_eq vr
      rw [List.length_reverse,List.reverse_reverse] at this
      exact this
     have es:M40 Ar.std (eP (swP x y P)) x y=some (eP P,0):=by
      have:=M40_eq vs ra rb
      rw [swP_swP] at this
      exact this
     obtain ⟨O,hO,o1⟩:=M19_of vp kz
     obtain ⟨O',hO',o2⟩:=M19_of vr kz
     obtain ⟨O'',hO'',o3⟩:=M19_of vs kz
     have l1:O.length=O'.length:=Nat.le_antisymm (len_ren hO hO') (len_ren hO' (by rw [List.reverse_reverse];exact hO))
     have l2:O.length=O''.length:=Nat.le_antisymm (len_sw x y ra rb hO hO'') (len_sw x y ra rb hO'' (by rw [swP_swP];exact hO))
     rw [e1,ez]
     refine bnk rfl (bnk rfl (bnk rfl (bt (M9L0_eq hn1 hn3) (bt (M39_eq vp) (bt (M40_eq vp ra rb) (bt (v:=false) (cnT rfl rfl) (cnF rfl (bt es (bt er (bt (v:=false) (cnT rfl (cnT rfl (bt (M41_eq vp) (cnT rfl (bt (M41_eq vp) rfl))))) (cnF rfl (bt o1 (bt o2 (bt o3 (bt (v:=true) (cnT rfl (cnT rfl (cnT rfl (cnT ?_ (cnT ?_ (bt M18_eq rfl)))))) rfl)))))))))))))))
     ·rw [lenHis,lenHis,std_zeq,decide_eq_true_eq,l1]
     ·rw [lenHis,lenHis,std_zeq,decide_eq_true_eq,l2]
end Go.Am
