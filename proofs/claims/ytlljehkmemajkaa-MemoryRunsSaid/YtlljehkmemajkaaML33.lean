/- Own text: ML33. -/
import Derived.Test.YtlljehkmemajkaaML15
import Derived.Test.YtlljehkmemajkaaGenp0
set_option maxRecDepth 100000
set_option maxHeartbeats 1000000
set_option linter.unusedVariables false
set_option linter.unusedSimpArgs false
set_option linter.unusedSectionVars false
namespace Go.Am
open Go
abbrev Pt:=Nat×Nat
def acA (P:Pg) (x:Pt):Ac:=aAt (thr P x.1) x.2
def indep (a b:Ac):Prop:=a.1=3\/b.1=3\/a.2.1≠b.2.1\/(a.1≠2/\b.1≠2)
theorem indep.symm {a b:Ac} (h:indep a b):indep b a:=by
 rcases h with h | h | h | h
 ·exact .inr (.inl h)
 ·exact .inl h
 ·exact .inr (.inr (.inl fun e=>h e.symm))
 ·exact .inr (.inr (.inr ⟨h.2,h.1⟩))
def ex (P:Pg) (s:AS) (L:List Pt):AS:=L.foldl (fun s x=>doA 3 P s x.1 x.2) s
section
variable {P:Pg} {s:AS}
theorem doA_k {k:Nat} (hk:k≠2) (t i:Nat):doA k P s t i=doA 3 P s t i:=by simp [doA,hk]
theorem doA_rd (hb : ∀ t,s.bf t=[]) (x y:Pt):(doA 3 P s x.1 x.2).rd y.1 y.2=if (acA P x).1=1/\y=x then s.ce (acA P x).2.1 else s.rd y.1 y.2:=by
 obtain ⟨t,i⟩:=x
 obtain ⟨u,j⟩:=y
 simp only [doA,acA,fup,Prod.mk.injEq]
 by_cases h:(aAt (thr P t) i).1=1
 ·by_cases h1:u=t
  ·subst h1
   by_cases h2:j=i <;> simp [fup,h,sn,hb,h2]
  ·simp [fup,h,h1]
 ·simp [h]
end
inductive Trc (k:Nat) (P:Pg):List Pt->Prop
 | nil:Trc k P []
 | snoc {L:List Pt} {x:Pt} (h:Trc k P L) (h1:x.1<P.length) (h2:x.2<(thr P x.1).length) (h3:x∉L) (h4 : ∀ j,j<x.2->must k (acA P x) (acA P (x.1,j))->(x.1,j)∈L):Trc k P (L++[x])
def Whole (P:Pg) (L:List Pt):Prop := ∀ t i,t<P.length->i<(thr P t).length->(t,i)∈L
end Go.Am

set_option maxHeartbeats 2000000
namespace Go.Am
open Go
structure SP (P:Pg) (s:Sta) (n:Nat->Nat):Prop where
 k:WfK 1 P s
 b : ∀ t,t<3 -> ∀ j,btI (s t) j=decide (j<n t)
 l : ∀ t,n t<=(thr P t).length
theorem SP.init (P:Pg):SP P s0 (fun _=>0):=⟨WfK.init 1 P,fun t ht j=>by unfold btI s0;simp,fun t=>Nat.zero_le _⟩
theorem doS_low (P:Pg) (s:Sta) (t i:Nat) {u:Nat} (hu:u<3):doS P s t i u=dS s t i u:=by
 unfold doS
 split
 ·rw [up_ne _ _ _ (by omega)]
 ·split
  ·rw [up_ne _ _ _ (by omega)]
  ·rfl
section
variable {P:Pg} (hv:VP P) {s:Sta} {n:Nat->Nat} (h:SP P s n)
include hv h
theorem SP.nxe {t:Nat} (ht:t<3):nx s t=n t:=by
 obtain ⟨h1,h2,_⟩:=nx_spec hv h.k.wf ht
 have hb:=h.b t ht
 rcases Nat.lt_trichotomy (nx s t) (n t) with g | g | g
 ·rw [hb,decide_eq_true g] at h2;cases h2
 ·exact g
 ·have:=h1 _ g
  rw [hb,decide_eq_false (Nat.lt_irrefl _)] at this;cases this
theorem SP.step {t:Nat} (ht:t<P.length) (hi:n t<(thr P t).length):SP P (doS P s t (n t)) (fup n t (n t+1)):=by
 have ht3:=lt3 hv ht
 have hb:btI (s t) (n t)=false:=by rw [h.b t ht3];simp
 have hw:=act_wf hv h.k ht hi hb
 have e:actS 1 P s t (n t)=doS P s t (n t):=by unfold actS;simp
 rw [e] at hw
 refine ⟨hw,fun u hu j => ?_,fun u => ?_⟩
 ·rw [doS_low P s t _ hu]
  unfold dS
  by_cases hut:u=t
  ·subst hut
   rw [up_same,up_same,btI_set,h.b u hu]
   rw [Bool.eq_iff_iff];simp;omega
  ·rw [up_ne _ _ _ hut,up_ne _ _ _ hut];exact h.b u hu j
 ·by_cases hut:u=t
  ·subst hut;rw [up_same];omega
  ·rw [up_ne _ _ _ hut];exact h.l u
theorem SP.over:overS P s=true ↔ ∀ t,t<P.length->n t=(thr P t).length:=by
 unfold overS
 rw [List.all_eq_true]
 constructor
 ·intro hh t ht
  have:=hh t (List.mem_range.2 ht)
  rw [zp4,decide_eq_true_eq] at this
  obtain ⟨d0,d1⟩:=h.k.wf.d t (lt3 hv ht)
  have hl:=h.l t
  rcases Nat.lt_or_eq_of_le hl with g | g
  ·have:=(btI_all d0 d1).1 this.1 _ g
   rw [h.b t (lt3 hv ht)] at this;simp at this
  ·exact g
 ·intro hh t ht
  have ht:=List.mem_range.1 ht
  obtain ⟨d0,d1⟩:=h.k.wf.d t (lt3 hv ht)
  rw [zp4,decide_eq_true_eq]
  refine ⟨(btI_all d0 d1).2 fun i hi => ?_,?_⟩
  ·rw [h.b t (lt3 hv ht),hh t ht];simpa using hi
  ·rw [h.k.nb (by decide) t (lt3 hv ht)];rfl
end
def run (P:Pg):Sta->List Nat->Option Sta
 | s,[]=>some s
 | s,t::w=>if t<P.length/\nx s t<(thr P t).length then run P (doS P s t (nx s t)) w else none
def und (P:Pg) (n:Nat->Nat):Nat:=((thr P 0).length-n 0)+((thr P 1).length-n 1)+((thr P 2).length-n 2)
theorem und_step {P:Pg} {n:Nat->Nat} {t:Nat} (ht:t<3) (hi:n t<(thr P t).length):und P (fup n t (n t+1))+1=und P n:=by
 unfold und
 rcases (show t=0\/t=1\/t=2 by omega) with rfl | rfl | rfl
 ·rw [up_same,up_ne _ _ _ (by decide),up_ne _ _ _ (by decide)];omega
 ·rw [up_same,up_ne _ _ _ (by decide),up_ne _ _ _ (by decide)];omega
 ·rw [up_same,up_ne _ _ _ (by decide),up_ne _ _ _ (by decide)];omega
theorem run_len {P:Pg} (hv:VP P) : ∀ {w:List Nat} {s s':Sta} {n:Nat->Nat},SP P s n->run P s w=some s' -> ∃ n',SP P s' n'/\w.length+und P n'=und P n
 | [],s,s',n,h,hr=>by cases hr;exact ⟨n,h,by simp⟩
 | t::w,s,s',n,h,hr=>by
   unfold run at hr
   by_cases hc:t<P.length/\nx s t<(thr P t).length
   ·rw [if_pos hc] at hr
    have ht3:=lt3 hv hc.1
    have e:=SP.nxe hv h ht3
    have hs:=SP.step hv h hc.1 (e▸hc.2)
    have hu:=und_step ht3 (e▸hc.2)
    rw [<-e] at hs hu
    obtain ⟨n',h1,h2⟩:=run_len hv hs hr
    refine ⟨n',h1,?_⟩
    simp only [List.length_cons];omega
   ·rw [if_neg hc] at hr;cases hr
theorem und_over {P:Pg} (hv:VP P) {s:Sta} {n:Nat->Nat} (h:SP P s n):overS P s=true↔und P n=0:=by
 rw [SP.over hv h]
 have h0:=h.l 0
 have h1:=h.l 1
 have h2:=h.l 2
 unfold und
 constructor
 ·intro hh
  have key : ∀ t,(thr P t).length-n t=0:=fun t=>by
   by_cases ht:t<P.length
   ·rw [hh t ht];omega
   ·rw [thr_none (by omega)];simp
  rw [key 0,key 1,key 2]
 ·intro hh t ht
  rcases (show t=0\/t=1\/t=2 by have:=lt3 hv ht;omega) with rfl | rfl | rfl <;> omega
abbrev iW (w:List Nat):List Int:=w.map fun t:Nat=>(t:Int)
end Go.Am

namespace Go.Am
open Go
end Go.Am

namespace Go.Am
open Go
def inn (v tot:Nat):Nat->Nat
 | 0=>v
 | i+1=>inn v tot i*(tot+i+1) / (i+1)
def sch (a b c:Nat):Nat:=inn (inn (inn 1 0 a) a b) (a+b) c
theorem schF : ∀ a b c:Fin 8,sch a.val b.val c.val<=1000000000/\sch a.val b.val c.val=(if a.val=0/\b.val=0/\c.val=0 then 1 else
  (if 0<a.val then sch (a.val-1) b.val c.val else 0)+(if 0<b.val then sch a.val (b.val-1) c.val else 0)+(if 0<c.val then sch a.val b.val (c.val-1) else 0)):=by decide +kernel
theorem sch_le {a b c:Nat} (ha:a<=7) (hb:b<=7) (hc:c<=7):sch a b c<=1000000000:=(schF ⟨a,by omega⟩ ⟨b,by omega⟩ ⟨c,by omega⟩).1
theorem M35L0_eq {l:List D} {v tot m:Nat} (hl:l.length=m) (hm:m<=7) (ht:tot<=100) (hb : ∀ i,i<=m->inn v tot i<=1000000000):iter (M35L0 Ar.std l) ((v:Int),(tot:Int),0)=some ((inn v tot m:Int),((tot+m:Nat):Int)):=by
 have key:=iter_rel (step:=M35L0 Ar.std l) m (fun (_:Unit) (i:Nat)=>((inn v tot i:Int),((tot+i:Nat):Int),(i:Int))) (fun _ _=>True) (fun _=>((inn v tot m:Int),((tot+m:Nat):Int)))
  (fun i _ hi _=>by
   refine ⟨(),trivial,?_⟩
   unfold M35L0
   dsimp only
   have h1:=hb i (by omega)
   have h2:=hb (i+1) (by omega)
   have e1:Ar.std.wrp .i64 (Ar.std.zadd (i:Int) 1)=((i+1:Nat):Int):=by simp only [std_wrp,std_zadd];exact wrap1 (n:=10) (by omega) (by omega)
   have e2:Ar.std.wrp .i64 (Ar.std.zadd ((tot+i:Nat):Int) 1)=((tot+i+1:Nat):Int):=by simp only [std_wrp,std_zadd];exact wrap1 (n:=1000) (by omega) (by omega)
   have hprod:inn v tot i*(tot+i+1)<=1000000000*108:=Nat.mul_le_mul h1 (by omega)
   have e3:Ar.std.wrp .i64 (Ar.std.zmul (inn v tot i:Int) ((tot+i+1:Nat):Int))=((inn v tot i*(tot+i+1):Nat):Int):=by
    simp only [std_wrp,std_zmul]
    rw [<-Int.natCast_mul,i64w _ (by omega) (by omega)]
   rw [e1,e2,e3]
   refine cnT (by simp;omega) (bnk (by simp;omega) ?_)
   have e4:Ar.std.quo .i64 ((inn v tot i*(tot+i+1):Nat):Int) ((i+1:Nat):Int)=(inn v tot (i+1):Int):=by
    show IntKind.i64.wrap (Int.tdiv _ _)=_
    have:Int.tdiv ((inn v tot i*(tot+i+1):Nat):Int) ((i+1:Nat):Int)=((inn v tot i*(tot+i+1) / (i+1):Nat):Int):=rfl
    rw [this]
    have h3:inn v tot i*(tot+i+1) / (i+1)=inn v tot (i+1):=rfl
    rw [h3,i64w _ (by omega) (by omega)]
   rw [e4];rfl)
  (fun _ _=>by
   unfold M35L0
   dsimp only
   exact cnF (by simp;omega) rfl) () trivial
 obtain ⟨_,_,h⟩:=key
 exact h
def schT (P:Pg):Nat->Nat×Nat
 | 0=>(1,0)
 | t+1=>(inn (schT P t).1 (schT P t).2 (thr P t).length,(schT P t).2+(thr P t).length)
theorem schT3 (P:Pg):(schT P 3).1=sch (thr P 0).length (thr P 1).length (thr P 2).length:=by
 simp [schT,sch]
theorem schT_none {P:Pg} : ∀ (k:Nat),(schT P (P.length+k)).1=(schT P P.length).1
 | 0=>rfl
 | k+1=>by
   have e:(thr P (P.length+k)).length=0:=by rw [thr_none (by omega)];rfl
   show inn (schT P (P.length+k)).1 _ (thr P (P.length+k)).length=_
   rw [e,inn,schT_none k]
theorem M35_eq {P:Pg} (hv:VP P):M35 Ar.std (eP P)=some ((sch (thr P 0).length (thr P 1).length (thr P 2).length:Int),0):=by
 have e:=M23_eq (VP.short hv)
 rw [VP.to hv] at e
 have l0:=hv.l7 0
 have l1:=hv.l7 1
 have l2:=hv.l7 2
 have hn3:=hv.n3
 have hT : ∀ t,t<3->(schT P t).2<=100 /\ ∀ i,i<=(thr P t).length->inn (schT P t).1 (schT P t).2 i<=1000000000:=by
  intro t ht
  rcases (show t=0\/t=1\/t=2 by omega) with rfl | rfl | rfl
  ·exact ⟨by simp [schT],fun i hi=>sch_le (a:=i) (b:=0) (c:=0) (by omega) (by omega) (by omega)⟩
  ·refine ⟨by simp [schT];omega,fun i hi => ?_⟩
   have:=sch_le (a:=(thr P 0).length) (b:=i) (c:=0) (by omega) (by omega) (by omega)
   simpa [sch,schT,inn] using this
  ·refine ⟨by simp [schT];omega,fun i hi => ?_⟩
   have:=sch_le (a:=(thr P 0).length) (b:=(thr P 1).length) (c:=i) (by omega) (by omega) (by omega)
   simpa [sch,schT] using this
 have key:=iter_rel (step:=M35L1 Ar.std (eP P)) P.length (fun (_:Unit) (t:Nat)=>(((schT P t).1:Int),((schT P t).2:Int),(t:Int))) (fun _ _=>True) (fun _=>((schT P P.length).1:Int))
  (fun t _ ht _=>by
   refine ⟨(),trivial,?_⟩
   unfold M35L1
   dsimp only
   obtain ⟨h1,h2⟩:=hT t (by omega)
   refine cnT (by simp;omega) (bt (gt_eP (thr_get ht)) (bt (M35L0_eq (m:=(thr P t).length) (by simp) (hv.l7 t) h1 h2) ?_))
   dsimp only
   have e1:Ar.std.wrp .i64 (Ar.std.zadd (t:Int) 1)=((t+1:Nat):Int):=by simp only [std_wrp,std_zadd];exact wrap1 (n:=10) (by omega) (by omega)
   rw [e1];rfl)
  (fun _ _=>by
   unfold M35L1
   dsimp only
   exact cnF (by simp) rfl) () trivial
 obtain ⟨_,_,h⟩:=key
 have h':iter (M35L1 Ar.std (eP P)) (1,0,0)=some ((schT P P.length).1:Int):=h
 unfold M35
 refine bt e (cnT rfl (bt h' ?_))
 have:=schT_none (P:=P) (3-P.length)
 rw [show P.length+(3-P.length)=3 by omega,schT3] at this
 rw [this]
end Go.Am

namespace Go.Am
open Go
def eF (f:Nat->Nat) (m:Nat):List D:=enc (cI .i64) ((List.range m).map fun i=>(f i:Int))
theorem eF_get (f:Nat->Nat) {m i:Nat} (h:i<m):(eF f m)[i]?=some (.int .i64 (f i:Int)):=by
 unfold eF enc
 rw [List.getElem?_map,List.getElem?_map,List.getElem?_range h];rfl
theorem lsetF (f:Nat->Nat) {m i:Nat} (h:i<m) (v:Nat) {z:Int} (hz:z=v):Ar.std.lset (eF f m) (Ar.std.nat (Ar.std.zadd 0 (i:Int))) (.int .i64 z)=eF (fup f i v) m:=by
 subst hz
 have e:Ar.std.nat (Ar.std.zadd 0 (i:Int))=i:=natI (by simp)
 rw [e]
 show (eF f m).set i _=_
 apply List.ext_getElem?
 intro j
 by_cases hj:j<m
 ·by_cases hij:i=j
  ·subst hij
   rw [List.getElem?_set_self (by simp [eF];exact h),eF_get _ h,up_same]
  ·rw [List.getElem?_set_ne hij,eF_get _ hj,eF_get _ hj,up_ne _ _ _ (fun h=>hij h.symm)]
 ·rw [List.getElem?_eq_none (by simp [eF];omega),List.getElem?_eq_none (by simp [eF];omega)]
theorem eF_zero (m:Nat):Ar.std.rep (m:Int) (.int .i64 0)=eF (fun _=>0) m:=by
 show List.replicate ((m:Int)).toNat _=_
 apply List.ext_getElem?
 intro j
 rw [Int.toNat_natCast]
 by_cases hj:j<m
 ·rw [eF_get _ hj,List.getElem?_replicate,if_pos hj];rfl
 ·rw [List.getElem?_eq_none (by simp;omega),List.getElem?_eq_none (by simp [eF];omega)]
def lens (P:Pg) (t:Nat):Nat:=(thr P t).length
end Go.Am

namespace Go.Am
open Go
def ren (m t:Nat):Nat:=if t<m then m-1-t else t
section
variable (a b:Int)
end
end Go.Am

namespace Go.Am
open Go
end Go.Am

namespace Go.Am
open Go
end Go.Am

namespace Go.Am
open Go
theorem fm_cong {α β:Type} {f g:α->Option β} : ∀ {l:List α},(∀ a∈l,f a=g a)->l.filterMap f=l.filterMap g
 | [],_=>rfl
 | a::l,h=>by
   rw [List.filterMap_cons,List.filterMap_cons,h a (List.mem_cons_self ..),fm_cong fun b hb=>h b (List.mem_cons_of_mem _ hb)]
theorem reads_take {l:List Ac} {m:Nat} (hm:m<=l.length) (r:Nat->Int):reads (l.take m) r=(List.range m).filterMap fun i=>if (aAt l i).1=1 then some (r i) else none:=by
 unfold reads
 rw [List.length_take,Nat.min_eq_left hm]
 refine fm_cong fun i hi => ?_
 have hi:=List.mem_range.1 hi
 have e:aAt (l.take m) i=aAt l i:=by
  unfold aAt
  rw [List.getD_eq_getElem?_getD,List.getD_eq_getElem?_getD,List.getElem?_take_of_lt hi]
 rw [e]
theorem reads_succ {l:List Ac} {m:Nat} (hm:m<l.length) (r:Nat->Int):reads (l.take (m+1)) r=reads (l.take m) r++if (aAt l m).1=1 then [r m] else []:=by
 rw [reads_take hm,reads_take (Nat.le_of_lt hm),List.range_succ,List.filterMap_append]
 congr 1
 by_cases h:(aAt l m).1=1 <;> simp [h]
theorem reads_cong {l:List Ac} {m:Nat} (hm:m<=l.length) {r r':Nat->Int} (h : ∀ i,i<m->r i=r' i):reads (l.take m) r=reads (l.take m) r':=by
 rw [reads_take hm,reads_take hm]
 refine fm_cong fun i hi => ?_
 rw [h i (List.mem_range.1 hi)]
theorem reads_le {l:List Ac} {m:Nat} (hm:m<=l.length) (r:Nat->Int):(reads (l.take m) r).length<=m:=by
 rw [reads_take hm]
 have:=List.length_filterMap_le (fun i=>if (aAt l i).1=1 then some (r i) else none) (List.range m)
 rwa [List.length_range] at this
structure PR (P:Pg) (s:Sta) (n:Nat->Nat) (rd:Nat->List Int):Prop where
 sp:SP P s n
 rd : ∀ t,rd t=reads ((thr P t).take (n t)) ((vw P s).rd t)
theorem PR.init (P:Pg):PR P s0 (fun _=>0) (fun _=>[]):=⟨SP.init P,fun t=>by rw [List.take_zero];rfl⟩
def rd' (P:Pg) (s:Sta) (n:Nat->Nat) (rd:Nat->List Int) (t:Nat):Nat->List Int :=
 if (aAt (thr P t) (n t)).1=1 then fup rd t (rd t++[s (11+(aAt (thr P t) (n t)).2.1.toNat)]) else rd
section
variable {P:Pg} (hv:VP P) {s:Sta} {n:Nat->Nat} {rd:Nat->List Int} (h:PR P s n rd)
include hv h
theorem PR.nb : ∀ t,(vw P s).bf t=[]:=by
 intro t
 show (if t<3 then bufS s t else [])=[]
 split
 ·rename_i ht
  unfold bufS
  rw [h.sp.k.nb (by decide) t ht];rfl
 ·rfl
theorem PR.len (t:Nat):(rd t).length<=7:=by
 rw [h.rd t]
 exact Nat.le_trans (reads_le (h.sp.l t) _) (Nat.le_trans (h.sp.l t) (hv.l7 t))
theorem PR.step {t:Nat} (ht:t<P.length) (hi:n t<(thr P t).length):PR P (doS P s t (n t)) (fup n t (n t+1)) (rd' P s n rd t):=by
 have ht3:=lt3 hv ht
 refine ⟨SP.step hv h.sp ht hi,fun u => ?_⟩
 have hb:=PR.nb hv h
 have e:vw P (doS P s t (n t))=doA 3 P (vw P s) t (n t):=by
  rw [vw_do (k:=1) hv h.sp.k.wf ht hi (.inl (by decide)) (.inl (hb t)),doA_k (by decide)]
 have hrd : ∀ u j,(vw P (doS P s t (n t))).rd u j=if (aAt (thr P t) (n t)).1=1/\(u,j)=(t,n t) then (vw P s).ce (aAt (thr P t) (n t)).2.1 else (vw P s).rd u j:=fun u j=>by
  rw [e];exact doA_rd hb (t,n t) (u,j)
 have old : ∀ u j,j<n u->(vw P (doS P s t (n t))).rd u j=(vw P s).rd u j:=fun u j hj=>by
  rw [hrd,if_neg]
  rintro ⟨_,hh⟩
  rw [Prod.mk.injEq] at hh
  obtain ⟨rfl,rfl⟩:=hh
  omega
 have hl:=h.sp.l u
 by_cases hut:u=t
 ·subst hut
  rw [up_same,reads_succ hi,reads_cong hl (old u),<-h.rd u]
  unfold rd'
  by_cases h1:(aAt (thr P u) (n u)).1=1
  ·rw [if_pos h1,if_pos h1,up_same,hrd,if_pos ⟨h1,rfl⟩]
   obtain ⟨c0,c1,_⟩:=var3 hv h.sp.k.wf ht hi (.inl h1)
   congr 2
   show _=(if 0<=(aAt (thr P u) (n u)).2.1/\(aAt (thr P u) (n u)).2.1<=2 then _ else _)
   rw [if_pos ⟨c0,c1⟩]
  ·rw [if_neg h1,if_neg h1,List.append_nil]
 ·rw [up_ne _ _ _ hut,reads_cong hl (old u),<-h.rd u]
  unfold rd'
  split
  ·rw [up_ne _ _ _ hut]
  ·rfl
end
def eRd (f:Nat->List Int) (m:Nat):List D:=enc (cL 1) ((List.range m).map fun i=>eInts (f i))
theorem eRd_get (f:Nat->List Int) {m i:Nat} (h:i<m):(eRd f m)[i]?=some (.list 1 (eInts (f i))):=by
 unfold eRd enc
 rw [List.getElem?_map,List.getElem?_map,List.getElem?_range h];rfl
theorem eRd_len (f:Nat->List Int) (m:Nat):(eRd f m).length=m:=by simp [eRd]
theorem gcR (f:Nat->List Int) {m i:Nat} (h:i<m):gc Ar.std (cL 1) (eRd f m) (Ar.std.nat (i:Int))=some (eInts (f i)):=by
 unfold gc
 have:Ar.std.lget (eRd f m) (Ar.std.nat (i:Int))=some (.list 1 (eInts (f i))):=eRd_get f h
 rw [this];rfl
theorem lsetR (f:Nat->List Int) {m i:Nat} (h:i<m) (v:List Int):Ar.std.lset (eRd f m) (Ar.std.nat (i:Int)) (.list 1 (eInts v))=eRd (fup f i v) m:=by
 show (eRd f m).set i _=_
 apply List.ext_getElem?
 intro j
 by_cases hj:j<m
 ·by_cases hij:i=j
  ·subst hij
   rw [List.getElem?_set_self (by rw [eRd_len];exact h),eRd_get _ h,up_same]
  ·rw [List.getElem?_set_ne hij,eRd_get _ hj,eRd_get _ hj,up_ne _ _ _ (fun h=>hij h.symm)]
 ·rw [List.getElem?_eq_none (by rw [List.length_set,eRd_len];omega),List.getElem?_eq_none (by rw [eRd_len];omega)]
theorem eRd_zero (m:Nat):Ar.std.rep (m:Int) (.list 1 [])=eRd (fun _=>[]) m:=by
 show List.replicate ((m:Int)).toNat _=_
 apply List.ext_getElem?
 intro j
 rw [Int.toNat_natCast]
 by_cases hj:j<m
 ·rw [eRd_get _ hj,List.getElem?_replicate,if_pos hj];rfl
 ·rw [List.getElem?_eq_none (by simp;omega),List.getElem?_eq_none (by rw [eRd_len];omega)]
theorem eF_len (f:Nat->Nat) (m:Nat):(eF f m).length=m:=by simp [eF]
theorem gcF' (f:Nat->Nat) {m i:Nat} (h:i<m):gc Ar.std (cI .i64) (eF f m) (Ar.std.nat (i:Int))=some (f i:Int):=by
 unfold gc
 have:Ar.std.lget (eF f m) (Ar.std.nat (i:Int))=some (.int .i64 (f i:Int)):=eF_get f h
 rw [this];rfl
theorem lsetF' (f:Nat->Nat) {m i:Nat} (h:i<m) (v:Nat) {z:Int} (hz:z=v):Ar.std.lset (eF f m) (Ar.std.nat (i:Int)) (.int .i64 z)=eF (fup f i v) m:=by
 have:=lsetF f h v hz
 rw [show Ar.std.nat (Ar.std.zadd 0 (i:Int))=i from natI (by simp)] at this
 exact this
def c3 (x y z c:Int):Int:=if c=0 then x else if c=1 then y else z
theorem gc3 (x y z:Int) {c:Int} (h0:0<=c) (h2:c<=2):gc Ar.std (cI .i64) [.int .i64 x,.int .i64 y,.int .i64 z] (Ar.std.nat c)=some (c3 x y z c):=by
 rcases (show c=0\/c=1\/c=2 by omega) with rfl | rfl | rfl <;> rfl
theorem s3 (s:Sta) {c:Int} (h0:0<=c) (h2:c<=2):c3 (s 11) (s 12) (s 13) c=s (11+c.toNat):=by
 rcases (show c=0\/c=1\/c=2 by omega) with rfl | rfl | rfl <;> rfl
section
variable {P:Pg} (hv:VP P) {s:Sta} {n:Nat->Nat} {rd:Nat->List Int} (h:PR P s n rd)
include hv h
theorem M74_yes {t:Nat} (ht:t<P.length) (hi:n t<(thr P t).length) :
  M74 Ar.std (t:Int) (eP P) (s 11) (s 12) (s 13) (eF n P.length) (eRd rd P.length) =
   some (true,doS P s t (n t) 11,doS P s t (n t) 12,doS P s t (n t) 13,eF (fup n t (n t+1)) P.length,eRd (rd' P s n rd t) P.length):=by
 have hact:=hv.act t _ hi
 have hget:=aAt_get hi
 have hl7:=hv.l7 t
 have hrl:=PR.len hv h t
 have hnum:(aAt (thr P t) (n t)).1=1->num P t (n t)<8:=num8 hv h.sp.k.wf ht hi
 have e1:Ar.std.wrp .i64 (Ar.std.zadd ((n t:Nat):Int) 1)=((n t+1:Nat):Int):=by simp only [std_wrp,std_zadd];exact wrap1 (n:=10) (by omega) (by omega)
 have z1:Ar.std.zle 0 (t:Int)=true:=by simp
 have z2:Ar.std.zlt (t:Int) (Ar.std.len (eF n P.length))=true:=by rw [show Ar.std.len (eF n P.length)=((eF n P.length).length:Int) from rfl,eF_len];simp;omega
 have z3:Ar.std.zlt (t:Int) (Ar.std.len (eRd rd P.length))=true:=by rw [show Ar.std.len (eRd rd P.length)=((eRd rd P.length).length:Int) from rfl,eRd_len];simp;omega
 unfold M74
 refine bck z1 (bck z2 (bt (gcF' n ht) (bt (gt_eP (thr_get ht)) ?_)))
 refine cnF (by simp;omega) ?_
 refine bck z1 (bck z2 (bt (gt_enc hget) ?_))
 rw [e1,lsetF' n ht _ rfl]
 unfold rd' doS
 generalize aAt (thr P t) (n t)=a at hact hnum
 obtain ⟨d,c,v⟩:=a
 dsimp only
 refine bck z1 (bck z2 (bck z1 (bck z2 ?_)))
 have lo : ∀ u i j,u<3->11<=j->j<14->dS s u i j=s j:=fun u i j h1 h2 h3=>by unfold dS;rw [up_ne _ _ _ (by omega)]
 have ht3:=lt3 hv ht
 rcases act_cases hact with ⟨h1,c0,c2,h0⟩ | ⟨h1,c0,c2,v0,v3⟩ | hf
 ·simp only at h1 c0 c2
  subst h1
  have hn8 : ∀ j,11<=j->j<14->3+num P t (n t)≠j:=fun j h2 h3=>by have:=hnum rfl;omega
  ·refine bt (v:=eRd (fup rd t (rd t++[s (11+c.toNat)])) P.length) (cnT rfl ?_) (bt (v:=(s 11,s 12,s 13)) (cnF rfl rfl) ?_)
   ·have ea:ap Ar.std [] (eInts (rd t))=some (eInts (rd t)):=by rw [ap_std (by simp;omega)];rfl
    have eb:ap Ar.std (eInts (rd t)) [D.int .i64 (s (11+c.toNat))]=some (eInts (rd t++[s (11+c.toNat)])):=by
     rw [ap_std (by simp;omega)];simp [enc];rfl
    refine bck z1 (bck z3 (bt (gcR rd ht) (bt ea (bck (by simpa using c0) (bck (by simp;omega) (bt (gc3 _ _ _ c0 c2) ?_))))))
    rw [s3 s c0 c2]
    refine bt eb (bck z1 (bck z3 ?_))
    rw [lsetR rd ht]
   ·rw [if_pos rfl,if_pos rfl]
    rw [up_ne _ _ _ (fun e=>hn8 11 (by omega) (by omega) e.symm),up_ne _ _ _ (fun e=>hn8 12 (by omega) (by omega) e.symm),up_ne _ _ _ (fun e=>hn8 13 (by omega) (by omega) e.symm),lo t _ 11 ht3 (by omega) (by omega),lo t _ 12 ht3 (by omega) (by omega),lo t _ 13 ht3 (by omega) (by omega)]
 ·simp only at h1 c0 c2 v0 v3
  subst h1
  have k1 : ¬ ((2:Int)=1):=by decide
  have hF : ∀ j,11<=j->j<14->fup (dS s t (n t)) (11+c.toNat) v j=if j=11+c.toNat then v else s j:=fun j h2 h3=>by
   by_cases hj:j=11+c.toNat
   ·rw [if_pos hj,hj];exact up_same _ _ _
   ·rw [if_neg hj,up_ne _ _ _ hj,lo t _ j ht3 h2 h3]
  refine bt (v:=eRd rd P.length) (cnF rfl rfl) (bt (v:=(fup (dS s t (n t)) (11+c.toNat) v 11,fup (dS s t (n t)) (11+c.toNat) v 12,fup (dS s t (n t)) (11+c.toNat) v 13)) (cnT rfl (bck (by simpa using c0) (bck (by simp;omega) ?_))) ?_)
  ·rw [hF 11 (by omega) (by omega),hF 12 (by omega) (by omega),hF 13 (by omega) (by omega)]
   simp only [std_zeq]
   rcases (show c=0\/c=1\/c=2 by omega) with rfl | rfl | rfl <;> rfl
  ·rw [if_neg k1,if_neg k1,if_pos (rfl:(2:Int)=2)]
 ·rw [Prod.mk.injEq,Prod.mk.injEq] at hf
  obtain ⟨rfl,rfl,rfl⟩:=hf
  refine bt (v:=eRd rd P.length) (cnF rfl rfl) (bt (v:=(s 11,s 12,s 13)) (cnF rfl rfl) ?_)
  have k1 : ¬ ((3:Int)=1):=by decide
  have k2 : ¬ ((3:Int)=2):=by decide
  rw [if_neg k1,if_neg k1,if_neg k2,lo t _ 11 ht3 (by omega) (by omega),lo t _ 12 ht3 (by omega) (by omega),lo t _ 13 ht3 (by omega) (by omega)]
end
theorem M74_no {P:Pg} {n:Nat->Nat} {rd:Nat->List Int} {t:Nat} (ht:t<P.length) (hi : ¬ n t<(thr P t).length) (x y z:Int) :
  M74 Ar.std (t:Int) (eP P) x y z (eF n P.length) (eRd rd P.length)=some (false,x,y,z,eF n P.length,eRd rd P.length):=by
 have z1:Ar.std.zle 0 (t:Int)=true:=by simp
 have z2:Ar.std.zlt (t:Int) (Ar.std.len (eF n P.length))=true:=by rw [show Ar.std.len (eF n P.length)=((eF n P.length).length:Int) from rfl,eF_len];simp;omega
 unfold M74
 exact bck z1 (bck z2 (bt (gcF' n ht) (bt (gt_eP (thr_get ht)) (cnT (by simp;omega) rfl))))
end Go.Am

namespace Go.Am
open Go
theorem lenP1 {P:Pg} (hv:VP P):Ar.std.wrp .i64 (Ar.std.zsub (Ar.std.len (eP P)) 1)=((P.length-1:Nat):Int):=by
 have hn3:=hv.n3
 have hn1:=hv.n1
 have el:Ar.std.len (eP P)=(P.length:Int):=by simp
 simp only [el,std_wrp,std_zsub]
 rw [i64w _ (by omega) (by omega)];omega
theorem runs {P:Pg} (hv:VP P) {S:List Int} (hS:S.length<=1000) : ∀ (k i:Nat) {s:Sta} {n:Nat->Nat} {rd:Nat->List Int},i+k=S.length->PR P s n rd ->
  (∃ W s' n' rd2,S.drop i=iW W/\run P s W=some s'/\PR P s' n' rd2/\iter (M33L0 Ar.std (eP P) (eInts S)) ((i:Int),eS s)=some (.inl (eS s')) /\
   iter (M34L1 Ar.std (eP P) (eInts S) (eP P)) ((i:Int),s 11,s 12,s 13,eF n P.length,eRd rd P.length)=some (.inl (s' 11,s' 12,s' 13,eF n' P.length,eRd rd2 P.length))) \/
  ((∃ l,iter (M33L0 Ar.std (eP P) (eInts S)) ((i:Int),eS s)=some (.inr l))/\iter (M34L1 Ar.std (eP P) (eInts S) (eP P)) ((i:Int),s 11,s 12,s 13,eF n P.length,eRd rd P.length)=some (.inr ())):=by
 have hn3:=hv.n3
 have hn1:=hv.n1
 intro k
 induction k with
 | zero =>
   intro i s n rd hi h
   refine .inl ⟨[],s,n,rd,by rw [List.drop_eq_nil_of_le (by omega)];rfl,rfl,h,iter_inr ?_,iter_inr ?_⟩
   ·unfold M33L0
    exact cnF (by simp;omega) rfl
   ·unfold M34L1
    exact cnF (by simp;omega) rfl
 | succ k ih =>
   intro i s n rd hi h
   have hil:i<S.length:=by omega
   rw [List.drop_eq_getElem_cons hil]
   have hget:=zp1 hil
   generalize S[i]=z at hget
   by_cases hz:0<=z/\z<P.length
   ·obtain ⟨t,rfl⟩:=zp9 hz.1
    have ht:t<P.length:=by omega
    have ht3:=lt3 hv ht
    have e:=SP.nxe hv h.sp ht3
    have eb:btw 0 (t:Int) ((P.length-1:Nat):Int)=true:=by
     unfold btw;simp;omega
    by_cases hc:n t<(thr P t).length
    ·have hs:=PR.step hv h ht hc
     have ew:Ar.std.wrp .i64 (Ar.std.zadd (i:Int) 1)=((i+1:Nat):Int):=by simp only [std_wrp,std_zadd];exact wrap1 (n:=10000) (by omega) (by omega)
     have hst:M33L0 Ar.std (eP P) (eInts S) ((i:Int),eS s)=some (.inl (((i+1:Nat):Int),eS (doS P s t (n t)))):=by
      unfold M33L0
      dsimp only
      refine cnT (by simp;omega) (bt (gt_enc hget) (bt (v:=false) ?_ (cnF rfl ?_)))
      ·rw [lenP1 hv]
       refine bt (M65_eq _ _ _) ?_
       rw [eb]
       refine cnT rfl (bt (gaS s (by simp)) (bt (M75_eq hv h.sp.k.wf ht3) (bt (gt_eP (thr_get ht)) ?_)))
       rw [e]
       simp;omega
      ·rw [ew]
       refine bt (gaS s (by simp)) (bt (M75_eq hv h.sp.k.wf ht3) ?_)
       rw [e]
       refine bt (M76_eq hv h.sp.k.wf ht hc) (bck (by rw [lenS];rfl) (bck (by rw [lenS];rfl) ?_))
       rw [splS0 _ _ (eS_len s) (by simp)]
     have hst2:M34L1 Ar.std (eP P) (eInts S) (eP P) ((i:Int),s 11,s 12,s 13,eF n P.length,eRd rd P.length)=some (.inl (((i+1:Nat):Int),doS P s t (n t) 11,doS P s t (n t) 12,doS P s t (n t) 13,eF (fup n t (n t+1)) P.length,eRd (rd' P s n rd t) P.length)):=by
      unfold M34L1
      dsimp only
      refine cnT (by simp;omega) (bt (v:=(false,doS P s t (n t) 11,doS P s t (n t) 12,doS P s t (n t) 13,eF (fup n t (n t+1)) P.length,eRd (rd' P s n rd t) P.length)) (bt (gt_enc hget) ?_) (cnF rfl ?_))
      ·rw [lenP1 hv]
       refine bt (M66_eq _ _ _) ?_
       rw [eb]
       exact cnT rfl (bt (M74_yes hv h ht hc) rfl)
      ·rw [ew]
     rw [iter_inl hst,iter_inl hst2]
     rcases ih (i+1) (by omega) hs with ⟨W,s',n',rd2,h1,h2,h3,h4,h5⟩ | ⟨⟨l,h1⟩,h2⟩
     ·refine .inl ⟨t::W,s',n',rd2,by rw [h1];rfl,?_,h3,h4,h5⟩
      rw [run,if_pos ⟨ht,by rw [e];exact hc⟩,e];exact h2
     ·exact .inr ⟨⟨l,h1⟩,h2⟩
    ·refine .inr ⟨⟨eS s,iter_inr ?_⟩,iter_inr ?_⟩
     ·unfold M33L0
      dsimp only
      refine cnT (by simp;omega) (bt (gt_enc hget) (bt (v:=true) ?_ (cnT rfl rfl)))
      rw [lenP1 hv]
      refine bt (M65_eq _ _ _) ?_
      rw [eb]
      refine cnT rfl (bt (gaS s (by simp)) (bt (M75_eq hv h.sp.k.wf ht3) (bt (gt_eP (thr_get ht)) ?_)))
      rw [e]
      have:=h.sp.l t
      simp;omega
     ·unfold M34L1
      dsimp only
      refine cnT (by simp;omega) (bt (v:=(true,s 11,s 12,s 13,eF n P.length,eRd rd P.length)) (bt (gt_enc hget) ?_) (cnT rfl rfl))
      rw [lenP1 hv]
      refine bt (M66_eq _ _ _) ?_
      rw [eb]
      exact cnT rfl (bt (M74_no ht hc _ _ _) rfl)
   ·have eb:btw 0 z ((P.length-1:Nat):Int)=false:=by
     unfold btw
     rw [Bool.and_eq_false_iff,decide_eq_false_iff_not,decide_eq_false_iff_not]
     omega
    refine .inr ⟨⟨eS s,iter_inr ?_⟩,iter_inr ?_⟩
    ·unfold M33L0
     dsimp only
     refine cnT (by simp;omega) (bt (gt_enc hget) (bt (v:=true) ?_ (cnT rfl rfl)))
     rw [lenP1 hv]
     refine bt (M65_eq _ _ _) ?_
     rw [eb];rfl
    ·unfold M34L1
     dsimp only
     refine cnT (by simp;omega) (bt (v:=(true,s 11,s 12,s 13,eF n P.length,eRd rd P.length)) (bt (gt_enc hget) ?_) (cnT rfl rfl))
     rw [lenP1 hv]
     refine bt (M66_eq _ _ _) ?_
     rw [eb];rfl
theorem M79_eq {P:Pg} (hv:VP P) {s:Sta} {n:Nat->Nat} {rd:Nat->List Int} (h:PR P s n rd) :
  M79 Ar.std (eP P) (s 11) (s 12) (s 13) (eF n P.length) (eRd rd P.length)=some (eInts ((List.range P.length).flatMap rd++[s 11,s 12,s 13])):=by
 have hn3:=hv.n3
 have hlen : ∀ t,((List.range t).flatMap rd).length<=7*t:=by
  intro t
  induction t with
  | zero=>simp
  | succ t ih =>
    have:=PR.len hv h t
    rw [List.range_succ,List.flatMap_append]
    simp only [List.length_append,List.flatMap_cons,List.flatMap_nil,List.append_nil]
    omega
 have k0:=iter_rel (step:=M79L0 Ar.std (eP P) (eRd rd P.length)) P.length (fun (_:Unit) (t:Nat)=>(eInts ((List.range t).flatMap rd),(t:Int))) (fun _ _=>True) (fun _=>eInts ((List.range P.length).flatMap rd))
  (fun t _ ht _=>by
   refine ⟨(),trivial,?_⟩
   unfold M79L0
   dsimp only
   have h1:=hlen t
   have h2:=PR.len hv h t
   have ea:ap Ar.std (eInts ((List.range t).flatMap rd)) (eInts (rd t))=some (eInts ((List.range (t+1)).flatMap rd)):=by
    rw [ap_std (by rw [enc_length,enc_length];omega),List.range_succ,List.flatMap_append]
    simp [enc]
   have e1:Ar.std.wrp .i64 (Ar.std.zadd (t:Int) 1)=((t+1:Nat):Int):=by simp only [std_wrp,std_zadd];exact wrap1 (n:=10) (by omega) (by omega)
   refine cnT (by simp;omega) (bck (by simp) (bck (by rw [show Ar.std.len (eRd rd P.length)=((eRd rd P.length).length:Int) from rfl,eRd_len];simp;omega) (bt (gcR rd ht) (bt ea ?_))))
   rw [e1])
  (fun _ _=>by
   unfold M79L0
   exact cnF (by simp) rfl) () trivial
 obtain ⟨_,_,k0⟩:=k0
 have k0':iter (M79L0 Ar.std (eP P) (eRd rd P.length)) ([],0)=some (eInts ((List.range P.length).flatMap rd)):=k0
 have hall:=hlen P.length
 generalize (List.range P.length).flatMap rd=R at k0' hall
 have st : ∀ (c:Nat) (l:List Int) (v:Int),c<3->l.length<=100->c3 (s 11) (s 12) (s 13) c=v->M79L1 Ar.std (s 11) (s 12) (s 13) (eInts l,(c:Int))=some (.inl (eInts (l++[v]),((c+1:Nat):Int))):=by
  intro c l v hc hl hcv
  unfold M79L1
  dsimp only
  have e1:Ar.std.wrp .i64 (Ar.std.zadd (c:Int) 1)=((c+1:Nat):Int):=by simp only [std_wrp,std_zadd];exact wrap1 (n:=10) (by omega) (by omega)
  have ea:ap Ar.std (eInts l) [D.int .i64 v]=some (eInts (l++[v])):=by
   rw [ap_std (by simp;omega)];simp [enc];rfl
  refine cnT (by simp;omega) (bck (by simp) (bck (by simp;omega) (bt (gc3 _ _ _ (by omega) (by omega)) ?_)))
  rw [hcv]
  refine bt ea ?_
  rw [e1]
 have k1:iter (M79L1 Ar.std (s 11) (s 12) (s 13)) (eInts R,0)=some (eInts (R++[s 11,s 12,s 13])):=by
  have a0:=st 0 R (s 11) (by omega) (by omega) rfl
  have a1:=st 1 (R++[s 11]) (s 12) (by omega) (by simp;omega) rfl
  have a2:=st 2 (R++[s 11]++[s 12]) (s 13) (by omega) (by simp;omega) rfl
  refine (iter_inl a0).trans ((iter_inl a1).trans ((iter_inl a2).trans (iter_inr ?_)))
  unfold M79L1
  refine cnF (by simp) ?_
  simp
 unfold M79
 exact bt k0' (bt k1 rfl)
theorem PR.out {P:Pg} (hv:VP P) {s:Sta} {n:Nat->Nat} {rd:Nat->List Int} (h:PR P s n rd) (ho:overS P s=true):(List.range P.length).flatMap rd++[s 11,s 12,s 13]=outE P s:=by
 rw [<-outE_eq]
 unfold outc
 have h1:=(SP.over hv h.sp).1 ho
 congr 1
 refine flatMap_cong fun t ht => ?_
 have ht:=List.mem_range.1 ht
 rw [h.rd t,h1 t ht,List.take_length]
theorem M34L0_eq {P:Pg} (hv:VP P):iter (M34L0 Ar.std (eP P)) (0,0)=some (und P (fun _=>0):Int):=by
 have hn3:=hv.n3
 have hn1:=hv.n1
 have hsum : ∀ t,((List.range t).map (lens P)).sum<=7*t:=by
  intro t
  induction t with
  | zero=>simp
  | succ t ih =>
    have:=hv.l7 t
    rw [List.range_succ,List.map_append,List.sum_append]
    simp only [List.map_cons,List.map_nil,List.sum_cons,List.sum_nil,lens] at ih ⊢
    omega
 have key:=iter_rel (step:=M34L0 Ar.std (eP P)) P.length (fun (_:Unit) (t:Nat)=>((((List.range t).map (lens P)).sum:Int),(t:Int))) (fun _ _=>True)
  (fun _=>(((List.range P.length).map (lens P)).sum:Int))
  (fun t _ ht _=>by
   refine ⟨(),trivial,?_⟩
   unfold M34L0
   dsimp only
   have hs:=hsum t
   have hl:lens P t<=7:=hv.l7 t
   have el:Ar.std.len (eT (thr P t))=((lens P t:Nat):Int):=by simp [lens]
   have e1:Ar.std.wrp .i64 (Ar.std.zadd (t:Int) 1)=((t+1:Nat):Int):=by simp only [std_wrp,std_zadd];exact wrap1 (n:=10) (by omega) (by omega)
   have e2:Ar.std.wrp .i64 (Ar.std.zadd ((((List.range t).map (lens P)).sum:Nat):Int) ((lens P t:Nat):Int))=((((List.range (t+1)).map (lens P)).sum:Nat):Int):=by
    simp only [std_wrp,std_zadd]
    rw [i64w _ (by omega) (by omega),List.range_succ,List.map_append,List.sum_append]
    simp
   refine cnT (by simp;omega) (bt (gt_eP (thr_get ht)) ?_)
   rw [el,e1,e2])
  (fun _ _=>by
   unfold M34L0
   exact cnF (by simp) rfl) () trivial
 obtain ⟨_,_,h⟩:=key
 refine (show iter (M34L0 Ar.std (eP P)) (0,0)=_ from h).trans ?_
 have hz : ∀ t,P.length<=t->(thr P t).length=0:=fun t ht=>by rw [thr_none ht];rfl
 unfold und
 simp only [Nat.sub_zero]
 have r1:((List.range 1).map (lens P)).sum=(thr P 0).length:=by simp [List.range_succ,lens]
 have r2:((List.range 2).map (lens P)).sum=(thr P 0).length+(thr P 1).length:=by simp [List.range_succ,lens]
 have r3:((List.range 3).map (lens P)).sum=(thr P 0).length+(thr P 1).length+(thr P 2).length:=by simp [List.range_succ,lens];omega
 congr 2
 rcases (show P.length=1\/P.length=2\/P.length=3 by omega) with hl | hl | hl
 ·have:=hz 1 (by omega);have:=hz 2 (by omega)
  rw [hl,r1];omega
 ·have:=hz 2 (by omega)
  rw [hl,r2];omega
 ·rw [hl,r3]
theorem M71_eq {P:Pg} (hv:VP P):M71 Ar.std (eP P)=some (eP P,eF (fun _=>0) P.length,eRd (fun _=>[]) P.length):=by
 have hn3:=hv.n3
 have el:Ar.std.len (eP P)=(P.length:Int):=by simp
 have efit:Ar.std.fits (Ar.std.len (eP P))=true:=by
  rw [el,std_fits,decide_eq_true_eq];omega
 have ezle:Ar.std.zle 0 (Ar.std.len (eP P))=true:=by
  rw [el,std_zle,decide_eq_true_eq];omega
 have ezeq:Ar.std.zeq (Ar.std.len (eP P)) (Ar.std.len (eP P))=true:=by rw [std_zeq,decide_eq_true_eq]
 unfold M71
 refine bck ezeq (bck ezle (bck efit (bck ezeq (bck ezle (bck efit ?_)))))
 rw [el,eF_zero,eRd_zero]
theorem run_same {P:Pg} (hP:ShortP P) {S:List Int} (hS:S.length<=100) : ∃ o e,M33 Ar.std (eP P) (eInts S)=some (eInts o,e)/\M34 Ar.std (eP P) (eInts S)=some (eInts o,e)/\SmL o:=by
 have smn:SmL []:=⟨by simp,fun y hy=>by cases hy⟩
 cases hp:vPrg P with
 | false =>
   have e1:=M23_eq hP
   have e2:=M24_eq hP
   rw [hp] at e1 e2
   exact ⟨[],40,by unfold M33;exact bt e1 rfl,by unfold M34;exact bt e2 rfl,smn⟩
 | true =>
   have e1:=M23_eq hP
   have e2:=M24_eq hP
   rw [hp] at e1 e2
   have hv:=VP.of hp
   have hT:und P (fun _=>0)<=21:=by
    have:=hv.l7 0;have:=hv.l7 1;have:=hv.l7 2
    unfold und;omega
   have e0:eS s0=eS s0:=rfl
   rcases runs hv (S:=S) (by omega) S.length 0 (by omega) (PR.init P) with ⟨W,s',n',rd2,h1,h2,h3,h4,h5⟩ | ⟨⟨l,h4⟩,h5⟩
   ·obtain ⟨n'',g1,g2⟩:=run_len hv (SP.init P) h2
    have hwl:W.length=S.length:=by
     have:=congrArg List.length h1
     simpa using this.symm
    have hov:=und_over hv g1
    by_cases hlen:S.length=und P (fun _=>0)
    ·have ho:overS P s'=true:=hov.2 (by omega)
     have e77:=M77_eq hv h3.sp.k.wf
     rw [ho] at e77
     have hout:=PR.out hv h3 ho
     have hvals:=outE_vals (P:=P) (s:=s') hv h3.sp.k.wf
     have h8:=sumLd8 hv h3.sp.k.wf
     refine ⟨outE P s',0,?_,?_,⟨by unfold outE;simp;omega,fun y hy=>by have:=hvals y hy;omega⟩⟩
     ·unfold M33
      refine bt e1 (cnT rfl (bt h4 ?_))
      rw [Sum.elim_inl]
      exact bt (gaS s' (by simp)) (bt e77 (cnT rfl (bt (M78_eq hv h3.sp.k.wf) rfl)))
     ·unfold M34
      refine bt e2 (cnT rfl (bt (M71_eq hv) (bt (M34L0_eq hv) (cnT (by simp;omega) (bt h5 ?_)))))
      rw [Sum.elim_inl]
      refine bt (M79_eq hv h3) ?_
      rw [hout]
    ·have ho:overS P s'=false:=by
      rw [Bool.eq_false_iff]
      intro hh
      have:=hov.1 hh
      omega
     have e77:=M77_eq hv h3.sp.k.wf
     rw [ho] at e77
     refine ⟨[],2,?_,?_,smn⟩
     ·unfold M33
      refine bt e1 (cnT rfl (bt h4 ?_))
      rw [Sum.elim_inl]
      exact bt (gaS s' (by simp)) (bt e77 (cnF rfl rfl))
     ·unfold M34
      exact bt e2 (cnT rfl (bt (M71_eq hv) (bt (M34L0_eq hv) (cnF (by simp;omega) rfl))))
   ·refine ⟨[],2,?_,?_,smn⟩
    ·unfold M33
     exact bt e1 (cnT rfl (bt h4 rfl))
    ·unfold M34
     refine bt e2 (cnT rfl (bt (M71_eq hv) (bt (M34L0_eq hv) ?_)))
     by_cases hlen:S.length=und P (fun _=>0)
     ·exact cnT (by simp;omega) (bt h5 rfl)
     ·exact cnF (by simp;omega) rfl
theorem M36L0_eq {P:Pg} {t:Nat} (ht:t<P.length) {v tot:Nat} (hm:(thr P t).length<=7) (htt:tot<=100) (hb : ∀ i,i<=(thr P t).length->inn v tot i<=1000000000) :
  iter (M36L0 Ar.std (eP P) (t:Int)) ((v:Int),(tot:Int),1)=some ((inn v tot (thr P t).length:Int),((tot+(thr P t).length:Nat):Int)):=by
 have key:=iter_rel (step:=M36L0 Ar.std (eP P) (t:Int)) (thr P t).length (fun (_:Unit) (i:Nat)=>((inn v tot i:Int),((tot+i:Nat):Int),((i+1:Nat):Int))) (fun _ _=>True) (fun _=>((inn v tot (thr P t).length:Int),((tot+(thr P t).length:Nat):Int)))
  (fun i _ hi _=>by
   refine ⟨(),trivial,?_⟩
   unfold M36L0
   dsimp only
   have h1:=hb i (by omega)
   have h2:=hb (i+1) (by omega)
   have e1:Ar.std.wrp .i64 (Ar.std.zadd ((i+1:Nat):Int) 1)=((i+1+1:Nat):Int):=by simp only [std_wrp,std_zadd];exact wrap1 (n:=20) (by omega) (by omega)
   have e2:Ar.std.wrp .i64 (Ar.std.zadd ((tot+i:Nat):Int) 1)=((tot+i+1:Nat):Int):=by simp only [std_wrp,std_zadd];exact wrap1 (n:=1000) (by omega) (by omega)
   have hprod:inn v tot i*(tot+i+1)<=1000000000*108:=Nat.mul_le_mul h1 (by omega)
   have e3:Ar.std.wrp .i64 (Ar.std.zmul (inn v tot i:Int) ((tot+i+1:Nat):Int))=((inn v tot i*(tot+i+1):Nat):Int):=by
    simp only [std_wrp,std_zmul]
    rw [<-Int.natCast_mul,i64w _ (by omega) (by omega)]
   rw [e1,e2,e3]
   refine bt (gt_eP (thr_get ht)) (cnT (by simp;omega) (bnk (by simp;omega) ?_))
   have e4:Ar.std.quo .i64 ((inn v tot i*(tot+i+1):Nat):Int) ((i+1:Nat):Int)=(inn v tot (i+1):Int):=by
    show IntKind.i64.wrap (Int.tdiv _ _)=_
    have:Int.tdiv ((inn v tot i*(tot+i+1):Nat):Int) ((i+1:Nat):Int)=((inn v tot i*(tot+i+1) / (i+1):Nat):Int):=rfl
    rw [this]
    have h3:inn v tot i*(tot+i+1) / (i+1)=inn v tot (i+1):=rfl
    rw [h3,i64w _ (by omega) (by omega)]
   rw [e4];rfl)
  (fun _ _=>by
   unfold M36L0
   dsimp only
   exact bt (gt_eP (thr_get ht)) (cnF (by simp;omega) rfl)) () trivial
 obtain ⟨_,_,h⟩:=key
 exact h
theorem M36_eq {P:Pg} (hv:VP P):M36 Ar.std (eP P)=some ((sch (thr P 0).length (thr P 1).length (thr P 2).length:Int),0):=by
 have e:=M24_eq (VP.short hv)
 rw [VP.to hv] at e
 have l0:=hv.l7 0
 have l1:=hv.l7 1
 have l2:=hv.l7 2
 have hn3:=hv.n3
 have hT : ∀ t,t<3->(schT P t).2<=100 /\ ∀ i,i<=(thr P t).length->inn (schT P t).1 (schT P t).2 i<=1000000000:=by
  intro t ht
  rcases (show t=0\/t=1\/t=2 by omega) with rfl | rfl | rfl
  ·exact ⟨by simp [schT],fun i hi=>sch_le (a:=i) (b:=0) (c:=0) (by omega) (by omega) (by omega)⟩
  ·refine ⟨by simp [schT];omega,fun i hi => ?_⟩
   have:=sch_le (a:=(thr P 0).length) (b:=i) (c:=0) (by omega) (by omega) (by omega)
   simpa [sch,schT,inn] using this
  ·refine ⟨by simp [schT];omega,fun i hi => ?_⟩
   have:=sch_le (a:=(thr P 0).length) (b:=(thr P 1).length) (c:=i) (by omega) (by omega) (by omega)
   simpa [sch,schT] using this
 have key:=iter_rel (step:=M36L1 Ar.std (eP P)) P.length (fun (_:Unit) (t:Nat)=>(((schT P t).1:Int),((schT P t).2:Int),(t:Int))) (fun _ _=>True) (fun _=>((schT P P.length).1:Int))
  (fun t _ ht _=>by
   refine ⟨(),trivial,?_⟩
   unfold M36L1
   dsimp only
   obtain ⟨h1,h2⟩:=hT t (by omega)
   refine cnT (by simp;omega) (bt (M36L0_eq ht (hv.l7 t) h1 h2) ?_)
   dsimp only
   have e1:Ar.std.wrp .i64 (Ar.std.zadd (t:Int) 1)=((t+1:Nat):Int):=by simp only [std_wrp,std_zadd];exact wrap1 (n:=10) (by omega) (by omega)
   rw [e1];rfl)
  (fun _ _=>by
   unfold M36L1
   dsimp only
   exact cnF (by simp) rfl) () trivial
 obtain ⟨_,_,h⟩:=key
 have h':iter (M36L1 Ar.std (eP P)) (1,0,0)=some ((schT P P.length).1:Int):=h
 unfold M36
 refine bt e (cnT rfl (bt h' ?_))
 have:=schT_none (P:=P) (3-P.length)
 rw [show P.length+(3-P.length)=3 by omega,schT3] at this
 rw [this]
def ldSum (P:Pg) (t:Nat):Nat:=((List.range t).map fun u=>nLd (thr P u)).sum
theorem ldSum_succ (P:Pg) (t:Nat):ldSum P (t+1)=ldSum P t+nLd (thr P t):=by
 unfold ldSum;rw [List.range_succ,List.map_append,List.sum_append];simp
theorem ldSum_le {P:Pg} (hv:VP P) : ∀ t,ldSum P t<=7*t
 | 0=>by simp [ldSum]
 | t+1=>by
   have:=ldSum_le hv t
   have h2:nLd (thr P t)<=7:=Nat.le_trans (List.countP_le_length) (hv.l7 t)
   rw [ldSum_succ];omega
theorem M37_eq {P:Pg} (hv:VP P):M37 Ar.std (eP P)=some ((ldSum P P.length:Int),0):=by
 have e:=M23_eq (VP.short hv)
 rw [VP.to hv] at e
 have hn3:=hv.n3
 have key:=iter_rel (step:=M37L0 Ar.std (eP P)) P.length (fun (_:Unit) (t:Nat)=>((ldSum P t:Int),(t:Int))) (fun _ _=>True) (fun _=>(ldSum P P.length:Int))
  (fun t _ ht _=>by
   refine ⟨(),trivial,?_⟩
   unfold M37L0
   dsimp only
   have hs:=ldSum_le hv (t+1)
   have e1:Ar.std.wrp .i64 (Ar.std.zadd (t:Int) 1)=((t+1:Nat):Int):=by simp only [std_wrp,std_zadd];exact wrap1 (n:=10) (by omega) (by omega)
   have e2:Ar.std.wrp .i64 (Ar.std.zadd (ldSum P t:Int) (nLd (thr P t):Int))=(ldSum P (t+1):Int):=by
    rw [ldSum_succ] at hs ⊢
    simp only [std_wrp,std_zadd]
    rw [i64w _ (by omega) (by omega)];omega
   have hl:=hv.l7 t
   refine cnT (by simp;omega) (bt (gt_eP (thr_get ht)) (bt (M63a_eq (by omega)) ?_))
   rw [e1,e2])
  (fun _ _=>by
   unfold M37L0
   exact cnF (by simp) rfl) () trivial
 obtain ⟨_,_,h⟩:=key
 have h':iter (M37L0 Ar.std (eP P)) (0,0)=some (ldSum P P.length:Int):=h
 unfold M37
 exact bt e (cnT rfl (bt h' rfl))
theorem M81L0_eq {P:Pg} (hv:VP P) {t:Nat} (ht:t<P.length) {v:Nat} (hvv:v<=100):iter (M81L0 Ar.std (eP P) (t:Int)) ((v:Int),0)=some ((v+nLd (thr P t):Nat):Int):=by
 have hl7:=hv.l7 t
 have hb : ∀ i,nLd ((thr P t).take i)<=7:=fun i=>Nat.le_trans (List.countP_le_length) (by rw [List.length_take];omega)
 have key:=iter_rel (step:=M81L0 Ar.std (eP P) (t:Int)) (thr P t).length (fun (_:Unit) (i:Nat)=>(((v+nLd ((thr P t).take i):Nat):Int),(i:Int))) (fun _ _=>True) (fun _=>((v+nLd (thr P t):Nat):Int))
  (fun i _ hi _=>by
   refine ⟨(),trivial,?_⟩
   unfold M81L0
   dsimp only
   have hget:=aAt_get hi
   have e1:Ar.std.wrp .i64 (Ar.std.zadd (i:Int) 1)=((i+1:Nat):Int):=by simp only [std_wrp,std_zadd];exact wrap1 (n:=10) (by omega) (by omega)
   have h1:=hb i
   have hs:nLd ((thr P t).take (i+1))=nLd ((thr P t).take i)+if (aAt (thr P t) i).1=1 then 1 else 0:=by
    rw [take_succ_get hget]
    unfold nLd
    rw [List.countP_append,List.countP_singleton]
    unfold ld
    by_cases h:(aAt (thr P t) i).1=1 <;> simp [h]
   refine bt (gt_eP (thr_get ht)) (cnT (by simp;omega) (bt (gt_enc hget) (bt (v:=((v+nLd ((thr P t).take (i+1)):Nat):Int)) ?_ ?_)))
   ·rw [hs]
    simp only [std_zeq,std_wrp,std_zadd]
    by_cases h:(aAt (thr P t) i).1=1
    ·rw [if_pos h]
     refine cnT (by simp [h]) ?_
     rw [i64w _ (by omega) (by omega)];rfl
    ·rw [if_neg h]
     exact cnF (by simp [h]) rfl
   ·rw [e1])
  (fun _ _=>by
   unfold M81L0
   dsimp only
   refine bt (gt_eP (thr_get ht)) (cnF (by simp) ?_)
   rw [List.take_length]) () trivial
 obtain ⟨_,_,h⟩:=key
 exact h
theorem M38_eq {P:Pg} (hv:VP P):M38 Ar.std (eP P)=some ((ldSum P P.length:Int),0):=by
 have e:=M24_eq (VP.short hv)
 rw [VP.to hv] at e
 have hn3:=hv.n3
 have key:=iter_rel (step:=M81L1 Ar.std (eP P)) P.length (fun (_:Unit) (t:Nat)=>((ldSum P t:Int),(t:Int))) (fun _ _=>True) (fun _=>(ldSum P P.length:Int))
  (fun t _ ht _=>by
   refine ⟨(),trivial,?_⟩
   unfold M81L1
   dsimp only
   have hs:=ldSum_le hv t
   have e1:Ar.std.wrp .i64 (Ar.std.zadd (t:Int) 1)=((t+1:Nat):Int):=by simp only [std_wrp,std_zadd];exact wrap1 (n:=10) (by omega) (by omega)
   refine cnT (by simp;omega) (bt (M81L0_eq hv ht (by omega)) ?_)
   rw [e1,ldSum_succ])
  (fun _ _=>by
   unfold M81L1
   exact cnF (by simp) rfl) () trivial
 obtain ⟨_,_,h⟩:=key
 have h':iter (M81L1 Ar.std (eP P)) (0,0)=some (ldSum P P.length:Int):=h
 unfold M38 M81
 exact bt e (cnT rfl (bt (bt h' rfl) rfl))
theorem M7_ok (P:Pg) (hP:P.length<9223372036854775808) (hl : ∀ t∈P,t.length<9223372036854775808) (S:List Int):M7 Ar.std (eP P) (eInts S)=some true:=by
 obtain ⟨b,e,hb⟩:=M17_eq P hP hl
 unfold M7
 cases b with
 | true=>exact bt (v:=true) (bt e rfl) (cnT rfl (bt M18_eq rfl))
 | false =>
   have hS:=hb rfl
   by_cases h100:100<S.length
   ·exact bt (v:=true) (bt e (cnF rfl (by simp;omega))) (cnT rfl (bt M18_eq rfl))
   ·refine bt (v:=false) (bt e (cnF rfl (by simp;omega))) (cnF rfl ?_)
    obtain ⟨o,z,r1,r2,sm⟩:=run_same hS (S:=S) (by omega)
    have key : ∃ a b c d,M35 Ar.std (eP P)=some (a,b)/\M36 Ar.std (eP P)=some (a,b)/\M37 Ar.std (eP P)=some (c,d)/\M38 Ar.std (eP P)=some (c,d):=by
     cases hp:vPrg P with
     | true =>
       have hv:=VP.of hp
       exact ⟨_,_,_,_,M35_eq hv,M36_eq hv,M37_eq hv,M38_eq hv⟩
     | false =>
       have e1:=M23_eq hS
       have e2:=M24_eq hS
       rw [hp] at e1 e2
       exact ⟨0,40,0,40,by unfold M35;exact bt e1 rfl,by unfold M36;exact bt e2 rfl,by unfold M37;exact bt e1 rfl,by unfold M38;exact bt e2 rfl⟩
    obtain ⟨a,b,c,d,k1,k2,k3,k4⟩:=key
    refine bt r1 (bt r2 (bt (v:=false) (bt (M30_eq sm.1 sm.1 sm.2 sm.2) ?_) (cnF rfl (bt k1 (bt k2 (bt k3 (bt k4 (bt (v:=true) ?_ rfl))))))))
    ·rw [cmpD_lt.2.2 rfl]
     simp
    ·simp only [std_zeq,decide_true,cond_true]
     exact bt M18_eq rfl
end Go.Am
