/- Own text: KL36. -/
import Derived.Test.YtkjeamngjnfpkaaKL30
set_option maxRecDepth 100000
set_option maxHeartbeats 2000000
set_option linter.unusedVariables false
set_option linter.unusedSimpArgs false
set_option linter.unusedSectionVars false
namespace Go.Am
open Go
abbrev cK5:Cod (Int×Int×Int×Int×Int):=cG (lc (cI .i64) (lc (cI .i64) (lc (cI .i64) (lc (cI .i64) (l1 (cI .i64))))))
def key5 (x:Call):Int×Int×Int×Int×Int:=(x.th,x.op,x.sa,x.fr,x.to)
def eKey (h:List Call):List D:=enc cK5 (h.map key5)
theorem lenKey (h:List Call):Ar.std.len (eKey h)=(h.length:Int):=by unfold eKey;simp
theorem K161_eq (h:List Call) (hl:h.length<=100):K161 Ar.std (eCalls h)=some (eKey h):=by
 obtain ⟨p,hp,e⟩:=iter_rel (step:=K161L0 Ar.std (eCalls h)) h.length (fun (p:List Call) (i:Nat)=>(eKey p,(i:Int))) (fun i p=>p=h.take i) (fun p=>eKey p)
  (fun i p hi hR=>by
   have hx:=zp1 hi
   refine ⟨p++[h[i]],by rw [hR,take_succ_get hx],?_⟩
   unfold K161L0
   refine cnT (by simp;omega) (bt (gt_enc hx) (bt (ap_enc1 (c:=cK5) (a:=key5 h[i]) rfl (by rw [List.length_map,hR,List.length_take];omega)) ?_))
   simp only [std_wrp,std_zadd,wrap1 (i:=i) (n:=200) (by omega) (by decide)]
   unfold eKey
   rw [List.map_append];rfl)
  (fun p _=>by unfold K161L0;exact cnF (by simp) rfl) [] rfl
 rw [List.take_length] at hp
 subst hp
 unfold K161
 exact bt e rfl
section
variable {a b:List Call} (ha:GH a) (hb:GH b)
include ha hb
theorem K133L0_it {i:Nat} {x y:Call} (hx:a[i]?=some x) (hy:b[i]?=some y) :
  iter (K133L0 Ar.std (eKey a) (eKey b) (i:Int)) 0=some (bif decide (cmpC x y=0) then .inl () else .inr (cmpC x y)):=by
 obtain ⟨gx1,gx2,gx3,gx4,gx5,gx6⟩:=ha.2 x (List.mem_of_getElem? hx)
 obtain ⟨gy1,gy2,gy3,gy4,gy5,gy6⟩:=hb.2 y (List.mem_of_getElem? hy)
 have e1:gt Ar.std cK5 (eKey a) (i:Int)=some (key5 x):=gt_enc_map hx
 have e2:gt Ar.std cK5 (eKey b) (i:Int)=some (key5 y):=gt_enc_map hy
 have w : ∀ p q:Int,0<=p->p<=999->0<=q->q<=999->IntKind.i64.wrap (p-q)=p-q:=fun p q h1 h2 h3 h4=>i64w _ (by omega) (by omega)
 have w1:=w _ _ gx1.1 gx1.2 gy1.1 gy1.2
 have w2:=w _ _ gx3.1 gx3.2 gy3.1 gy3.2
 have w3:=w _ _ gx4.1 gx4.2 gy4.1 gy4.2
 have w4:=w _ _ gx5.1 gx5.2 gy5.1 gy5.2
 have w5:=w _ _ gx6.1 gx6.2 gy6.1 gy6.2
 have s0:K133L0 Ar.std (eKey a) (eKey b) (i:Int) 0=some (bif decide (x.th=y.th) then .inl 1 else .inr (.inr (x.th-y.th))):=by
  unfold K133L0
  simp only [e1,e2,bsome,key5]
  by_cases h:x.th=y.th
  ·simp [h];rfl
  ·simp [h,w1]
 have s1:K133L0 Ar.std (eKey a) (eKey b) (i:Int) 1=some (bif decide (x.op=y.op) then .inl 2 else .inr (.inr (x.op-y.op))):=by
  unfold K133L0
  simp only [e1,e2,bsome,key5]
  by_cases h:x.op=y.op
  ·simp [h];rfl
  ·simp [h,w2]
 have s2:K133L0 Ar.std (eKey a) (eKey b) (i:Int) 2=some (bif decide (x.sa=y.sa) then .inl 3 else .inr (.inr (x.sa-y.sa))):=by
  unfold K133L0
  simp only [e1,e2,bsome,key5]
  by_cases h:x.sa=y.sa
  ·simp [h];rfl
  ·simp [h,w3]
 have s3:K133L0 Ar.std (eKey a) (eKey b) (i:Int) 3=some (bif decide (x.fr=y.fr) then .inl 4 else .inr (.inr (x.fr-y.fr))):=by
  unfold K133L0
  simp only [e1,e2,bsome,key5]
  by_cases h:x.fr=y.fr
  ·simp [h];rfl
  ·simp [h,w4]
 have s4:K133L0 Ar.std (eKey a) (eKey b) (i:Int) 4=some (bif decide (x.to=y.to) then .inl 5 else .inr (.inr (x.to-y.to))):=by
  unfold K133L0
  simp only [e1,e2,bsome,key5]
  by_cases h:x.to=y.to
  ·simp [h];rfl
  ·simp [h,w5]
 have s5:K133L0 Ar.std (eKey a) (eKey b) (i:Int) 5=some (.inr (.inl ())):=by
  unfold K133L0
  exact cnF (by simp) rfl
 unfold cmpC orI orI orI orI orI orI
 by_cases h0:x.th=y.th
 ·rw [decide_eq_true h0] at s0
  rw [iter_inl s0,show decide (x.th-y.th=0)=true from decide_eq_true (by omega),cond_true]
  by_cases h1:x.op=y.op
  ·rw [decide_eq_true h1] at s1
   rw [iter_inl s1,show decide (x.op-y.op=0)=true from decide_eq_true (by omega),cond_true]
   by_cases h2:x.sa=y.sa
   ·rw [decide_eq_true h2] at s2
    rw [iter_inl s2,show decide (x.sa-y.sa=0)=true from decide_eq_true (by omega),cond_true]
    by_cases h3:x.fr=y.fr
    ·rw [decide_eq_true h3] at s3
     rw [iter_inl s3,show decide (x.fr-y.fr=0)=true from decide_eq_true (by omega),cond_true]
     by_cases h4:x.to=y.to
     ·rw [decide_eq_true h4] at s4
      rw [iter_inl s4,show decide (x.to-y.to=0)=true from decide_eq_true (by omega),cond_true]
      rw [iter_inr s5];rfl
     ·rw [decide_eq_false h4] at s4
      have hn:decide (x.to-y.to=0)=false:=decide_eq_false (by omega)
      rw [iter_inr s4,hn,cond_false,hn];rfl
    ·rw [decide_eq_false h3] at s3
     have hn:decide (x.fr-y.fr=0)=false:=decide_eq_false (by omega)
     rw [iter_inr s3,hn,cond_false,hn];rfl
   ·rw [decide_eq_false h2] at s2
    have hn:decide (x.sa-y.sa=0)=false:=decide_eq_false (by omega)
    rw [iter_inr s2,hn,cond_false,hn];rfl
  ·rw [decide_eq_false h1] at s1
   have hn:decide (x.op-y.op=0)=false:=decide_eq_false (by omega)
   rw [iter_inr s1,hn,cond_false,hn];rfl
 ·rw [decide_eq_false h0] at s0
  have hn:decide (x.th-y.th=0)=false:=decide_eq_false (by omega)
  rw [iter_inr s0,hn,cond_false,hn];rfl
end
def cmpD:List Call->List Call->Int
 | x::a,y::b=>bif decide (cmpC x y=0) then cmpD a b else cmpC x y
 | [],b=>0-(b.length:Int)
 | a,[]=>(a.length:Int)
theorem K133_eq {a b:List Call} (ha:GH a) (hb:GH b):K133 Ar.std (eCalls a) (eCalls b)=some (cmpD a b):=by
 have hla:=ha.1
 have hlb:=hb.1
 have key : ∀ (k i:Nat),i+k=a.length->i<=b.length->(iter (K133L1 Ar.std (eKey a) (eKey b)) (i:Int)).bind (Sum.elim (fun _=>some (Ar.std.wrp .i64 (Ar.std.zsub (Ar.std.len (eKey a)) (Ar.std.len (eKey b))))) (fun v=>some v))=some (cmpD (a.drop i) (b.drop i)):=by
  intro k
  have hend : ∀ i:Nat,i=a.length\/i=b.length->K133L1 Ar.std (eKey a) (eKey b) (i:Int)=some (.inr (.inl ())):=by
   intro i hi
   unfold K133L1
   refine bt (v:=false) ?_ rfl
   rw [lenKey,lenKey]
   by_cases h:(i:Int)<a.length
   ·refine cnT (by simpa using h) ?_
    rw [std_zlt,decide_eq_false (by omega)]
   ·exact cnF (by simpa using h) rfl
  have hw:Ar.std.wrp .i64 (Ar.std.zsub (Ar.std.len (eKey a)) (Ar.std.len (eKey b)))=(a.length:Int)-b.length:=by
   rw [lenKey,lenKey,std_wrp,std_zsub,i64w _ (by omega) (by omega)]
  induction k with
  | zero =>
    intro i hi hib
    refine bt (iter_inr (hend i (.inl (by omega)))) ?_
    rw [List.drop_eq_nil_of_le (by omega:a.length<=i)]
    show some (Ar.std.wrp .i64 (Ar.std.zsub (Ar.std.len (eKey a)) (Ar.std.len (eKey b))))=some (cmpD [] (b.drop i))
    rw [hw]
    unfold cmpD
    rw [List.length_drop]
    congr 1;omega
  | succ k ih =>
    intro i hi hib
    by_cases hbe:i=b.length
    ·refine bt (iter_inr (hend i (.inr hbe))) ?_
     rw [List.drop_eq_nil_of_le (by omega:b.length<=i)]
     show some (Ar.std.wrp .i64 (Ar.std.zsub (Ar.std.len (eKey a)) (Ar.std.len (eKey b))))=some (cmpD (a.drop i) [])
     rw [hw]
     have hne:a.drop i≠[]:=fun h=>by have:=congrArg List.length h;rw [List.length_drop] at this;simp at this;omega
     have:cmpD (a.drop i) []=((a.drop i).length:Int):=by
      cases hq:a.drop i with
      | nil=>exact absurd hq hne
      | cons x r=>rfl
     rw [this,List.length_drop]
     congr 1;omega
    ·have hx:a[i]?=some a[i]:=zp1 (by omega)
     have hy:b[i]?=some b[i]:=zp1 (by omega)
     have hstep:K133L1 Ar.std (eKey a) (eKey b) (i:Int)=some (bif decide (cmpC a[i] b[i]=0) then .inl ((i+1:Nat):Int) else .inr (.inr (cmpC a[i] b[i]))):=by
      unfold K133L1
      refine bt (v:=true) ?_ ?_
      ·rw [lenKey,lenKey]
       refine cnT (by simp;omega) ?_
       rw [std_zlt,decide_eq_true (by omega)]
      ·refine cnT rfl (bt (K133L0_it ha hb hx hy) ?_)
       cases decide (cmpC a[i] b[i]=0) with
       | true=>show (some (Sum.inl (Ar.std.wrp .i64 (Ar.std.zadd (i:Int) 1))):Option (Int⊕(Unit⊕Int)))=_;simp only [std_wrp,std_zadd,wrap1 (i:=i) (n:=200) (by omega) (by decide)];rfl
       | false=>rfl
     rw [List.drop_eq_getElem_cons (by omega:i<a.length),List.drop_eq_getElem_cons (by omega:i<b.length)]
     show _=some (bif decide (cmpC a[i] b[i]=0) then cmpD (a.drop (i+1)) (b.drop (i+1)) else cmpC a[i] b[i])
     cases hd:decide (cmpC a[i] b[i]=0) with
     | true =>
       rw [hd] at hstep
       rw [iter_inl hstep,cond_true]
       exact ih (i+1) (by omega) (by omega)
     | false =>
       rw [hd] at hstep
       rw [iter_inr hstep];rfl
 unfold K133
 refine bt (K161_eq a ha.1) (bt (K161_eq b hb.1) ?_)
 have:=key a.length 0 (by omega) (by omega)
 rw [List.drop_zero,List.drop_zero] at this
 exact this
theorem cmpD_L {a b:List Call} (ha : ∀ x∈a,GC x) (hb : ∀ x∈b,GC x):(cmpD a b<0↔cmpL (a.map rank) (b.map rank)<0)/\(cmpD a b=0↔a=b):=by
 induction a generalizing b with
 | nil =>
   cases b with
   | nil=>simp [cmpD,cmpL]
   | cons y b=>simp [cmpD,cmpL];omega
 | cons x a ih =>
   cases b with
   | nil=>simp [cmpD,cmpL];omega
   | cons y b =>
     obtain ⟨h1,h2⟩:=cmpC_rank (ha x (by simp)) (hb y (by simp))
     have:=ih (b:=b) (fun x hx=>ha x (by simp [hx])) (fun x hx=>hb x (by simp [hx]))
     unfold cmpD
     simp only [List.map_cons,cmpL]
     by_cases h0:cmpC x y=0
     ·rw [decide_eq_true h0,cond_true,if_neg (by omega),if_neg (by omega)]
      have hxy:x=y:=rank_inj (ha x (by simp)) (hb y (by simp)) (h2.1 h0)
      subst hxy
      refine ⟨this.1,this.2.trans ⟨fun h=>by rw [h],fun h=>(List.cons.inj h).2⟩⟩
     ·rw [decide_eq_false h0,cond_false]
      have hne : ¬ (x::a=y::b):=fun h=>by
       have:=(List.cons.inj h).1
       subst this
       exact h0 (h2.2 rfl)
      refine ⟨?_,iff_of_false h0 hne⟩
      by_cases h3:rank x<rank y
      ·rw [if_pos h3];simp;omega
      ·rw [if_neg h3,if_pos (by omega)];simp;omega
end Go.Am

namespace Go.Am
open Go
def ltH (a b:List Call):Prop:=cmpL (a.map rank) (b.map rank)<0
theorem ltH_irr (a:List Call) : ¬ ltH a a:=by unfold ltH;rw [cmpL_irr];decide
theorem ltH_tr {a b c:List Call} (h:ltH a b) (h':ltH b c):ltH a c:=cmpL_tr _ _ _ h h'
theorem ltH_tot {a b:List Call} (ha:GH a) (hb:GH b) (h : ¬ ltH a b) (h' : ¬ ltH b a):a=b:=map_rank_inj ha.2 hb.2 (cmpL_tot _ _ h h')
abbrev SS (l:List (List Call)):Prop:=l.Pairwise ltH
theorem gcH {l:List (List Call)} {j:Nat} {h:List Call} (hj:l[j]?=some h):gc Ar.std (cL 6) (eHis l) (Ar.std.nat (j:Int))=some (eCalls h):=gcHis hj rfl
section
variable {h:List Call} (hh:GH h) {L:List (List Call)} (hL : ∀ x∈L,GH x) (hs:SS L) (hn:L.length<=100000)
include hh hL hs hn
theorem bs_it : ∀ (d lo hi:Nat),hi-lo=d->lo<=hi->hi<=L.length->(∀ (i:Nat) x,i<lo->L[i]?=some x->ltH x h)->(∀ (i:Nat) x,hi<=i->L[i]?=some x -> ¬ ltH x h) ->
  ∃ p:Nat,p<=L.length/\iter (K100L0 Ar.std (eCalls h) (eHis L)) ((lo:Int),(hi:Int))=some (p:Int)/\(∀ (i:Nat) x,i<p->L[i]?=some x->ltH x h)/\(∀ (i:Nat) x,p<=i->L[i]?=some x -> ¬ ltH x h):=by
 intro d
 induction d using Nat.strongRecOn with
 | _ d ih =>
   intro lo hi hd hlh hhl h1 h2
   by_cases hlt:lo<hi
   ·obtain ⟨m,hm⟩ : ∃ m,m=(lo+hi) / 2:=⟨_,rfl⟩
    have hm1:lo<=m:=by omega
    have hm2:m<hi:=by omega
    have hx:L[m]?=some L[m]:=zp1 (by omega)
    have gx:=hL _ (List.mem_of_getElem? hx)
    have hq:Ar.std.quo .i64 (Ar.std.wrp .i64 (Ar.std.zadd (lo:Int) (hi:Int))) 2=(m:Int):=by
     simp only [std_quo,std_wrp,std_zadd]
     rw [i64w ((lo:Int)+hi) (by omega) (by omega)]
     have:((lo:Int)+hi).tdiv 2=m:=by rw [Int.tdiv_eq_ediv_of_nonneg (by omega)];omega
     rw [this,i64w _ (by omega) (by omega)]
    have hc:=(cmpD_L gx.2 hh.2).1
    have hstep:K100L0 Ar.std (eCalls h) (eHis L) ((lo:Int),(hi:Int))=some (.inl (bif decide (cmpD L[m] h<0) then (((m+1:Nat):Int),(hi:Int)) else ((lo:Int),(m:Int)))):=by
     unfold K100L0
     simp only [hq]
     refine cnT (by simp;omega) (bt (nk_of (by simp)) (bt (ck_of (by simp)) (bt (ck_of (by rw [lenHis];simp;omega)) (bt (gcH hx) (bt (K133_eq gx hh) (bt (v:=(bif decide (cmpD L[m] h<0) then (((m+1:Nat):Int),(hi:Int)) else ((lo:Int),(m:Int)))) ?_ rfl))))))
     cases hb:decide (cmpD L[m] h<0) with
     | true=>refine cnT hb ?_;simp only [std_wrp,std_zadd,wrap1 (i:=m) (n:=200000) (by omega) (by decide)];rfl
     | false=>exact cnF hb rfl
    cases hb:decide (cmpD L[m] h<0) with
    | true =>
      rw [hb,cond_true] at hstep
      rw [iter_inl hstep]
      have hlm:ltH L[m] h:=hc.1 (of_decide_eq_true hb)
      refine ih (hi-(m+1)) (by omega) (m+1) hi rfl (by omega) hhl (fun i x hi' hxi => ?_) h2
      by_cases him:i=m
      ·subst him
       rw [hx] at hxi
       rw [<-Option.some.inj hxi];exact hlm
      ·have hxi':=zp2.1 hxi
       obtain ⟨hil,rfl⟩:=hxi'
       exact ltH_tr (List.pairwise_iff_getElem.1 hs i m hil (by omega) (by omega)) hlm
    | false =>
      rw [hb,cond_false] at hstep
      rw [iter_inl hstep]
      have hlm : ¬ ltH L[m] h:=fun hl=>(of_decide_eq_false hb) (hc.2 hl)
      refine ih (m-lo) (by omega) lo m rfl hm1 (by omega) h1 (fun i x hi' hxi hl => ?_)
      by_cases him:i=m
      ·subst him
       rw [hx] at hxi
       rw [<-Option.some.inj hxi] at hl;exact hlm hl
      ·have hxi':=zp2.1 hxi
       obtain ⟨hil,rfl⟩:=hxi'
       exact hlm (ltH_tr (List.pairwise_iff_getElem.1 hs m i (by omega) hil (by omega)) hl)
   ·have:lo=hi:=by omega
    subst this
    refine ⟨lo,hhl,iter_inr ?_,h1,h2⟩
    unfold K100L0
    exact cnF (by simp) rfl
omit hh hL hs hn in
theorem shift_it (hn:L.length<=100000) (p:Nat) : ∀ (d:Nat) (g:List Call),p+d<=L.length ->
  ∃ g',iter (K100L1 Ar.std (p:Int)) (((p+d:Nat):Int),eHis (L.take (p+d)++g::L.drop (p+d)))=some (eHis (L.take p++g'::L.drop p))
 | 0,g,hpd=>⟨g,iter_inr (by unfold K100L1;exact cnF (by simp) rfl)⟩
 | d+1,g,hpd=>by
   have hx:L[p+d]?=some L[p+d]:=zp1 (by omega)
   have hl1:(L.take (p+(d+1))).length=p+d+1:=by rw [List.length_take];omega
   have htot:(L.take (p+(d+1))++g::L.drop (p+(d+1))).length=L.length+1:=by rw [List.length_append,List.length_cons,hl1,List.length_drop];omega
   have ha:(L.take (p+(d+1))++g::L.drop (p+(d+1)))[p+d]?=some L[p+d]:=by
    rw [zp7 (by omega),List.getElem?_take_of_lt (by omega),hx]
   have hb:(L.take (p+(d+1))++g::L.drop (p+(d+1)))[p+(d+1)]?=some g:=by
    rw [zp8 (by omega),hl1,show p+(d+1)-(p+d+1)=0 by omega];rfl
   have hset:(L.take (p+(d+1))++g::L.drop (p+(d+1))).set (p+(d+1)) L[p+d]=L.take (p+d)++L[p+d]::L.drop (p+d):=by
    rw [List.set_append_right _ _ (by omega),hl1,show p+(d+1)-(p+d+1)=0 by omega,List.set_cons_zero]
    rw [show p+(d+1)=(p+d)+1 by omega,take_succ_get hx,List.append_assoc,List.singleton_append,List.drop_eq_getElem_cons (by omega:p+d<L.length)]
   have hw:Ar.std.wrp .i64 (Ar.std.zsub ((p+(d+1):Nat):Int) 1)=((p+d:Nat):Int):=by
    simp only [std_wrp,std_zsub];rw [i64w _ (by omega) (by omega)];omega
   obtain ⟨g',e⟩:=shift_it hn p d L[p+d] (by omega)
   refine ⟨g',?_⟩
   rw [<-e,<-hset]
   refine iter_inl ?_
   unfold K100L1
   simp only [hw]
   refine cnT (by simp;omega) (bt (ck_of (by simp;omega)) (bt (ck_of (by rw [lenHis,htot];simp;omega)) (bt (gcH ha) (bt (ck_of (by simp;omega)) (bt (ck_of (by rw [lenHis,htot];simp;omega)) (bt (gcH hb) ?_))))))
   rw [setHis _ (p+(d+1)) _ rfl]
theorem put_ok (hn':L.length<100000) : ∃ L':List (List Call),K100 Ar.std (eCalls h) (eHis L)=some (eHis L')/\SS L'/\(∀ x,x∈L'↔x=h\/x∈L)/\L'.length<=L.length+1:=by
 obtain ⟨p,hp,e,h1,h2⟩:=bs_it hh hL hs hn L.length 0 L.length (by omega) (by omega) (Nat.le_refl _) (fun i x hi _=>by omega) (fun i x hi hx=>by rw [List.getElem?_eq_none hi] at hx;cases hx)
 have elen:Ar.std.len (eHis L)=((L.length:Nat):Int):=lenHis L
 unfold K100
 rw [elen]
 have hfound : ∀ q:Bool,q=(match L[p]? with | some x=>decide (cmpD x h=0) | none=>false)->(bif (Ar.std.zlt (p:Int) ((L.length:Nat):Int)) then
   (ck (Ar.std.zle 0 (p:Int))).bind fun _=>(ck (Ar.std.zlt (p:Int) ((L.length:Nat):Int))).bind fun _=>(gc Ar.std (cL 6) (eHis L) (Ar.std.nat (p:Int))).bind fun a44=>(K133 Ar.std a44 (eCalls h)).bind fun r48=>some (Ar.std.zeq r48 0)
   else some false:Option Bool)=some q:=by
  intro q hq
  by_cases hlt:p<L.length
  ·have hx:L[p]?=some L[p]:=zp1 hlt
   rw [hx] at hq
   refine cnT (by simp;omega) (bt (ck_of (by simp)) (bt (ck_of (by simp;omega)) (bt (gcH hx) (bt (K133_eq (hL _ (List.mem_of_getElem? hx)) hh) ?_))))
   rw [hq];rfl
  ·rw [List.getElem?_eq_none (by omega)] at hq
   rw [hq]
   exact cnF (by simp;omega) rfl
 cases hq:(match L[p]? with | some x=>decide (cmpD x h=0) | none=>false) with
 | true =>
   refine ⟨L,bt e (bt (hfound _ hq.symm) rfl),hs,fun x=>⟨.inr,fun hx=>hx.elim (fun hx => ?_) id⟩,by omega⟩
   subst hx
   cases hx:L[p]? with
   | none=>rw [hx] at hq;cases hq
   | some y =>
     rw [hx] at hq
     have hy:=List.mem_of_getElem? hx
     have:=(cmpD_L (hL y hy).2 hh.2).2.1 (of_decide_eq_true hq)
     rw [<-this];exact hy
 | false =>
   have hxs : ∀ (i:Nat) x,p<=i->L[i]?=some x->ltH h x:=by
    intro i x hpi hxi
    have gx:=hL x (List.mem_of_getElem? hxi)
    have hne : ∀ y,L[p]?=some y->ltH h y:=by
     intro y hy
     have gy:=hL y (List.mem_of_getElem? hy)
     rw [hy] at hq
     by_cases hly:ltH h y
     ·exact hly
     ·exfalso
      have:=ltH_tot gy hh (h2 p y (Nat.le_refl _) hy) hly
      exact (of_decide_eq_false hq) ((cmpD_L gy.2 hh.2).2.2 this)
    obtain ⟨hil,rfl⟩:=zp2.1 hxi
    by_cases hip:i=p
    ·subst hip;exact hne _ hxi
    ·exact ltH_tr (hne L[p] (zp1 (by omega))) (List.pairwise_iff_getElem.1 hs p i (by omega) hil (by omega))
   obtain ⟨g',es⟩:=shift_it (L:=L) hn p (L.length-p) [] (by omega)
   rw [show p+(L.length-p)=L.length by omega,List.take_length,List.drop_length] at es
   have hl1:(L.take p).length=p:=by rw [List.length_take];omega
   have htot:(L.take p++g'::L.drop p).length=L.length+1:=by rw [List.length_append,List.length_cons,hl1,List.length_drop];omega
   have hg:(L.take p++g'::L.drop p)[p]?=some g':=by rw [zp8 (by omega),hl1];simp
   have hset:(L.take p++g'::L.drop p).set p h=L.take p++h::L.drop p:=by
    rw [List.set_append_right _ _ (by omega),hl1,Nat.sub_self,List.set_cons_zero]
   have hap:ap Ar.std (eHis L) [(.list 6 [])]=some (eHis (L++[[]])):=by
    have:=ap_enc1 (c:=cL 6) (l:=L.map eCalls) (a:=eCalls []) (d := .list 6 []) rfl (by rw [List.length_map];omega)
    unfold eHis
    rw [List.map_append];exact this
   have hw:Ar.std.wrp .i64 (Ar.std.zsub (Ar.std.len (eHis (L++[[]]))) 1)=((L.length:Nat):Int):=by
    rw [lenHis,List.length_append,std_wrp,std_zsub,i64w _ (by simp <;> omega) (by simp <;> omega)];simp
   refine ⟨L.take p++h::L.drop p,bt e (bt (hfound _ hq.symm) (cnF rfl (bt hap ?_))),?_,fun x => ?_,by rw [List.length_append,List.length_cons,hl1,List.length_drop];omega⟩
   ·rw [hw]
    refine bt es (bt (ck_of (by simp)) (bt (ck_of (by rw [lenHis,htot];simp;omega)) (bt (gcH hg) ?_)))
    rw [setHis _ p _ rfl,hset]
   ·have hs':=hs
    rw [<-List.take_append_drop p L] at hs'
    obtain ⟨s1,s2,s3⟩:=List.pairwise_append.1 hs'
    refine List.pairwise_append.2 ⟨s1,List.pairwise_cons.2 ⟨fun x hx => ?_,s2⟩,fun x hx y hy => ?_⟩
    ·obtain ⟨i,hi,rfl⟩:=List.mem_iff_getElem.1 hx
     rw [List.getElem_drop]
     exact hxs (p+i) _ (by omega) (zp1 (by rw [List.length_drop] at hi;omega))
    ·rcases List.mem_cons.1 hy with rfl | hy
     ·obtain ⟨i,hi,rfl⟩:=List.mem_iff_getElem.1 hx
      rw [hl1] at hi
      rw [List.getElem_take]
      exact h1 i _ hi (zp1 (by omega))
     ·exact s3 x hx y hy
   ·rw [List.mem_append,List.mem_cons]
    constructor
    ·rintro (hx | hx | hx)
     ·exact .inr (List.mem_of_mem_take hx)
     ·exact .inl hx
     ·exact .inr (List.mem_of_mem_drop hx)
    ·rintro (hx | hx)
     ·exact .inr (.inl hx)
     ·rw [<-List.take_append_drop p L,List.mem_append] at hx
      exact hx.elim .inl fun h => .inr (.inr h)
end
end Go.Am

namespace Go.Am
open Go
instance:DecidableEq Call:=inferInstanceAs (DecidableEq (Int×Int×Int×Int×Int×Int))
section
variable {α:Type} [DecidableEq α]
def keepAt (l:List α) (j:Nat):Bool:=decide (j=0) || !decide (l[j]?=l[j-1]?)
def ddN (l:List α):Nat->List α
 | 0=>[]
 | j+1=>ddN l j++(match l[j]? with | some x=>bif keepAt l j then [x] else [] | none=>[])
theorem ddN_succ {l:List α} {j:Nat} {x:α} (h:l[j]?=some x):ddN l (j+1)=bif keepAt l j then ddN l j++[x] else ddN l j:=by
 show ddN l j++_=_
 rw [h]
 cases keepAt l j <;> simp
theorem ddN_len (l:List α) : ∀ j,(ddN l j).length<=j
 | 0=>Nat.le_refl _
 | j+1=>by
   have:=ddN_len l j
   cases h:l[j]? with
   | none=>show (ddN l j++_).length<=_;rw [h];simp;omega
   | some x =>
     rw [ddN_succ h]
     cases keepAt l j with
     | true=>rw [cond_true,List.length_append];simp;omega
     | false=>rw [cond_false];omega
theorem ddN_id {l:List α} {q:Nat} (hq:q<=l.length) (h : ∀ j,1<=j->j<q->l[j]?≠l[j-1]?) : ∀ j,j<=q->ddN l j=l.take j
 | 0,_=>by simp [ddN]
 | j+1,hj=>by
   have hx:l[j]?=some l[j]:=zp1 (by omega)
   have hk:keepAt l j=true:=by
    unfold keepAt
    by_cases h0:j=0
    ·rw [decide_eq_true h0];rfl
    ·rw [decide_eq_false h0,decide_eq_false (h j (by omega) (by omega))];rfl
   rw [ddN_succ hx,hk,cond_true,ddN_id hq h j (by omega),take_succ_get hx]
theorem ddN_mem {l:List α} : ∀ j,j<=l.length -> ∀ x,x∈ddN l j↔x∈l.take j
 | 0,_,x=>by simp [ddN]
 | j+1,hj,x=>by
   have hx:l[j]?=some l[j]:=zp1 (by omega)
   have ih:=ddN_mem (l:=l) j (by omega) x
   rw [ddN_succ hx,take_succ_get hx,List.mem_append,List.mem_singleton]
   cases hk:keepAt l j with
   | true=>rw [cond_true,List.mem_append,List.mem_singleton,ih]
   | false =>
     rw [cond_false,ih]
     refine ⟨.inl,fun h=>h.elim id fun h => ?_⟩
     unfold keepAt at hk
     rw [Bool.or_eq_false_iff,decide_eq_false_iff_not] at hk
     have he:l[j]?=l[j-1]?:=by simpa using hk.2
     rw [hx] at he
     have hl:j-1<l.length:=by omega
     rw [zp1 hl] at he
     rw [h,Option.some.inj he,List.mem_take_iff_getElem]
     refine ⟨j-1,?_,rfl⟩
     omega
end
theorem ddN_ss {l:List (List Call)} (hg : ∀ x∈l,GH x) (hs:l.Pairwise fun x y => ¬ ltH y x) : ∀ j,j<=l.length->SS (ddN l j)
 | 0,_=>List.Pairwise.nil
 | j+1,hj=>by
   have hx:l[j]?=some l[j]:=zp1 (by omega)
   have ih:=ddN_ss hg hs j (by omega)
   rw [ddN_succ hx]
   cases hk:keepAt l j with
   | false=>rw [cond_false];exact ih
   | true =>
     rw [cond_true]
     refine List.pairwise_append.2 ⟨ih,List.pairwise_singleton _ _,fun x hx' y hy => ?_⟩
     rw [List.mem_singleton] at hy
     subst hy
     have hm:=(ddN_mem (l:=l) j (by omega) x).1 hx'
     obtain ⟨i,hi,rfl⟩:=List.mem_take_iff_getElem.1 hm
     have hij:i<j:=by omega
     have hp:=List.pairwise_iff_getElem.1 hs
     have h1:=hp i j (by omega) (by omega) hij
     by_cases hlt:ltH l[i] l[j]
     ·exact hlt
     ·exfalso
      have he:=ltH_tot (hg _ (zp6 _)) (hg _ (zp6 _)) hlt h1
      unfold keepAt at hk
      rw [Bool.or_eq_true,decide_eq_true_eq] at hk
      have hk:=hk.resolve_left (by omega)
      rw [Bool.not_eq_true',decide_eq_false_iff_not] at hk
      apply hk
      have hl:j-1<l.length:=by omega
      rw [hx,zp1 hl]
      congr 1
      have h2:=hp (j-1) j hl (by omega) (by omega)
      by_cases hi1:i=j-1
      ·subst hi1;exact he.symm
      ·have h3:=hp i (j-1) (by omega) hl (by omega)
       rw [he] at h3
       exact (ltH_tot (hg _ (zp6 _)) (hg _ (zp6 _)) h3 h2).symm▸rfl
theorem K99_eq {a b:List Call} (ha:GH a) (hb:GH b):K99 Ar.std (eCalls a) (eCalls b)=some (decide (a=b)):=by
 have hla:=ha.1
 unfold K99
 by_cases hl:a.length=b.length
 ·have e:=iter_rng (step:=K99L0 Ar.std (eCalls a) (eCalls b)) a.length (fun i => !decide (a[i]?=b[i]?)) (.inr ()) (.inl ()) (fun i hi=>by
   have h1:=zp1 hi
   have h2:=zp1 (show i<b.length by omega)
   have hd:Ar.std.deq [(.int .i64 a[i].1),(.int .i64 a[i].2.1),(.int .i64 a[i].2.2.1),(.int .i64 a[i].2.2.2.1),(.int .i64 a[i].2.2.2.2.1),(.int .i64 a[i].2.2.2.2.2)] [(.int .i64 b[i].1),(.int .i64 b[i].2.1),(.int .i64 b[i].2.2.1),(.int .i64 b[i].2.2.2.1),(.int .i64 b[i].2.2.2.2.1),(.int .i64 b[i].2.2.2.2.2)]=decide (a[i]?=b[i]?):=by
    rw [std_deq,h1,h2]
    generalize a[i]=x;generalize b[i]=y
    obtain ⟨x1,x2,x3,x4,x5,x6⟩:=x
    obtain ⟨y1,y2,y3,y4,y5,y6⟩:=y
    refine decide_eq_decide.2 ?_
    simp
   unfold K99L0
   refine cnT (by simp;omega) (bt (gt_enc h1) (bt (gt_enc h2) ?_))
   cases hdd:decide (a[i]?=b[i]?) with
   | true=>refine cnT (hd.trans hdd) ?_;simp only [std_wrp,std_zadd,wrap1 (i:=i) (n:=200) (by omega) (by decide)];rfl
   | false=>exact cnF (hd.trans hdd) rfl) (by unfold K99L0;exact cnF (by simp) rfl)
  refine cnT (by simp [hl]) (bt e ?_)
  cases hb':(List.range a.length).any fun i => !decide (a[i]?=b[i]?) with
  | true =>
    obtain ⟨i,_,h⟩:=List.any_eq_true.1 hb'
    have : ¬ a=b:=fun h'=>by subst h';simp at h
    rw [decide_eq_false this];rfl
  | false =>
    have:a=b:=by
     refine List.ext_getElem? fun i => ?_
     rcases Nat.lt_or_ge i a.length with h | h
     ·have:=(List.any_eq_false.1 hb') i (List.mem_range.2 h)
      simpa using this
     ·rw [List.getElem?_eq_none h,List.getElem?_eq_none (by omega)]
    rw [decide_eq_true this];rfl
 ·refine cnF (by simp;omega) ?_
  rw [decide_eq_false (fun h=>hl (by rw [h]))]
end Go.Am

namespace Go.Am
open Go
theorem K98L0_eq {n q:Nat} (hn:n<=100000) (hq:1<=q) (hqn:q<n) {l:List (List Call)} (hl:GHs n l) (hdup:l[q]?=l[q-1]?) (hno : ∀ j,1<=j->j<q->l[j]?≠l[j-1]?) :
  ∃ (l':List (List Call)),q<=(ddN l n).length/\(ddN l n).length<n/\GHs n l'/\l'.take (ddN l n).length=ddN l n/\iter (K98L0 Ar.std 0 (n:Int) (q:Int)) ((q:Int),1,eHis l)=some (((ddN l n).length:Int),eHis l'):=by
 have hll:=hl.1
 have h0:ddN l (q+1)=l.take q:=by
  have hx:l[q]?=some l[q]:=zp1 (by omega)
  have hk:keepAt l q=false:=by
   unfold keepAt
   rw [decide_eq_false (by omega),decide_eq_true hdup];rfl
  rw [ddN_succ hx,hk,cond_false]
  exact ddN_id (q:=q) (by omega) hno q (Nat.le_refl _)
 obtain ⟨⟨k,l'⟩,⟨h1,h2,h3,h4,h5,h6⟩,e⟩:=iter_rel (step:=K98L0 Ar.std 0 (n:Int) (q:Int)) (n-q-1) (fun (s:Nat×List (List Call)) (i:Nat)=>((s.1:Int),((i+1:Nat):Int),eHis s.2))
  (fun i s=>q<=s.1/\s.1<=q+i/\GHs n s.2/\s.1=(ddN l (q+i+1)).length/\s.2.take s.1=ddN l (q+i+1) /\ ∀ j,q+i<=j->s.2[j]?=l[j]?) (fun s=>((s.1:Int),eHis s.2))
  (fun i s hi ⟨g1,g2,g3,g4,g5,g6⟩=>by
   obtain ⟨k,m⟩:=s
   simp only at g1 g2 g3 g4 g5 g6
   have hm:=g3.1
   have hx:l[q+i+1]?=some l[q+i+1]:=zp1 (by omega)
   have hy:l[q+i]?=some l[q+i]:=zp1 (by omega)
   have mx:m[q+i+1]?=some l[q+i+1]:=by rw [g6 _ (by omega),hx]
   have my:m[q+i]?=some l[q+i]:=by rw [g6 _ (by omega),hy]
   have gx:=hl.2 _ (List.mem_of_getElem? hx)
   have gy:=hl.2 _ (List.mem_of_getElem? hy)
   have hr:=K99_eq gx gy
   have hk:keepAt l (q+i+1) = !decide (l[q+i+1]=l[q+i]):=by
    unfold keepAt
    rw [decide_eq_false (by omega),Bool.false_or,show q+i+1-1=q+i by omega,hx,hy]
    congr 1
    exact decide_eq_decide.2 ⟨fun h=>Option.some.inj h,fun h=>by rw [h]⟩
   have hdd:=ddN_succ hx
   rw [hk] at hdd
   have hw:IntKind.i64.wrap (((i+1:Nat):Int)-1)=(i:Int):=by rw [i64w _ (by omega) (by omega)];omega
   have c1 : ∀ a:Bool,a=true->ck a=some ():=fun a h=>by rw [h];rfl
   have e1:Ar.std.zlt (((i+1:Nat):Int)) (Ar.std.zsub (n:Int) (q:Int))=true:=by simp;omega
   have e0:Ar.std.zle 0 (((i+1:Nat):Int))=true:=by simp;omega
   cases hd:decide (l[q+i+1]=l[q+i]) with
   | true =>
     rw [hd] at hr hdd
     refine ⟨(k,m),⟨g1,by simp only;omega,g3,?_,?_,fun j hj=>g6 j (by omega)⟩,?_⟩
     ·simp only;rw [show q+(i+1)+1=q+i+1+1 by omega,hdd];exact g4
     ·simp only;rw [show q+(i+1)+1=q+i+1+1 by omega,hdd];exact g5
     ·unfold K98L0
      refine cnT e1 (bt (c1 _ e0) (bt (c1 _ e1) (bt (gcHis mx (by simp;omega)) (bt (v:=()) (c1 _ (by simp only [std_wrp,std_zsub,hw];simp)) (bt (v:=()) (c1 _ (by simp only [std_wrp,std_zsub,hw];simp;omega)) (bt (gcHis my (by simp only [std_wrp,std_zsub,hw];simp)) (bt hr (bt (v:=((k:Int),eHis m)) rfl ?_))))))))
      simp only [std_wrp,std_zadd,wrap1 (i:=i+1) (n:=100001) (by omega) (by decide)]
   | false =>
     rw [hd] at hr hdd
     have htk:(m.set k l[q+i+1]).take (k+1)=ddN l (q+i+1)++[l[q+i+1]]:=by
      have:(m.set k l[q+i+1])[k]?=some l[q+i+1]:=List.getElem?_set_self (by omega)
      rw [take_succ_get this,List.take_set_of_le (Nat.le_refl _),g5]
     refine ⟨(k+1,m.set k l[q+i+1]),⟨by simp only;omega,by simp only;omega,g3.set k gx,?_,?_,fun j hj => ?_⟩,?_⟩
     ·simp only;rw [show q+(i+1)+1=q+i+1+1 by omega,hdd,Bool.not_false,cond_true,List.length_append,<-g4];rfl
     ·simp only;rw [show q+(i+1)+1=q+i+1+1 by omega,hdd,Bool.not_false,cond_true];exact htk
     ·simp only
      rw [List.getElem?_set_ne (by omega)]
      exact g6 j (by omega)
     ·unfold K98L0
      have hk' : ∃ d,Ar.std.lget (eHis m) (Ar.std.nat (Ar.std.zadd 0 (k:Int)))=some d:=by
       have:Ar.std.nat (Ar.std.zadd 0 (k:Int))=k:=by simp
       rw [this,std_lget]
       exact ⟨_,zp1 (by unfold eHis;simp;omega)⟩
      obtain ⟨d,hd'⟩:=hk'
      refine cnT e1 (bt (c1 _ e0) (bt (c1 _ e1) (bt (gcHis mx (by simp;omega)) (bt (v:=()) (c1 _ (by simp only [std_wrp,std_zsub,hw];simp)) (bt (v:=()) (c1 _ (by simp only [std_wrp,std_zsub,hw];simp;omega)) (bt (gcHis my (by simp only [std_wrp,std_zsub,hw];simp)) (bt hr (bt (v:=(((k+1:Nat):Int),eHis (m.set k l[q+i+1]))) ?_ ?_))))))))
      ·refine cnF rfl (bt (c1 _ e0) (bt (c1 _ e1) (bt (gcHis mx (by simp;omega)) (bt (v:=()) (c1 _ (by simp)) (bt (v:=()) (c1 _ (by simp;omega)) (bt hd' ?_))))))
       rw [setHis m k _ (by simp)]
       simp only [std_wrp,std_zadd,wrap1 (i:=k) (n:=100001) (by omega) (by decide)]
      ·simp only [std_wrp,std_zadd,wrap1 (i:=i+1) (n:=100001) (by omega) (by decide)])
  (fun s _=>by unfold K98L0;exact cnF (by simp;omega) rfl) (q,l) ⟨Nat.le_refl _,by simp,hl,by simp only;rw [Nat.add_zero,h0,List.length_take];omega,by simp only;rw [Nat.add_zero,h0],fun j _=>rfl⟩
 rw [show q+(n-q-1)+1=n by omega] at h4 h5
 simp only at h1 h2 h4 h5
 rw [<-h4]
 exact ⟨l',h1,by omega,h3,h5,e⟩
theorem K98_eq {n:Nat} (hn:n<=100000) (h0:1<=n) {l:List (List Call)} (hl:GHs n l) (z1 z2:Int) :
  ∃ (l':List (List Call)),GHs n l'/\l'.take (ddN l n).length=ddN l n/\K98 Ar.std 0 (n:Int) z1 z2 (eHis l)=some (0,((ddN l n).length:Int),eHis l'):=by
 have hll:=hl.1
 have hnone : ∀ i,i<=n->(∀ j,1<=j->j<i->l[j]?≠l[j-1]?)->ddN l i=l.take i:=fun i hi h=>ddN_id (q:=i) (by omega) h i (Nat.le_refl _)
 unfold K98
 by_cases h2:n<2
 ·have e:=hnone n (Nat.le_refl _) (fun j h1 h2=>by omega)
  rw [List.take_of_length_le (by omega)] at e
  rw [e]
  refine ⟨l,hl,List.take_length,?_⟩
  rw [hll]
  exact cnT (by simp;omega) rfl
 ·have c1 : ∀ a:Bool,a=true->ck a=some ():=fun a h=>by rw [h];rfl
  rcases iter_relE (step:=K98L1 Ar.std 0 (n:Int) (eHis l)) (n-1) (fun (_:Unit) (i:Nat)=>((i+1:Nat):Int)) (fun i _ => ∀ j,1<=j->j<i+1->l[j]?≠l[j-1]?) (fun _ x => ∃ (l':List (List Call)),GHs n l'/\l'.take (ddN l n).length=ddN l n/\x = .inr (((ddN l n).length:Int),eHis l')) (fun _ => .inl ())
   (fun i s hi hno=>by
    have hx:l[i+1]?=some l[i+1]:=zp1 (by omega)
    have hy:l[i]?=some l[i]:=zp1 (by omega)
    have hr:=K99_eq (hl.2 _ (List.mem_of_getElem? hx)) (hl.2 _ (List.mem_of_getElem? hy))
    have hw:IntKind.i64.wrap (((i+1:Nat):Int)-1)=(i:Int):=by rw [i64w _ (by omega) (by omega)];omega
    have e0:Ar.std.zle 0 (((i+1:Nat):Int))=true:=by simp;omega
    have e1:Ar.std.zlt (((i+1:Nat):Int)) (n:Int)=true:=by simp;omega
    cases hd:decide (l[i+1]=l[i]) with
    | false =>
      rw [hd] at hr
      refine .inl ⟨(),fun j hj1 hj2 => ?_,?_⟩
      ·by_cases hji:j=i+1
       ·subst hji
        rw [hx,show i+1-1=i by omega,hy]
        exact fun h=>(of_decide_eq_false hd) (Option.some.inj h)
       ·exact hno j hj1 (by omega)
      ·unfold K98L1
       refine cnT e1 (bt (c1 _ e0) (bt (c1 _ e1) (bt (gcHis hx (by simp)) (bt (v:=()) (c1 _ (by simp only [std_wrp,std_zsub,hw];simp)) (bt (v:=()) (c1 _ (by simp only [std_wrp,std_zsub,hw];simp;omega)) (bt (gcHis hy (by simp only [std_wrp,std_zsub,hw];simp)) (bt hr (cnF rfl ?_))))))))
       simp only [std_wrp,std_zadd,wrap1 (i:=i+1) (n:=100001) (by omega) (by decide)]
    | true =>
      rw [hd] at hr
      obtain ⟨l',g1,g2,g3,g4,e⟩:=K98L0_eq hn (q:=i+1) (by omega) (by omega) hl (by rw [hx,show i+1-1=i by omega,hy,of_decide_eq_true hd]) hno
      generalize hk:(ddN l n).length=k at g1 g2 g4 e
      refine .inr ⟨.inr ((k:Int),eHis (l'.take k++List.replicate (n-k) [])),⟨_,⟨by have:=g3.1;simp;omega,fun h hh => ?_⟩,?_,rfl⟩,?_⟩
      ·rcases List.mem_append.1 hh with hh | hh
       ·exact g3.2 h (List.mem_of_mem_take hh)
       ·rw [(List.mem_replicate.1 hh).2];exact ⟨by simp,fun x hx=>by simp at hx⟩
      ·have hkl:(l'.take k).length=k:=by have:=g3.1;rw [List.length_take];omega
       rw [List.take_append_of_le_length (by omega),List.take_take,Nat.min_self];exact g4
      ·unfold K98L1
       have hlen':=lenHis l'
       rw [g3.1] at hlen'
       refine cnT e1 (bt (c1 _ e0) (bt (c1 _ e1) (bt (gcHis hx (by simp)) (bt (v:=()) (c1 _ (by simp only [std_wrp,std_zsub,hw];simp)) (bt (v:=()) (c1 _ (by simp only [std_wrp,std_zsub,hw];simp;omega)) (bt (gcHis hy (by simp only [std_wrp,std_zsub,hw];simp)) (bt hr (cnT rfl ?_))))))))
       refine bt (c1 _ e0) (bt (v:=()) (c1 _ (by simp;omega)) (bt (v:=()) (c1 _ (by simp)) (bt e ?_)))
       dsimp only
       refine bt (v:=()) (c1 _ (by simp)) (bt (v:=()) (c1 _ (by simp;omega)) (bt (v:=()) (c1 _ (by simp)) (bt (v:=()) (c1 _ (by rw [hlen'];simp;omega)) (bt (v:=()) (c1 _ (by simp)) (bt (v:=()) (c1 _ (by simp)) (bt (v:=()) (c1 _ (by simp;omega)) ?_))))))
       have hf:Ar.std.fill (eHis l') (Ar.std.zadd 0 (k:Int)) (Ar.std.zsub (n:Int) (k:Int)) (.list 6 [])=eHis (l'.take k++List.replicate (n-k) []):=by
        have hl':=g3.1
        have a1:Ar.std.zadd 0 (k:Int)=(k:Int):=by simp
        have a2:Ar.std.zsub (n:Int) (k:Int)=((n-k:Nat):Int):=by simp;omega
        rw [a1,a2,std_fill]
        unfold fillStd eHis
        rw [Int.toNat_natCast,Int.toNat_natCast,List.drop_eq_nil_of_le (by simp;omega),List.append_nil,List.map_append,enc_append,List.map_take,List.map_replicate]
        congr 1
        ·unfold enc;rw [List.map_take]
        ·unfold enc;rw [List.map_replicate];rfl
       rw [hf]
       simp)
   (fun s _=>by
    unfold K98L1
    exact cnF (by simp;omega) rfl) () (fun j h1 h2=>by omega) with ⟨_,hno,e⟩ | ⟨_,x,_,⟨l',g1,g2,rfl⟩,e⟩
  ·have e':=hnone n (Nat.le_refl _) (fun j h1 h2=>hno j h1 (by omega))
   rw [List.take_of_length_le (by omega)] at e'
   rw [e']
   refine ⟨l,hl,List.take_length,?_⟩
   rw [hll]
   exact cnF (by simp;omega) (bt e rfl)
  ·exact ⟨l',g1,g2,cnF (by simp;omega) (bt e (by simp))⟩
end Go.Am

namespace Go.Am
open Go
theorem ss_nodup {l:List (List Call)} (h:SS l):l.Nodup:=h.imp fun {a b} hab e=>by subst e;exact ltH_irr a hab
theorem ss_unique {l l':List (List Call)} (h:SS l) (h':SS l') (hm : ∀ x,x∈l↔x∈l'):l=l':=by
 have hp:=(List.perm_ext_iff_of_nodup (ss_nodup h) (ss_nodup h')).2 hm
 exact hp.eq_of_pairwise (le:=ltH) (fun a b _ _ h1 h2=>absurd (ltH_tr h1 h2) (ltH_irr a)) h h'
theorem sorted_exact (hs:List (List Call)) (h1:1<=hs.length) (h2:hs.length<=100000) (hg : ∀ h∈hs,GH h) :
  ∃ ss:List (List Call),SS ss/\(∀ x,x∈ss↔x∈hs)/\ss.length<=hs.length /\
    ∃ (r20:List D) (n:Int) (r24:List D),K94a Ar.std 0 (Ar.std.len (eHis hs)) 0 (Ar.std.len (eHis hs)) (eHis hs)=some r20/\K98 Ar.std 0 (Ar.std.len (eHis hs)) 0 (Ar.std.len (eHis hs)) r20=some (0,n,r24)/\fz Ar.std r24 0 n=some (eHis ss):=by
 have hlen:=lenHis hs
 have hcmp:=cmpOk hs hg
 obtain ⟨s0,hs0⟩ : ∃ s0,s0=hs.mergeSort fun a b => !decide (cmpL (b.map rank) (a.map rank)<0):=⟨_,rfl⟩
 have e0:s0.map eCalls=(hs.map eCalls).mergeSort fun x y => !ltF (fun a0 b0=>K95 Ar.std a0 b0) y x:=by
  rw [hs0]
  exact List.map_mergeSort fun a ha b hb=>by rw [ltF_C95 (hg b hb) (hg a ha)]
 have hmem0 : ∀ x,x∈s0↔x∈hs:=fun x=>by rw [hs0,List.mem_mergeSort]
 have g0 : ∀ x∈s0,GH x:=fun x hx=>hg x ((hmem0 x).1 hx)
 have hl0:s0.length=hs.length:=by
  have:=congrArg List.length e0
  rw [List.length_map,List.length_mergeSort,List.length_map] at this
  exact this
 have e94:K94a Ar.std 0 (Ar.std.len (eHis hs)) 0 (Ar.std.len (eHis hs)) (eHis hs)=some (eHis s0):=by
  unfold K94a
  rw [hlen]
  have:=srt_eq (c:=cL 6) (f:=fun a0 b0=>K95 Ar.std a0 b0) (n:=(hs.length:Int)) (xs:=hs.map eCalls) (by rw [List.length_map]) (by omega) hcmp
  rw [<-e0] at this
  exact this
 have hsort:s0.Pairwise fun x y => ¬ ltH y x:=by
  have hp:=List.pairwise_mergeSort (le:=fun a b:List Call => !decide (cmpL (b.map rank) (a.map rank)<0)) (fun a b c h1 h2=>by
   simp only [Bool.not_eq_true',decide_eq_false_iff_not] at h1 h2 ⊢
   intro h
   by_cases hab:cmpL (a.map rank) (b.map rank)<0
   ·exact h2 (cmpL_tr _ _ _ h hab)
   ·rw [cmpL_tot _ _ hab h1] at h;exact h2 h) (fun a b=>by
   simp only [Bool.or_eq_true,Bool.not_eq_true',decide_eq_false_iff_not]
   by_cases hab:cmpL (b.map rank) (a.map rank)<0
   ·right;intro h
    have:=cmpL_tr _ _ _ hab h
    rw [cmpL_irr] at this
    exact absurd this (by decide)
   ·exact .inl hab) hs
  rw [<-hs0] at hp
  exact hp.imp fun {x y} h=>by
   simp only [Bool.not_eq_true',decide_eq_false_iff_not] at h
   exact h
 obtain ⟨l',k3,k4,e98⟩:=K98_eq h2 h1 (l:=s0) ⟨hl0,g0⟩ 0 (hs.length:Int)
 have hll:=k3.1
 have hdl:=ddN_len s0 hs.length
 refine ⟨ddN s0 hs.length,ddN_ss g0 hsort _ (by omega),fun x => ?_,hdl,_,_,_,e94,by rw [hlen];exact e98,?_⟩
 ·rw [ddN_mem (l:=s0) _ (by omega),List.take_of_length_le (by omega),hmem0]
 ·unfold fz
  have hz:Ar.std.zle (Ar.std.zadd 0 ((ddN s0 hs.length).length:Int)) (Ar.std.len (eHis l'))=true:=by rw [lenHis];simp;omega
  rw [hz,cond_true]
  simp only [std_zadd,std_sub,Int.zero_add,Int.toNat_zero,List.drop_zero,Nat.sub_zero,Int.toNat_natCast]
  have:List.take (ddN s0 hs.length).length (eHis l')=eHis (l'.take (ddN s0 hs.length).length):=by
   unfold eHis enc
   rw [<-List.map_take,<-List.map_take]
  rw [this,k4]
end Go.Am

namespace Go.Am
open Go
section
variable {c:Code} (hc:CodeOk c) {u:Tab} (hut:TabOk u)
include hc hut
def cntE (c:Code) (u:Tab) (n:Int):Int:=bif decide (codeE c u=0) then (bif btw 0 n 12 then 0 else 2) else codeE c u
theorem K91_eq (n:Int):K91 Ar.std (eCode c) (eTab u) n=some (cntE c u n):=by
 unfold K91 cntE
 refine bt (K105_eq c hc u hut) ?_
 by_cases he:codeE c u=0
 ·rw [decide_eq_true he,cond_true]
  refine bt (v := !btw 0 n 12) (cnT (by simp [he]) (bt (K51_eq 0 n 12) rfl)) ?_
  cases btw 0 n 12 with
  | true=>exact bt (v:=0) (cnF rfl (by rw [he])) rfl
  | false=>exact bt (v:=2) (cnT rfl rfl) rfl
 ·rw [decide_eq_false he,cond_false]
  exact bt (v:=false) (cnF (by simp [he]) rfl) (bt (v:=codeE c u) (cnF rfl rfl) rfl)
theorem K84_eq (n:Int):K84 Ar.std n=some (btw 0 n 12):=by
 unfold K84
 exact bt (K47_eq 0 n 12) rfl
variable (hv:vCode c=true) (hu:vUse c u=true) {k:Nat} (hk:k<=12)
include hv hu hk
theorem ends_gh {e:Ent} (he:EntOk c u e):GH e.1.h:=gh_of hv hu he.i he.t he.st
theorem K39L0_it (L:List Ent) (hL:L.length<100000) (hE : ∀ e∈L,EntOk c u e) :
  ∃ ss:List (List Call),SS ss/\(∀ x,x∈ss↔x∈L.map (fun e:Ent=>e.1.h))/\iter (K39L0 Ar.std (eEnds c u [] L)) (0,[])=some (eHis ss):=by
 have hlen:(eEnds c u [] L).length=L.length:=by unfold eEnds enc;rw [List.length_map,List.length_map]
 obtain ⟨ss,⟨h1,h2,_⟩,e⟩:=iter_rel (step:=K39L0 Ar.std (eEnds c u [] L)) L.length (fun (s:List (List Call)) (i:Nat)=>((i:Int),eHis s))
  (fun i s=>SS s/\(∀ x,x∈s↔x∈(L.take i).map (fun e:Ent=>e.1.h))/\s.length<=i) (fun s=>eHis s)
  (fun i s hi ⟨g1,g2,g3⟩=>by
   have hn:=zp1 hi
   have he:=hE _ (zp6 hi)
   generalize L[i]=e at hn he
   have hgs : ∀ x∈s,GH x:=fun x hx=>by
    obtain ⟨e',he',rfl⟩:=List.mem_map.1 ((g2 x).1 hx)
    exact ends_gh hc hut hv hu hk (hE _ (List.mem_of_mem_take he'))
   obtain ⟨s',e100,p1,p2,p3⟩:=put_ok (ends_gh hc hut hv hu hk he) hgs g1 (by omega) (by omega)
   refine ⟨s',⟨p1,fun x => ?_,by omega⟩,?_⟩
   ·rw [p2,take_succ_get hn,List.map_append,List.mem_append,g2]
    simp only [List.map_cons,List.map_nil,List.mem_singleton]
    exact Or.comm
   ·unfold K39L0
    refine cnT (by show decide _=true;rw [decide_eq_true_eq];show (i:Int)<((eEnds c u [] L).length:Int);omega) (bt (gt_enc_map (c:=cEnd) hn) ?_)
    dsimp only [tupE]
    refine bt e100 ?_
    simp only [std_wrp,std_zadd,wrap1 (i:=i) (n:=200000) (by omega) (by decide)])
  (fun s _=>by
   unfold K39L0
   exact cnF (by show decide _=false;rw [decide_eq_false_iff_not];show ¬ (L.length:Int)<((eEnds c u [] L).length:Int);omega) rfl) [] ⟨List.Pairwise.nil,fun x=>by simp,by simp⟩
 rw [List.take_length] at h2
 exact ⟨ss,h1,h2,e⟩
theorem sched_all : ∃ ss:List (List Call),ss.length<=100000/\(∀ h∈ss,GH h)/\K36 Ar.std (eCode c) (eTab u) (k:Int)=some (((endsM c u [] k mc0).length:Int),0)/\K37 Ar.std (eCode c) (eTab u) (k:Int)=some (((endsM c u [] k mc0).length:Int),0) /\
  K38 Ar.std (eCode c) (eTab u) (k:Int)=some (eHis ss,0)/\K39 Ar.std (eCode c) (eTab u) (k:Int)=some (eHis ss,0):=by
 have h2:=ulen [] (.inl rfl) hv hu
 have hcode:codeE c u=0:=by unfold codeE;rw [hv,hu];rfl
 have hb:btw 0 (k:Int) 12=true:=(btw_true _ _ _).2 (by omega)
 have hcnt:cntE c u (k:Int)=0:=by unfold cntE;rw [decide_eq_true hcode,hb];rfl
 obtain ⟨L,e92,hL,hE⟩:=K92_ok (mks:=[]) (.inl rfl) hv hu k hk
 have hlen:L.length<=2 ^ 12:=by
  have:=endsR_len (c:=c) (u:=u) (mks:=[]) h2 k mc0
  rw [<-hL,List.length_map] at this
  exact Nat.le_trans this (Nat.pow_le_pow_right (by decide) hk)
 have hp:(2:Nat) ^ 12=4096:=by decide
 have hLm:L.map (fun e:Ent=>e.1.h)=(endsM c u [] k mc0).map Mc.h:=by
  rw [<-endsR_M,<-hL,List.map_map];rfl
 have hLl:L.length=(endsM c u [] k mc0).length:=by rw [<-endsR_M,<-hL,List.length_map]
 have hpos:=endsM_pos (c:=c) (u:=u) (mks:=[]) k mc0
 obtain ⟨sd,d1,d2,ed⟩:=K39L0_it hc hut hv hu hk L (by omega) hE
 obtain ⟨ss,a1,a2,a3,r20,n,r24,b1,b2,b3⟩:=sorted_exact ((endsM c u [] k mc0).map Mc.h) (by rw [List.length_map];exact hpos) (by rw [List.length_map];omega) (fun h hh=>by
  rw [<-hLm] at hh
  obtain ⟨e,he,rfl⟩:=List.mem_map.1 hh
  exact ends_gh hc hut hv hu hk (hE e he))
 have heq:ss=sd:=ss_unique a1 d1 fun x=>by rw [a2,d2,hLm]
 subst heq
 refine ⟨ss,by rw [List.length_map] at a3;omega,fun h hh => ?_,K36_ok hc hut hv hu hk,?_,?_,?_⟩
 ·have:=(d2 h).1 hh
  obtain ⟨e,he,rfl⟩:=List.mem_map.1 this
  exact ends_gh hc hut hv hu hk (hE e he)
 ·unfold K37
  refine bt (K91_eq hc hut (k:Int)) ?_
  rw [hcnt]
  refine cnT rfl (bt e92 ?_)
  have:Ar.std.len (eEnds c u [] L)=((endsM c u [] k mc0).length:Int):=by
   show ((eEnds c u [] L).length:Int)=_
   unfold eEnds enc
   rw [List.length_map,List.length_map,hLl]
  rw [this]
 ·unfold K38
  refine bt (K89_eq c hc u hut) ?_
  rw [hcode]
  refine cnT rfl (bt (K84_ok hc hut hv hu hk) (cnT rfl (bt (v:=(eCode c,eTab u)) rfl (bt (K85b_ok hc hut hv hu hk) ?_))))
  refine cnT (by rw [lenHis,List.length_map];simp;omega) (bt (v:=()) (by rw [scalHis];rfl) (bt b1 (bt b2 (bt b3 rfl))))
 ·unfold K39
  refine bt (K91_eq hc hut (k:Int)) ?_
  rw [hcnt]
  exact cnT rfl (bt e92 (bt ed rfl))
end
theorem K7_ok (s:Spec) (hs:TabOk s.2.2.1/\TabOk s.2.2.2) (c:Code) (hc:CodeOk c) (u:Tab) (hut:TabOk u) (n:Int) :
  K7 Ar.std s.1 s.2.1 (eTab s.2.2.1) (eTab s.2.2.2) (eCode c) (eTab u) n=some true:=by
 unfold K7
 refine bt (K9_eq s hs c hc u hut) ?_
 cases largeX s c u with
 | true=>exact cnT rfl (bt K10_eq rfl)
 | false =>
   refine cnF rfl ?_
   have hno:=K40_same [] (by decide) (fun h hh=>by cases hh)
   by_cases he:codeE c u=0
   ·obtain ⟨hv,hu⟩:=codeE_ok he
    cases hb:btw 0 n 12 with
    | true =>
      obtain ⟨hb0,hb1⟩:=(btw_true _ _ _).1 hb
      obtain ⟨k,rfl⟩:=zp9 hb0
      obtain ⟨ss,l1,l2,e36,e37,e38,e39⟩:=sched_all hc hut hv hu (k:=k) (by omega)
      refine bt e36 (bt e37 (bt e38 (bt e39 (bt (v:=true) ?_ rfl))))
      exact cnT (by simp) (cnT rfl (bt (K40_same ss l1 l2) (cnT rfl (cnT rfl (bt K10_eq rfl)))))
    | false =>
      have hcnt:cntE c u n=2:=by unfold cntE;rw [decide_eq_true he,hb];rfl
      have e36:K36 Ar.std (eCode c) (eTab u) n=some (0,2):=by
       unfold K36
       refine bt (K89_eq c hc u hut) (cnT (by simp [he]) (bt (K84_eq hc hut n) ?_))
       rw [hb];rfl
      have e37:K37 Ar.std (eCode c) (eTab u) n=some (0,2):=by
       unfold K37
       refine bt (K91_eq hc hut n) ?_
       rw [hcnt];rfl
      have e38:K38 Ar.std (eCode c) (eTab u) n=some ([],2):=by
       unfold K38
       refine bt (K89_eq c hc u hut) (cnT (by simp [he]) (bt (K84_eq hc hut n) ?_))
       rw [hb];rfl
      have e39:K39 Ar.std (eCode c) (eTab u) n=some ([],2):=by
       unfold K39
       refine bt (K91_eq hc hut n) ?_
       rw [hcnt];rfl
      refine bt e36 (bt e37 (bt e38 (bt e39 (bt (v:=true) ?_ rfl))))
      exact cnT (by simp) (cnT rfl (bt hno (cnT rfl (cnT rfl (bt K10_eq rfl)))))
   ·have hcnt:cntE c u n=codeE c u:=by unfold cntE;rw [decide_eq_false he];rfl
    have e36:K36 Ar.std (eCode c) (eTab u) n=some (0,codeE c u):=by
     unfold K36
     exact bt (K89_eq c hc u hut) (cnF (by simp [he]) rfl)
    have e37:K37 Ar.std (eCode c) (eTab u) n=some (0,codeE c u):=by
     unfold K37
     refine bt (K91_eq hc hut n) ?_
     rw [hcnt]
     exact cnF (by simp [he]) rfl
    have e38:K38 Ar.std (eCode c) (eTab u) n=some ([],codeE c u):=by
     unfold K38
     exact bt (K89_eq c hc u hut) (cnF (by simp [he]) rfl)
    have e39:K39 Ar.std (eCode c) (eTab u) n=some ([],codeE c u):=by
     unfold K39
     refine bt (K91_eq hc hut n) ?_
     rw [hcnt]
     exact cnF (by simp [he]) rfl
    refine bt e36 (bt e37 (bt e38 (bt e39 (bt (v:=true) ?_ rfl))))
    exact cnT (by simp) (cnT (by simp) (bt hno (cnT rfl (cnT (by simp) (bt K10_eq rfl)))))
end Go.Am
