/- Own text: ZL33. -/
import Derived.Test.YtkjeamngjnfpkaaGreatZL18
import Derived.Test.YtkjeamngjnfpkaaGreatZH12
set_option maxRecDepth 100000
set_option maxHeartbeats 2000000
set_option linter.unusedVariables false
set_option linter.unusedSimpArgs false
set_option linter.unusedSectionVars false
namespace Go.Am
open Go
def goF (s:Spec):List Int→Int×List Int→Int×List Int
 | [],p=>p
 | o::r,p=>goF s r (nx s.2.2.1 p.1 o,p.2++[nx s.2.2.2 p.1 o])
theorem goF_app (s:Spec) : ∀ (a b:List Int) (p:Int×List Int),goF s (a++b) p=goF s b (goF s a p)
 | [],_,_=>rfl
 | _::a,b,p=>goF_app s a b _
section
variable {s:Spec} (hs:TabOk s.2.2.1∧TabOk s.2.2.2) (hk:specOk s=true)
include hs hk
theorem spec_b:(1≤s.1∧s.1≤8)∧(1≤s.2.1∧s.2.1≤4):=⟨((specOk_iff s).1 hk).1,((specOk_iff s).1 hk).2.1⟩
theorem Z158c_eq (r:List Int) (hr:r.length<Lg) (t u:List D):Z158c Ar.std (eInts r) s.1 s.2.1 t u=some (r.any fun n => !btw 0 n (s.1-1)):=by
 have hb:=spec_b hs hk
 have hw:IntKind.i64.wrap (s.1-1)=s.1-1:=i64w _ (by omega) (by omega)
 have e:iter (Z189cL0 Ar.std (eInts r) s.1 s.2.1 t u) 0=some ((r.findIdx? fun n => !btw 0 n (s.1-1)).elim (.inl ()) (fun i => .inr (i:Int))):=by
  refine iter_find r _ _ _ (fun i n hn hi => ?_) ?_
  ·simp [Z189cL0,Z180,Z115_eq,gt_enc hn,hi,wrap1 hi hr,hw]
  ·simp [Z189cL0]
 simp only [Z158c,Z189c,e,bsome,find_elim,std_zle,find_le]
theorem Z158d_eq (r:List Int) (hr:r.length<Lg) (t u:List D):Z158d Ar.std (eInts r) s.1 s.2.1 t u=some (r.any fun n => !btw 0 n (s.2.1-1)):=by
 have hb:=spec_b hs hk
 have hw:IntKind.i64.wrap (s.2.1-1)=s.2.1-1:=i64w _ (by omega) (by omega)
 have e:iter (Z189dL0 Ar.std (eInts r) s.1 s.2.1 t u) 0=some ((r.findIdx? fun n => !btw 0 n (s.2.1-1)).elim (.inl ()) (fun i => .inr (i:Int))):=by
  refine iter_find r _ _ _ (fun i n hn hi => ?_) ?_
  ·simp [Z189dL0,Z197,Z115_eq,gt_enc hn,hi,wrap1 hi hr,hw]
  ·simp [Z189dL0]
 simp only [Z158d,Z189d,e,bsome,find_elim,std_zle,find_le]
theorem goF_loop (w:List Int) (hl:w.length≤20) (hi : ∀ o∈w,0≤o∧o<s.2.1) :
  iter (Z147L0 Ar.std (eTab s.2.2.1) (eTab s.2.2.2) (eInts w)) (0,[],0)=some ((goF s w (0,[])).1,eInts (goF s w (0,[])).2):=by
 have hb:=spec_b hs hk
 obtain ⟨_,_,ht1,ht2⟩:=(specOk_iff s).1 hk
 obtain ⟨p,⟨hp,_⟩,e⟩:=iter_rel (step:=Z147L0 Ar.std (eTab s.2.2.1) (eTab s.2.2.2) (eInts w)) w.length (fun (p:Int×List Int) (i:Nat)=>(p.1,eInts p.2,(i:Int)))
  (fun i p=>p=goF s (w.take i) (0,[])∧(0≤p.1∧p.1<s.1)∧p.2.length=i) (fun p=>(p.1,eInts p.2))
  (fun i p hi' ⟨hR,hb1,hn⟩=>by
   have hx:=List.getElem?_eq_getElem hi'
   have ho:=hi _ (List.getElem_mem hi')
   generalize w[i]=o at hx ho
   obtain ⟨r1,a1,a2,a3,a4⟩:=tab_get ht1 hb1.1 hb1.2 ho.1 ho.2
   obtain ⟨r2,b1,b2,_,_⟩:=tab_get ht2 hb1.1 hb1.2 ho.1 ho.2
   refine ⟨(nx s.2.2.1 p.1 o,p.2++[nx s.2.2.2 p.1 o]),⟨?_,⟨a3,by show nx s.2.2.1 p.1 o<s.1;omega⟩,by simp [hn]⟩,?_⟩
   ·rw [take_succ_get hx,goF_app,←hR];rfl
   ·unfold Z147L0
    refine cnT (by simp;omega) (bt (gt_enc hx) (bt (gt_eTabI hb1.1 b1) (bt (gt_encI ho.1 b2) (bt (ap_enc1 (c:=cI .i64) rfl (by omega)) (bt (gt_eTabI hb1.1 a1) (bt (gt_encI ho.1 a2) ?_))))))
    simp only [std_wrp,std_zadd,wrap1 (i:=i) (n:=200) (by omega) (by decide)])
  (fun p _=>by unfold Z147L0;exact cnF (by simp) rfl) (0,[]) ⟨rfl,⟨Int.le_refl _,by show (0:Int)<s.1;omega⟩,rfl⟩
 rw [List.take_length] at hp
 subst hp
 exact e
theorem Z98_eq (w:List Int) (hl:w.length≤20) (hi : ∀ o∈w,0≤o∧o<s.2.1) :
  Z98 Ar.std s.1 s.2.1 (eTab s.2.2.1) (eTab s.2.2.2) 0 (eInts w)=some (eInts (goF s w (0,[])).2,(goF s w (0,[])).1,0):=by
 have hb:=spec_b hs hk
 have e1:Z145 Ar.std s.1 s.2.1 (eTab s.2.2.1) (eTab s.2.2.2) (eInts [0])=some true:=by
  unfold Z145
  refine bt (Z158c_eq hs hk [0] (by decide) _ _) ?_
  simp [btw];omega
 have hl':w.length<Lg:=Nat.lt_of_le_of_lt hl (by decide)
 have e2:Z146 Ar.std s.1 s.2.1 (eTab s.2.2.1) (eTab s.2.2.2) (eInts w)=some true:=by
  unfold Z146
  refine bt (v:=true) ?_ rfl
  refine cnT (by simp;omega) (bt (v:=true) ?_ rfl)
  unfold Z181
  refine bt (Z158d_eq hs hk w hl' _ _) ?_
  have:(w.any fun n => !btw 0 n (s.2.1-1))=false:=by
   rw [List.any_eq_false]
   intro o ho
   have:=hi o ho
   rw [(btw_true _ _ _).2 (by omega)];simp
  rw [this];rfl
 have e3:Z143 Ar.std s.1 s.2.1 (eTab s.2.2.1) (eTab s.2.2.2) 0 (eInts w)=some (s.1,s.2.1,eTab s.2.2.1,eTab s.2.2.2,0):=by
  unfold Z143
  refine bt (Z81_eq s hs.1 hs.2) ?_
  rw [hk]
  refine cnT rfl (bt (v:=true) ?_ rfl)
  unfold Z144
  exact bt (v:=true) (bt e1 (cnT rfl (bt e2 rfl))) rfl
 unfold Z98
 refine bt e3 ?_
 refine cnT rfl (bt (v:=(eInts (goF s w (0,[])).2,(goF s w (0,[])).1)) ?_ rfl)
 unfold Z147
 exact bt (goF_loop hs hk w hl hi) rfl
end
theorem Z99_eq (a b:List Int) (hl:a.length<Lg):Z99 Ar.std (eInts a) (eInts b)=some (decide (a=b)):=by
 unfold Z99
 by_cases hn:a.length=b.length
 ·refine cnT (by simp [hn]) ?_
  have e:=iter_rng (step:=Z99L0 Ar.std (eInts a) (eInts b)) a.length (fun i => !decide (a[i]?=b[i]?)) (.inr ()) (.inl ()) (fun i hi=>by
   have h1:=List.getElem?_eq_getElem hi
   have h2:=List.getElem?_eq_getElem (show i<b.length by omega)
   unfold Z99L0
   refine cnT (by simp;omega) (bt (gt_enc h1) (bt (gt_enc h2) ?_))
   rw [h1,h2]
   cases hd:decide (a[i]=b[i]) with
   | true=>refine cnT hd ?_;simp only [std_wrp,std_zadd,wrap1 hi hl];simp [of_decide_eq_true hd]
   | false=>refine cnF hd ?_;simp [of_decide_eq_false hd]) (by unfold Z99L0;exact cnF (by simp) rfl)
  refine bt e ?_
  cases hb:(List.range a.length).any fun i => !decide (a[i]?=b[i]?) with
  | true =>
    obtain ⟨i,_,h⟩:=List.any_eq_true.1 hb
    have : ¬ a=b:=fun h'=>by subst h';simp at h
    rw [decide_eq_false this];rfl
  | false =>
    have:a=b:=by
     refine List.ext_getElem? fun i => ?_
     rcases Nat.lt_or_ge i a.length with h | h
     ·have:=(List.any_eq_false.1 hb) i (List.mem_range.2 h)
      simpa using this
     ·rw [List.getElem?_eq_none h,List.getElem?_eq_none (by omega)]
    rw [decide_eq_true this];rfl
 ·refine cnF (by simp;omega) ?_
  rw [decide_eq_false (fun h=>hn (by rw [h]))]
def opAt (h:List Call) (i:Nat):Int:=(h.getD i (0,0,0,0,0,0)).op
def saAt (h:List Call) (i:Nat):Int:=(h.getD i (0,0,0,0,0,0)).sa
def alwB (s:Spec) (h:List Call) (l:List Nat):Bool:=decide ((goF s (l.map (opAt h)) (0,[])).2=l.map (saAt h))
theorem Z57_eq {s:Spec} (hs:TabOk s.2.2.1∧TabOk s.2.2.2) (hk:specOk s=true) (h:List Call) (l:List Nat) (hl:l.length≤20) (hlt : ∀ i∈l,i<h.length) (hop : ∀ x∈h,0≤x.op∧x.op<s.2.1) :
  Z57 Ar.std s.1 s.2.1 (eTab s.2.2.1) (eTab s.2.2.2) (eCalls h) (eInts (cN' l))=some (alwB s h l):=by
 have hln:(cN' l).length=l.length:=by unfold cN';rw [List.length_map]
 obtain ⟨p,hp,e⟩:=iter_rel (step:=Z57L0 Ar.std (eCalls h) (eInts (cN' l))) l.length (fun (p:List Int×List Int) (i:Nat)=>(eInts p.1,eInts p.2,(i:Int)))
  (fun i p=>p=((l.take i).map (opAt h),(l.take i).map (saAt h))) (fun p=>(eInts p.1,eInts p.2))
  (fun i p hi hR=>by
   have hx:=List.getElem?_eq_getElem hi
   have hj:=hlt _ (List.getElem_mem hi)
   generalize l[i]=j at hx hj
   have hx':(cN' l)[i]?=some (j:Int):=by unfold cN';rw [List.getElem?_map,hx];rfl
   have hc:=List.getElem?_eq_getElem hj
   have e1:opAt h j=h[j].op:=by unfold opAt;rw [getD_get hc]
   have e2:saAt h j=h[j].sa:=by unfold saAt;rw [getD_get hc]
   refine ⟨(p.1++[h[j].op],p.2++[h[j].sa]),?_,?_⟩
   ·rw [hR,take_succ_get hx,List.map_append,List.map_append,←e1,←e2];rfl
   ·have b1:p.1.length≤20:=by rw [hR,List.length_map,List.length_take];omega
    have b2:p.2.length≤20:=by rw [hR,List.length_map,List.length_take];omega
    unfold Z57L0
    refine cnT (by rw [len_enc,hln];simp;omega) (bt (gt_enc hx') (bt (gt_enc hc) (bt (ap_enc1 (c:=cI .i64) rfl (by omega)) (bt (ap_enc1 (c:=cI .i64) rfl (by omega)) ?_))))
    simp only [std_wrp,std_zadd,wrap1 (i:=i) (n:=200) (by omega) (by decide)]
    rfl)
  (fun p _=>by unfold Z57L0;exact cnF (by rw [len_enc,hln];simp) rfl) ([],[]) rfl
 rw [List.take_length] at hp
 subst hp
 unfold Z57
 refine bt e ?_
 have hw:(l.map (opAt h)).length≤20:=by rw [List.length_map];exact hl
 refine bt (Z98_eq hs hk (l.map (opAt h)) hw (fun o ho=>by
  obtain ⟨i,hi,rfl⟩:=List.mem_map.1 ho
  have:=hlt i hi
  unfold opAt
  rw [getD_get (List.getElem?_eq_getElem this)]
  exact hop _ (List.getElem_mem this))) ?_
 refine bt (v:=alwB s h l) ?_ rfl
 refine cnT rfl (bt (Z99_eq _ _ ?_) rfl)
 have : ∀ (w:List Int) (p:Int×List Int),(goF s w p).2.length=p.2.length+w.length:=by
  intro w
  induction w with
  | nil=>intro p;rfl
  | cons o r ih=>intro p;show (goF s r _).2.length=_;rw [ih,List.length_append,List.length_cons];simp;omega
 rw [this]
 exact Nat.lt_of_le_of_lt (by simpa using hw) (by decide:20<Lg)
def visB (s:Spec) (u:Tab) (m:Mc):Bool:=bif overM u m then (bif ordOk u m then alwB s m.h (ordN m) else false) else true
theorem Z54_eq {s:Spec} (hs:TabOk s.2.2.1∧TabOk s.2.2.2) (hk:specOk s=true) {u:Tab} {m:Mc} (hI:MkI m) (hl:m.ms.length=m.h.length) (hst:m.st≤100) (h2:u.length≤2) (hh:m.h.length≤20) (hop : ∀ x∈m.h,0≤x.op∧x.op<s.2.1) (x1 x23:List D) :
  Z54 Ar.std x1 (eTab u) m.a.cl m.a.ln m.a.r0 m.a.r1 m.a.r2 m.a.r3 m.a.at_ m.b.cl m.b.ln m.b.r0 m.b.r1 m.b.r2 m.b.r3 m.b.at_ m.c0 m.c1 m.c2 m.st (eCalls m.h) (eInts m.ms) x23 s.1 s.2.1 (eTab s.2.2.1) (eTab s.2.2.2)=some (visB s u m):=by
 unfold Z54 visB
 refine bt (Z55_eq x1 m h2) ?_
 unfold overM
 cases hl2:leftM u m with
 | cons t r=>exact cnT (by simp <;> omega) rfl
 | nil =>
   refine cnF (by simp) (bt (Z56_eq hI hl hst h2 (by omega) x1) ?_)
   cases hok:ordOk u m with
   | false=>rfl
   | true =>
     have hlen:(ordN m).length≤20:=by
      have hz:zeroM m=false:=by
       unfold ordOk at hok
       rw [Bool.and_eq_true] at hok
       simpa using hok.2
      have:=(ordN_perm hI hl hz).length_eq
      rw [List.length_range] at this
      omega
     refine bt (v:=alwB s m.h (ordN m)) (cnT rfl (bt (Z57_eq hs hk m.h (ordN m) hlen (fun i hi=>((mem_ordN hI hl).1 hi).1) hop) rfl)) rfl
end Go.Am

set_option maxRecDepth 100000
set_option maxHeartbeats 2000000
set_option linter.unusedVariables false
set_option linter.unusedSimpArgs false
set_option linter.unusedSectionVars false
namespace Go.Am
open Go
theorem Z94b_rfl:Z94b=Z94:=rfl
theorem Z55a_eq {u:Tab} (x1:List D) (m:Mc) (h2:u.length≤2):Z55a Ar.std x1 (eTab u) m.a.cl m.a.ln m.a.r0 m.a.r1 m.a.r2 m.a.r3 m.a.at_ m.b.cl m.b.ln m.b.r0 m.b.r1 m.b.r2 m.b.r3 m.b.at_ m.c0 m.c1 m.c2 m.st (eCalls m.h) (eInts m.ms)=some (eInts (leftM u m)):=by
 unfold Z55a
 refine bt (left_it (n:=u.length) h2 (fun t=>hasM u t m) id (fun i o hi ho => ?_) (fun o => ?_)) rfl
 ·unfold Z55aL0
  rw [Z94b_rfl]
  refine cnT (by simp;omega) (bt (Z94_m x1 h2 (i:Int)) (bt (v:=eInts (bif hasM u (i:Int) m then o++[(i:Int)] else o)) ?_ ?_))
  ·cases hasM u (i:Int) m with
   | false=>rfl
   | true=>exact cnT rfl (bt (ap_enc1 (c:=cI .i64) rfl (by omega)) rfl)
  ·simp only [std_wrp,std_zadd,wrap1 hi (by omega)]
 ·unfold Z55aL0
  exact cnF (by simp) rfl
theorem leftM_len {u:Tab} (h2:u.length≤2) (m:Mc):(leftM u m).length≤2:=by
 unfold leftM
 rw [List.length_map]
 refine Nat.le_trans (List.length_filter_le _ _) ?_
 rw [List.length_range'];exact h2
theorem Z117_eq (l:List D) (h:l.length<4294967296):Z117 Ar.std l=some l:=by
 have e:ap Ar.std [] l=some l:=by simpa using ap_std (l:=[]) (m:=l) (by simpa using (by omega:(l.length:Int)<4294967296))
 unfold Z117
 cases l with
 | nil=>exact cnF rfl (by rw [e];exact both_self _)
 | cons x r=>exact cnT (by simp <;> omega) (by rw [e];rfl)
theorem scalInts (h:List Int):scalars (eInts h)=true:=by
 simp only [scalars,eInts,enc,List.all_map,List.all_eq_true]
 intro x _;rfl
def endsR (c:Code) (u:Tab) (mks:List Int):Nat→Mc→List Mc
 | 0,m=>[m]
 | k+1,m=>bif overM u m then [m] else (leftM u m).flatMap fun t=>endsR c u mks k (stepM c u mks t.toNat m)
theorem foldE_all {α X:Type} (p:α→Bool) (g:α→X) (G:X→Option Bool) (hG : ∀ a,G (g a)=some false) : ∀ l:List α,
  Sum.elim (fun _:Unit=>some true) G (foldE (fun (_:Unit) a=>bif p a then .inl () else .inr (.inr (g a))) (fun _=>(.inl ():Unit⊕X)) l ())=some (l.all p)
 | []=>rfl
 | a::r=>by
   rw [foldE_cons,List.all_cons]
   cases p a with
   | true=>exact foldE_all p g G hG r
   | false=>exact hG a
abbrev CellV:=List D→List D→Int→Int→Int→Int→Int→Int→Int→Int→Int→Int→Int→Int→Int→Int→Int→Int→Int→Int→List D→List D→Int→List D→List D→Int→Int→List D→List D→Option Bool
section
variable {s:Spec} (hs:TabOk s.2.2.1∧TabOk s.2.2.2) (hk:specOk s=true) {c:Code} {u:Tab} {mks:List Int} (hmk:MkOk c mks) (hv:vCode c=true) (hu:vUse c u=true) (ho:s.2.1=(c.length:Int))
def SelfV (s:Spec) (c:Code) (u:Tab) (mks:List Int) (k:Nat) (slf:CellV):Prop :=
 ∀ (m:Mc) (sch:List Int),MInv c u m→TInv c u m→MkI m→m.st+k=12→(sch.length:Int)≤m.st →
   slf (eCode c) (eTab u) m.a.cl m.a.ln m.a.r0 m.a.r1 m.a.r2 m.a.r3 m.a.at_ m.b.cl m.b.ln m.b.r0 m.b.r1 m.b.r2 m.b.r3 m.b.at_ m.c0 m.c1 m.c2 m.st (eCalls m.h) (eInts m.ms) 12 (eInts mks) (eInts sch) s.1 s.2.1 (eTab s.2.2.1) (eTab s.2.2.2)=some ((endsR c u mks k m).all (visB s u))
include hmk hv hu in
theorem tinv_next {m:Mc} (hi:MInv c u m) (hT:TInv c u m) {t:Int} (ht:hasM u t m=true):TInv c u (stepM c u mks t.toNat m):=by
 obtain ⟨h2,⟨g⟩⟩:=go1 hv hu hi (t:=t.toNat) (by
  have h0:0≤t:=by simp only [hasM,Bool.and_eq_true,btw_true] at ht;omega
  rw [Int.toNat_of_nonneg h0];exact ht)
 have T:=(tinv_step hi hT h2 g).1
 exact ⟨T.one,T.two,T.ops,T.le,T.st0⟩
include hs hk hmk hv hu ho
theorem visV_ok (k:Nat) (slf:CellV) (hself : ∀ k',k=k'+1→SelfV s c u mks k' slf):SelfV s c u mks k (Z36aB Ar.std slf):=by
 intro m sch hi hT hM hst hsch
 have h2:=ulen mks hmk hv hu
 have hhs:=hi.st
 have hms:=hi.ms
 have hst0:=hT.st0
 have hop : ∀ x∈m.h,0≤x.op∧x.op<s.2.1:=fun x hx=>by
  obtain ⟨_,_,h3,_⟩:=hT.one x hx
  rw [ho];exact h3
 unfold Z36aB
 refine bt (Z55a_eq (eCode c) m h2) ?_
 refine bt (v:=overM u m||decide (m.st=12)) ?_ ?_
 ·unfold overM
  cases hl:leftM u m with
  | nil=>rfl
  | cons t r=>exact cnF (by simp <;> omega) rfl
 ·cases hb:(overM u m||decide (m.st=12)) with
  | true =>
    have he:endsR c u mks k m=[m]:=by
     cases k with
     | zero=>rfl
     | succ k =>
       unfold endsR
       have:overM u m=true:=by
        rw [Bool.or_eq_true,decide_eq_true_eq] at hb
        rcases hb with h | h
        ·exact h
        ·omega
       rw [this,cond_true]
    rw [he]
    refine cnT rfl (bt (Z54_eq hs hk hM hms (by omega) h2 (by omega) hop _ _) ?_)
    simp
  | false =>
    rw [Bool.or_eq_false_iff,decide_eq_false_iff_not] at hb
    obtain ⟨k',rfl⟩ : ∃ k',k=k'+1:=⟨k-1,by have:=hb.2;omega⟩
    have hself:=hself k' rfl
    have hll:=leftM_len h2 m
    refine cnF rfl ?_
    have he:endsR c u mks (k'+1) m=(leftM u m).flatMap fun t=>endsR c u mks k' (stepM c u mks t.toNat m):=by
     show (bif overM u m then [m] else _)=_
     rw [hb.1,cond_false]
    rw [he,List.all_flatMap]
    refine bt (iter_list0 (leftM u m) (fun (_:Unit) (i:Nat)=>(i:Int)) (fun _ t=>bif (endsR c u mks k' (stepM c u mks t.toNat m)).all (visB s u) then .inl () else .inr (.inr (eCode c,eTab u,(stepM c u mks t.toNat m).a.cl,(stepM c u mks t.toNat m).a.ln,(stepM c u mks t.toNat m).a.r0,(stepM c u mks t.toNat m).a.r1,(stepM c u mks t.toNat m).a.r2,(stepM c u mks t.toNat m).a.r3,(stepM c u mks t.toNat m).a.at_,(stepM c u mks t.toNat m).b.cl,(stepM c u mks t.toNat m).b.ln,(stepM c u mks t.toNat m).b.r0,(stepM c u mks t.toNat m).b.r1,(stepM c u mks t.toNat m).b.r2,(stepM c u mks t.toNat m).b.r3,(stepM c u mks t.toNat m).b.at_,(stepM c u mks t.toNat m).c0,(stepM c u mks t.toNat m).c1,(stepM c u mks t.toNat m).c2,(stepM c u mks t.toNat m).st,eCalls (stepM c u mks t.toNat m).h,eInts (stepM c u mks t.toNat m).ms))) (fun _ => .inl ()) (fun i t _ hn hlt => ?_) (fun _ => ?_) ()) ?_
    ·have ht:=leftM_has (List.mem_of_getElem? hn)
     have hn1:=minv_next mks hmk hv hu hi ht
     have hsl:sl Ar.std (eInts sch) 0 (Ar.std.len (eInts sch))=some (eInts sch):=by
      rw [len_enc,sl_encT (Nat.le_refl _),List.take_length]
     unfold Z36aL0
     refine cnT (by simp;omega) (bt (gt_enc hn) (bt (v:=(eCode c,eTab u,m.a.cl,m.a.ln,m.a.r0,m.a.r1,m.a.r2,m.a.r3,m.a.at_,m.b.cl,m.b.ln,m.b.r0,m.b.r1,m.b.r2,m.b.r3,m.b.at_,m.c0,m.c1,m.c2,m.st,eCalls m.h,eInts m.ms)) ?_ (bt (Z84_m mks hmk hv hu hi (by omega) ht) (bt hsl (bt (v:=()) (by simp [ck]) (bt (ap_enc1 (c:=cI .i64) rfl (by omega)) (bt (hself (stepM c u mks t.toNat m) (sch++[t]) hn1 (tinv_next hmk hv hu hi hT ht) (mki_step mks hM hst0) (by show m.st+1+(k':Int)=12;omega) (by rw [List.length_append];show ((sch.length+1:Nat):Int)≤m.st+1;omega)) ?_)))))))
     ·unfold Z83
      exact bt (Z117_eq _ (by simp;omega)) (bt (v:=()) (by rw [scalCalls];rfl) (bt (Z39_eq (c:=[]) ⟨by decide,fun r h=>by cases h⟩ (u:=[]) ⟨by decide,fun r h=>by cases h⟩ (sch:=[]) (by decide) _ (by simp;omega)) (bt (v:=()) (by rw [scalInts];rfl) rfl)))
     ·cases (endsR c u mks k' (stepM c u mks t.toNat m)).all (visB s u) with
      | true =>
        refine cnT rfl ?_
        simp only [std_wrp,std_zadd,wrap1 hlt (by omega)];rfl
      | false=>exact cnF rfl rfl
    ·unfold Z36aL0;exact cnF (by simp) rfl
    ·refine foldE_all (fun t:Int=>(endsR c u mks k' (stepM c u mks t.toNat m)).all (visB s u)) _ _ ?_ _
     intro a;rfl
theorem Z36aR_ok : ∀ (k j:Nat),k<j→SelfV s c u mks k (Z36aR Ar.std j)
 | k,0,h=>by omega
 | k,j+1,h=>visV_ok hs hk hmk hv hu ho k (Z36aR Ar.std j) fun k' hk'=>Z36aR_ok k' j (by omega)
theorem Z36_ok:Z36 Ar.std (eCode c) (eTab u) 0 0 0 0 0 0 0 0 0 0 0 0 0 0 0 0 0 0 12 (eInts mks) [] s.1 s.2.1 (eTab s.2.2.1) (eTab s.2.2.2) [] []=some ((endsR c u mks 12 mc0).all (visB s u)) :=
 visV_ok hs hk hmk hv hu ho 12 (Z36a Ar.std) (fun k' hk'=>Z36aR_ok hs hk hmk hv hu ho k' fuel (by unfold fuel;omega)) mc0 [] (minv0 c u) (tinv0 c u) mki0 (by simp [mc0]) (by simp [mc0])
end
end Go.Am

set_option maxRecDepth 100000
set_option maxHeartbeats 2000000
set_option linter.unusedVariables false
set_option linter.unusedSimpArgs false
set_option linter.unusedSectionVars false
namespace Go.Am
open Go
def er (m:Mc):Mc:={ m with ms:=[] }
theorem er_mk (m:Mc):m={ er m with ms:=m.ms }:=rfl
theorem er_has (u:Tab) (t:Int) (m:Mc):hasM u t (er m)=hasM u t m:=rfl
theorem er_left (u:Tab) (m:Mc):leftM u (er m)=leftM u m:=rfl
theorem er_step1 (c:Code) (u:Tab) (mks mks':List Int) (t:Nat) (e:Mc) (x y:List Int):er (stepM c u mks t { e with ms:=x })=er (stepM c u mks' t { e with ms:=y }):=by
 have hx : ∀ z:List Int,({ e with ms:=z }:Mc).hd t=e.hd t:=fun _=>rfl
 unfold er stepM stH stX stL stB
 simp only [hx]
 cases (e.hd t).inn with
 | true=>rfl
 | false=>rfl
theorem er_step {c:Code} {u:Tab} (mks mks':List Int) (t:Nat) {m m':Mc} (h:er m=er m'):er (stepM c u mks t m)=er (stepM c u mks' t m'):=by
 rw [er_mk m,er_mk m',h]
 exact er_step1 c u mks mks' t (er m') m.ms m'.ms
theorem runS_er {c:Code} {u:Tab} (mks mks':List Int) : ∀ (sch:List Int) (m m':Mc),er m=er m'→(runS c u mks sch m).2=(runS c u mks' sch m').2∧er (runS c u mks sch m).1=er (runS c u mks' sch m').1
 | [],m,m',h=>⟨rfl,h⟩
 | t::r,m,m',h=>by
   have e:hasM u t m=hasM u t m':=by rw [←er_has u t m,←er_has u t m',h]
   unfold runS
   rw [←e]
   cases hasM u t m with
   | false=>exact ⟨rfl,h⟩
   | true=>exact runS_er mks mks' r _ _ (er_step mks mks' _ h)
theorem has_left {u:Tab} {m:Mc} {t:Int} (h:hasM u t m=true):t∈leftM u m:=by
 have hb:=h
 simp only [hasM,Bool.and_eq_true,btw_true] at hb
 unfold leftM
 refine List.mem_map.2 ⟨t.toNat,List.mem_filter.2 ⟨List.mem_range'.2 ⟨t.toNat,by omega,by omega⟩,?_⟩,by omega⟩
 rw [Int.toNat_of_nonneg (by omega)];exact h
theorem runS_ends {c:Code} {u:Tab} {mks:List Int} : ∀ (sch:List Int) (m:Mc) (k:Nat),(runS c u mks sch m).2=true→overM u (runS c u mks sch m).1=true→sch.length≤k→(runS c u mks sch m).1∈endsR c u mks k m
 | [],m,0,_,_,_=>List.mem_singleton.2 rfl
 | [],m,k+1,_,ho,_=>by
   have ho:overM u m=true:=ho
   unfold endsR
   rw [ho]
   exact List.mem_singleton.2 rfl
 | t::r,m,0,_,_,hl=>by simp at hl
 | t::r,m,k+1,hd,ho,hl=>by
   unfold runS at hd ho ⊢
   cases ht:hasM u t m with
   | false=>rw [ht] at hd;cases hd
   | true =>
     rw [ht,cond_true] at hd ho
     rw [cond_true]
     have hm:=has_left ht
     have hov:overM u m=false:=by
      unfold overM
      cases hq:leftM u m with
      | nil=>rw [hq] at hm;cases hm
      | cons _ _=>rfl
     unfold endsR
     rw [hov,cond_false]
     exact List.mem_flatMap.2 ⟨t,hm,runS_ends r _ k hd ho (by simpa using hl)⟩
structure TMk (m:Mc):Prop where
 tm : ∀ (i:Nat) (x:Int) (y:Call),m.ms[i]?=some x→m.h[i]?=some y→x≠0→y.fr≤2*x-1∧(y.to=0∨2*x≤y.to)
theorem tmk0:TMk mc0:=⟨fun i x y h=>by simp [mc0] at h⟩
section
variable {c:Code} {u:Tab} {t:Nat} {m:Mc}
theorem tmk_step (mks:List Int) (hi:MInv c u m) (hT:TInv c u m) (hM:MkI m) (hK:TMk m) (ht:t<2) (g:Go1 c u t m):TMk (stepM c u mks t m):=by
 have B:=binv (u:=u) hi ht
 have T:=tb hi hT ht g
 have hst:=hT.st0
 obtain ⟨x0,hx0,hx1,hx2,hx3⟩:=B.here
 obtain ⟨d0,d1,d2,d3⟩:=B.reg
 obtain ⟨e0,e1,e2⟩:=hi.cel

 have hA : ∀ (i:Nat) (x:Int) (y:Call),(stB u t m).2.2.2.2.2.2[i]?=some x→(stB u t m).2.2.2.2.2.1[i]?=some y→x≠0→(y.fr≤2*x-1∧(y.to=0∨2*x≤y.to))∧x≤m.st:=by
  intro i x y h1 h2 hne
  cases hin:(m.hd t).inn with
  | true =>
    have e:stB u t m=((m.hd t).r0,(m.hd t).r1,(m.hd t).r2,(m.hd t).r3,(m.hd t).at_,m.h,m.ms):=by unfold stB beg;rw [hin];rfl
    rw [e] at h1 h2
    exact ⟨hK.tm i x y h1 h2 hne,(hM.rng i x h1).2⟩
  | false =>
    have e:stB u t m=(0,1,0,0,(m.h.length:Int),m.h++[((t:Int),0,opOf u t (m.hd t).cl,0,2*m.st+1,0)],m.ms++[0]):=by unfold stB beg;rw [hin];rfl
    rw [e] at h1 h2
    replace h1:(m.ms++[0])[i]?=some x:=h1
    replace h2:(m.h++[((t:Int),0,opOf u t (m.hd t).cl,0,2*m.st+1,0)])[i]?=some y:=h2
    have hms:=hi.ms
    rcases Nat.lt_or_ge i m.ms.length with h | h
    ·rw [List.getElem?_append_left h] at h1
     rw [List.getElem?_append_left (by omega)] at h2
     exact ⟨hK.tm i x y h1 h2 hne,(hM.rng i x h1).2⟩
    ·rw [List.getElem?_append_right h] at h1
     match hq:i-m.ms.length,h1 with
     | 0,h1=>simp at h1;exact absurd h1.symm hne
     | k+1,h1=>simp at h1

 have hs:(stepM c u mks t m).ms=mkd mks (opOf u t (m.hd t).cl) (m.hd t).ln (stB u t m).2.2.2.2.1 (m.st+1) (stB u t m).2.2.2.2.2.2:=rfl
 have hB : ∀ (i:Nat) (x:Int),(stepM c u mks t m).ms[i]?=some x→(stB u t m).2.2.2.2.2.2[i]?=some x∨(i=(stB u t m).2.2.2.2.1.toNat∧x=m.st+1):=by
  intro i x hx
  rw [hs] at hx
  unfold mkd at hx
  cases hmk:hasMk mks (opOf u t (m.hd t).cl) (m.hd t).ln with
  | false=>rw [hmk] at hx;exact .inl hx
  | true =>
    rw [hmk,cond_true] at hx
    by_cases h:(stB u t m).2.2.2.2.1.toNat=i
    ·subst h
     have hl:=(List.getElem?_eq_some_iff.1 hx).1
     rw [List.length_set] at hl
     rw [List.getElem?_set_self hl] at hx
     exact .inr ⟨rfl,(Option.some.inj hx).symm⟩
    ·rw [List.getElem?_set_ne h] at hx
     exact .inl hx

 have hC : ∀ (i:Nat) (y:Call),(stepM c u mks t m).h[i]?=some y → ∃ z,(stB u t m).2.2.2.2.2.1[i]?=some z∧y.fr=z.fr∧(y.to=z.to∨(i=(stB u t m).2.2.2.2.1.toNat∧y.to=2*(m.st+1))):=by
  intro i y hy
  by_cases h7:(stL c u t m).1=7
  ·have e:stX c u t m=_:=xLn_7 (st:=m.st+1) (cl:=(m.hd t).cl) (ln:=(m.hd t).ln) (r0:=(stB u t m).1) (r1:=(stB u t m).2.1) (r2:=(stB u t m).2.2.1) (r3:=(stB u t m).2.2.2.1) (c0:=m.c0) (c1:=m.c1) (c2:=m.c2) h7 hx0
   have eh:(stepM c u mks t m).h=(stB u t m).2.2.2.2.2.1.set (stB u t m).2.2.2.2.1.toNat (x0.1,x0.2.1,x0.2.2.1,rg4 (stB u t m).1 (stB u t m).2.1 (stB u t m).2.2.1 (stB u t m).2.2.2.1 (stL c u t m).2.1,x0.2.2.2.2.1,2*(m.st+1)):=by
    show (stX c u t m).2.2.2.2.2.2.2.2.2=_;rw [e]
   rw [eh] at hy
   by_cases h:(stB u t m).2.2.2.2.1.toNat=i
   ·subst h
    have hl:=(List.getElem?_eq_some_iff.1 hx0).1
    rw [List.getElem?_set_self hl] at hy
    have:=(Option.some.inj hy).symm
    subst this
    exact ⟨x0,hx0,rfl,.inr ⟨rfl,rfl⟩⟩
   ·rw [List.getElem?_set_ne h] at hy
    exact ⟨y,hy,rfl,.inl rfl⟩
  ·have e:=(xLn_ne7 (l:=stL c u t m) (st:=m.st+1) (cl:=(m.hd t).cl) (ln:=(m.hd t).ln) (at_:=(stB u t m).2.2.2.2.1) (h:=(stB u t m).2.2.2.2.2.1) (okCall_line g.call g.hl) h7 d0 d1 d2 d3 e0 e1 e2).2.2.2.2
   have eh:(stepM c u mks t m).h=(stB u t m).2.2.2.2.2.1:=e
   rw [eh] at hy
   exact ⟨y,hy,rfl,.inl rfl⟩
 refine ⟨fun i x y hx hy hne => ?_⟩
 obtain ⟨z,hz,ez,hto⟩:=hC i y hy
 rw [ez]
 rcases hB i x hx with h | ⟨hI,hxe⟩
 ·obtain ⟨⟨a,b⟩,hle⟩:=hA i x z h hz hne
  refine ⟨a,?_⟩
  rcases hto with h | ⟨_,h⟩
  ·rw [h];exact b
  ·right;rw [h];omega
 ·subst hI
  rw [hx0] at hz
  have:=Option.some.inj hz
  subst this
  have h1:=(T.one x0 (List.mem_of_getElem? hx0)).1
  obtain ⟨_,_,_,_,f,_⟩:=h1
  refine ⟨by omega,?_⟩
  rcases hto with h | ⟨_,h⟩
  ·left;rw [h];exact hx3
  ·right;rw [h];omega
end
theorem runS_all {c:Code} {u:Tab} {mks:List Int} (hmk:MkOk c mks) (hv:vCode c=true) (hu:vUse c u=true) : ∀ (sch:List Int) (m:Mc),MInv c u m→TInv c u m→MkI m→TMk m →
  MInv c u (runS c u mks sch m).1∧TInv c u (runS c u mks sch m).1∧MkI (runS c u mks sch m).1∧TMk (runS c u mks sch m).1
 | [],m,a,b,d,e=>⟨a,b,d,e⟩
 | t::r,m,a,b,d,e=>by
   unfold runS
   cases ht:hasM u t m with
   | false=>exact ⟨a,b,d,e⟩
   | true =>
     have h0:0≤t:=by simp only [hasM,Bool.and_eq_true,btw_true] at ht;omega
     obtain ⟨h2,⟨g⟩⟩:=go1 hv hu a (t:=t.toNat) (by rw [Int.toNat_of_nonneg h0];exact ht)
     exact runS_all hmk hv hu r _ (minv_next mks hmk hv hu a ht) (tinv_next hmk hv hu a b ht) (mki_step mks d b.st0) (tmk_step mks a b d e h2 g)
section
variable {m:Mc} (hI:MkI m) (hK:TMk m) (hl:m.ms.length=m.h.length) (hz:zeroM m=false)
include hI hK hl hz
theorem ord_keeps:keepsL bef m.h (cN (ordN m))=true:=by
 rw [keepsL_iff]
 unfold cN
 rw [List.pairwise_map]
 refine (List.Pairwise.imp_of_mem (R:=fun i j=>keyM m i<keyM m j) (fun {i j} hi hj h => ?_) (ordN_pw hI hl))
 have hi':=((mem_ordN hI hl).1 hi).1
 have hj':=((mem_ordN hI hl).1 hj).1
 have ci:=List.getElem?_eq_getElem hi'
 have cj:=List.getElem?_eq_getElem hj'
 rw [hc_nat ci,hc_nat cj]
 have nz : ∀ i:Nat,i<m.h.length→keyM m i≠0:=fun i hi h0=>by
  have:=zeroM_iff.2 ⟨i,by rw [keyM_get (m:=m) (i:=i) (by omega),h0]⟩
  rw [hz] at this;cases this
 have a:=hK.tm i _ _ (keyM_get (by omega)) ci (nz i hi')
 have b:=hK.tm j _ _ (keyM_get (by omega)) cj (nz j hj')
 unfold bef
 rw [Bool.and_eq_false_iff,decide_eq_false_iff_not,decide_eq_false_iff_not]
 by_cases h0:m.h[j].to=0
 ·left;simpa using h0
 ·right
  have:=b.2.resolve_left h0
  omega
theorem ord_is:isL m.h (cN (ordN m))=true:=by
 unfold isL
 rw [Bool.and_eq_true]
 constructor
 ·rw [nums_iff]
  refine ⟨fun x hx => ?_,nodup_cN.2 (ordN_nodup hI hl)⟩
  obtain ⟨i,hi,rfl⟩:=List.mem_map.1 hx
  rw [inH_iff]
  have:=((mem_ordN hI hl).1 hi).1
  omega
 ·rw [full_iff]
  intro i x hx _
  have hlt:=(List.getElem?_eq_some_iff.1 hx).1
  refine List.mem_map.2 ⟨i,(mem_ordN hI hl).2 ⟨hlt,fun h0 => ?_⟩,rfl⟩
  have:=zeroM_iff.2 ⟨i,h0⟩
  rw [hz] at this;cases this
end
theorem goF_snd (s:Spec) : ∀ (w:List Int) (p:Int×List Int),(goF s w p).2=p.2++(goF s w (p.1,[])).2
 | [],p=>by simp [goF]
 | o::r,p=>by
   show (goF s r _).2=p.2++(goF s r _).2
   rw [goF_snd s r,goF_snd s r (_,[]++_)]
   simp [List.append_assoc]
theorem alw_allows {s:Spec} {h:List Call} : ∀ (l:List Nat) (now z:Int),(∀ i∈l,i<h.length)→(∀ x∈h,x.ob=0)→(goF s (l.map (opAt h)) (now,[])).2=l.map (saAt h)→allowsF [s] h (cN l) (now,z)=true
 | [],_,_,_,_,_=>rfl
 | i::r,now,z,hlt,hob,he=>by
   have hi:=hlt i (List.mem_cons_self ..)
   have ci:=List.getElem?_eq_getElem hi
   have hb:=hob _ (List.getElem_mem hi)
   have e1:opAt h i=h[i].op:=by unfold opAt;rw [getD_get ci]
   have e2:saAt h i=h[i].sa:=by unfold saAt;rw [getD_get ci]
   have he':(goF s (r.map (opAt h)) (nx s.2.2.1 now h[i].op,[]++[nx s.2.2.2 now h[i].op])).2=h[i].sa::r.map (saAt h):=by rw [←e1,←e2];exact he
   rw [goF_snd] at he'
   have h1:nx s.2.2.2 now h[i].op=h[i].sa:=(List.cons.inj he').1
   have h2:(goF s (r.map (opAt h)) (nx s.2.2.1 now h[i].op,[])).2=r.map (saAt h):=(List.cons.inj he').2
   have hsp:spOf [s] h[i]=s:=by unfold spOf;rw [hb];rfl
   have hnow:nowOf h[i] (now,z)=now:=by unfold nowOf;rw [hb];rfl
   show (okS [s] (Go.Am.hc h (i:Int)) (now,z)&&allowsF [s] h (cN r) (doS [s] (Go.Am.hc h (i:Int)) (now,z)))=true
   rw [hc_nat ci]
   have hd:doS [s] h[i] (now,z)=(nx s.2.2.1 now h[i].op,z):=by
    unfold doS
    rw [hsp,hnow,hb];rfl
   have ho:okS [s] h[i] (now,z)=true:=by
    unfold okS
    rw [hsp,hnow,decide_eq_true h1,Bool.or_true]
   rw [hd,ho,Bool.true_and]
   exact alw_allows r _ z (fun j hj=>hlt j (List.mem_cons_of_mem _ hj)) hob h2
section
variable {s:Spec} (hk:specOk s=true) {c:Code} {u:Tab} (hv:vCode c=true) (hu:vUse c u=true) (ho:s.2.1=(c.length:Int)) {m:Mc} (hT:TInv c u m) (hst:m.st≤12)
include hk hv hu ho hT hst
theorem run_err:errH [s] m.h=0:=by
 have h1:areS [s]=true:=by
  unfold areS
  rw [List.all_cons,hk];rfl
 have h2:forH [s] m.h=true:=by
  unfold forH
  rw [run_valid hv hu hT hst,Bool.true_and,List.all_eq_true]
  intro x hx
  obtain ⟨_,b,d,_⟩:=hT.one x hx
  unfold fitC
  rw [b]
  show decide (x.op<s.2.1)=true
  rw [ho]
  exact decide_eq_true d.2
 unfold errH
 rw [h1,h2];rfl
theorem marked_ok (hI:MkI m) (hK:TMk m) (hl:m.ms.length=m.h.length) (hov:overM u m=true) (hvis:visB s u m=true) :
  ordOk u m=true∧isOrd [s] m.h (cN (ordN m))=true∧linB s m.h=true:=by
 have hok:ordOk u m=true:=by
  unfold visB at hvis
  rw [hov,cond_true] at hvis
  cases h:ordOk u m with
  | true=>rfl
  | false=>rw [h] at hvis;cases hvis
 have hz:zeroM m=false:=by
  have:=hok
  unfold ordOk at this
  rw [Bool.and_eq_true] at this
  simpa using this.2
 have halw:alwB s m.h (ordN m)=true:=by
  unfold visB at hvis
  rw [hov,hok] at hvis
  exact hvis
 have hob : ∀ x∈m.h,x.ob=0:=fun x hx=>(hT.one x hx).2.1
 have hall:allowsL [s] m.h (cN (ordN m))=true :=
  alw_allows (ordN m) 0 0 (fun i hi=>((mem_ordN hI hl).1 hi).1) hob (of_decide_eq_true halw)
 have his:isOrd [s] m.h (cN (ordN m))=true:=by
  unfold isOrd
  rw [ord_is hI hK hl hz,ord_keeps hI hK hl hz,hall];rfl
 have hcall : ∀ c∈m.h,callOk c=true:=(validH_ok (run_valid hv hu hT hst)).2
 refine ⟨hok,his,?_⟩
 have hm:=(mem_ords0 (S:=[s]) hcall (bef_must hcall) (ordN m)).2 his
 unfold linB
 rw [run_err hk hv hu ho hT hst]
 cases hq:ords0 [s] m.h with
 | nil =>
   unfold ords0 at hq
   rw [hq] at hm;cases hm
 | cons _ _=>rfl
end
end Go.Am

set_option maxRecDepth 100000
set_option maxHeartbeats 2000000
set_option linter.unusedVariables false
set_option linter.unusedSimpArgs false
set_option linter.unusedSectionVars false
namespace Go.Am
open Go
theorem nk_no {b:Bool} (h:b=false):nk b=some ():=by rw [h];rfl
def mkAt (c:Code) (ms:List Int) (i:Nat):Int:=bif decide (i<ms.length) then (ms.getD i 0).tmod (((c.getD i []).length:Nat):Int) else 0
def mkOf (c:Code) (ms:List Int):List Int:=(List.range c.length).map (mkAt c ms)
theorem mkOf_len (c:Code) (ms:List Int):(mkOf c ms).length=c.length:=by unfold mkOf;rw [List.length_map,List.length_range]
section
variable {c:Code} (hc:CodeOk c) (hv:vCode c=true) {ms:List Int} (hm : ∀ n∈ms,0≤n∧n<256)
include hc hv hm
theorem row_len {i:Nat} (hi:i<c.length):c[i]?=some (c.getD i [])∧1≤(c.getD i []).length∧(c.getD i []).length≤8:=by
 have h:=List.getElem?_eq_getElem hi
 rw [getD_get h]
 refine ⟨h,?_⟩
 have:=vCode_call hv h
 unfold okCall at this
 rw [Bool.and_eq_true,btw_true] at this
 omega
theorem mkAt_b {i:Nat} (hi:i<c.length):0≤mkAt c ms i∧mkAt c ms i≤(((c.getD i []).length:Nat):Int)-1:=by
 have hr:=row_len hc hv hm hi
 unfold mkAt
 by_cases h:i<ms.length
 ·rw [decide_eq_true h,cond_true]
  have hx:=List.getElem?_eq_getElem h
  have hn:=hm _ (List.getElem_mem h)
  rw [getD_get hx]
  rw [Int.tmod_eq_emod_of_nonneg hn.1]
  have h1:=Int.emod_nonneg ms[i] (show (((c.getD i []).length:Nat):Int)≠0 by omega)
  have h2:=Int.emod_lt_of_pos ms[i] (show (0:Int)<(((c.getD i []).length:Nat):Int) by omega)
  omega
 ·rw [decide_eq_false h,cond_false];omega
theorem mkOf_is:isMk c (mkOf c ms)=true:=by
 unfold isMk
 rw [mkOf_len,decide_eq_true rfl,Bool.true_and,Bool.not_eq_true',List.any_eq_false]
 intro i hi
 rw [List.mem_range] at hi
 have hb:=mkAt_b hc hv hm hi
 have e:(mkOf c ms).getD i 0=mkAt c ms i:=by
  refine getD_get ?_
  unfold mkOf
  rw [List.getElem?_map,List.getElem?_range hi];rfl
 unfold mkBad
 rw [e,(btw_true _ _ _).2 hb];simp
theorem Z7L0_it:iter (Z7L0 Ar.std (eCode c) (enc (cI .u8) ms)) ([],0)=some (eInts (mkOf c ms)):=by
 have h4:c.length≤4:=by simp only [vCode,Bool.and_eq_true,btw_true] at hv;omega
 obtain ⟨p,hp,e⟩:=iter_rel (step:=Z7L0 Ar.std (eCode c) (enc (cI .u8) ms)) c.length (fun (p:List Int) (i:Nat)=>(eInts p,(i:Int)))
  (fun i p=>p=(List.range i).map (mkAt c ms)) (fun p=>eInts p)
  (fun i p hi hR=>by
   subst hR
   obtain ⟨r1,r2,r3⟩:=row_len hc hv hm hi
   refine ⟨(List.range (i+1)).map (mkAt c ms),rfl,?_⟩
   unfold Z7L0
   refine cnT (by simp;omega) (bt (v:=mkAt c ms i) ?_ (bt (ap_enc1 (c:=cI .i64) rfl (by simp;omega)) ?_))
   ·unfold mkAt
    by_cases h:i<ms.length
    ·have hx:=List.getElem?_eq_getElem h
     have hn:=hm _ (List.getElem_mem h)
     rw [decide_eq_true h,cond_true,getD_get hx]
     refine cnT (by simp;omega) (bt (gt_enc hx) (bt (gt_eCode r1) (bt (nk_no (by rw [len_enc,std_zeq,decide_eq_false_iff_not];omega)) ?_)))
     rw [std_rem,std_wrp,i64w _ (by omega) (by omega),len_enc]
    ·rw [decide_eq_false h]
     exact cnF (by simp;omega) rfl
   ·simp only [std_wrp,std_zadd,wrap1 (i:=i) (n:=200) (by omega) (by decide)]
    rw [List.range_succ,List.map_append];rfl)
  (fun p _=>by unfold Z7L0;exact cnF (by simp) rfl) [] rfl
 subst hp
 exact e
end
theorem Z16_ok {s:Spec} (hs:TabOk s.2.2.1∧TabOk s.2.2.2) (hk:specOk s=true) {c:Code} (hc:CodeOk c) {u:Tab} (hut:TabOk u) (hv:vCode c=true) (hu:vUse c u=true) (ho:s.2.1=(c.length:Int)) {mks:List Int} (hlm:mks.length<Lg) (hmk:isMk c mks=true) :
  Z16 Ar.std s.1 s.2.1 (eTab s.2.2.1) (eTab s.2.2.2) (eCode c) (eTab u) (eInts mks)=some ((endsR c u mks 12 mc0).all (visB s u),0):=by
 have hsp:specE s c u=0:=by
  unfold specE
  rw [hv,hk,hu,decide_eq_true ho];rfl
 have hmk':MkOk c mks:=by
  unfold isMk at hmk
  rw [Bool.and_eq_true,decide_eq_true_eq] at hmk
  exact .inr hmk.1
 unfold Z16
 refine bt (Z33_eq s hs c hc u hut) ?_
 rw [hsp]
 refine cnT rfl (bt (Z53_eq hc hlm) ?_)
 rw [hmk]
 exact cnT rfl (bt (v:=(eCode c,eTab u)) rfl (bt (Z36_ok hs hk hmk' hv hu ho) rfl))
theorem Z7_ok (s:Spec) (hs:TabOk s.2.2.1∧TabOk s.2.2.2) (c:Code) (hc:CodeOk c) (u:Tab) (hut:TabOk u) (ms:List Int) (hm : ∀ n∈ms,0≤n∧n<256) (ps:List Int) (hp : ∀ n∈ps,0≤n∧n<256) :
  Z7 Ar.std s.1 s.2.1 (eTab s.2.2.1) (eTab s.2.2.2) (eCode c) (eTab u) (enc (cI .u8) ms) (enc (cI .u8) ps)=some true:=by
 unfold Z7
 refine bt (v:=bif isCaseB s c u then (bif decide (60<(ps.length:Int)) then true else decide (60<(ms.length:Int))) else true) (bt (Z8_eq s hs c hc u hut) ?_) ?_
 ·cases isCaseB s c u with
  | true=>simp only [cond_true,len_enc,std_zlt];cases decide (60<(ps.length:Int)) <;> rfl
  | false=>rfl
 cases hcase:isCaseB s c u with
 | false=>exact cnT rfl (bt Z9_eq rfl)
 | true =>
   rw [cond_true]
   cases hbig:(bif decide (60<(ps.length:Int)) then true else decide (60<(ms.length:Int))) with
   | true=>exact cnT rfl (bt Z9_eq rfl)
   | false =>
     refine cnF rfl (bt (Z7L0_it hc (by simp only [isCaseB,Bool.and_eq_true] at hcase;exact hcase.2.1) hm) ?_)
     simp only [isCaseB,Bool.and_eq_true,decide_eq_true_eq] at hcase
     obtain ⟨_,hv,hk,ho,hu⟩:=hcase
     have hmk:=mkOf_is hc hv hm
     have h4:c.length≤4:=by
      have:=hv
      simp only [vCode,Bool.and_eq_true,btw_true] at this;omega
     have hlm:(mkOf c ms).length<Lg:=by rw [mkOf_len];exact Nat.lt_of_le_of_lt h4 (by decide)
     have hmk':MkOk c (mkOf c ms) := .inr (mkOf_len c ms)
     obtain ⟨sch,e28,hsl,hd⟩:=Z28_eq hc hut hv hu s.1 s.2.1 (eTab s.2.2.1) (eTab s.2.2.2) ps hp
     have hlg:sch.length<Lg:=Nat.lt_of_le_of_lt hsl (by decide)
     generalize mkOf c ms=mks at hmk hlm hmk'
     refine bt (Z16_ok hs hk hc hut hv hu ho hlm hmk) (bt e28 (bt (v:=false) (cnT rfl rfl) (cnF rfl (bt (Z26_eq hc hut hlg hlm) ?_))))

     have hcode:codeE c u=0:=by unfold codeE;rw [hv,hu];rfl
     have hspec:specE s c u=0:=by unfold specE;rw [hv,hk,hu,decide_eq_true ho];rfl
     obtain ⟨hr2,her⟩:=runS_er (c:=c) (u:=u) [] mks sch mc0 mc0 rfl
     have hA:=runS_all hmk' hv hu sch mc0 (minv0 c u) (tinv0 c u) mki0 tmk0
     have hst:=runS_len c u mks sch mc0 (minv0 c u) hmk' hv hu
     have hends:=runS_ends (c:=c) (u:=u) (mks:=mks) sch mc0 12
     have hdone : ∀ l:List Int,doneS c u sch l=runS c u l sch mc0:=fun l=>by unfold doneS;rw [decide_eq_false (by omega)];rfl
     have hd2:(runS c u mks sch mc0).2=true:=by rw [←hr2];exact hd
     have hh:(runS c u [] sch mc0).1.h=(runS c u mks sch mc0).1.h:=by
      have:(er (runS c u [] sch mc0).1).h=(er (runS c u mks sch mc0).1).h:=by rw [her]
      exact this
     have hleft:leftM u (runS c u [] sch mc0).1=leftM u (runS c u mks sch mc0).1:=by rw [←er_left,her,er_left]
     rw [hleft]
     have horder:orderOf c u sch mks=bif ordOk u (runS c u mks sch mc0).1 then (cN' (ordN (runS c u mks sch mc0).1),0) else ([],5):=by
      unfold orderOf
      rw [decide_eq_true hcode,hmk,hdone,hd2];rfl
     have e15:Z15 Ar.std (eCode c) (eTab u) (eInts sch)=some (eCalls (runS c u mks sch mc0).1.h,0):=by
      have:=Z15_eq hc hut hlg
      rw [runOf_ok hv hu sch hsl hd,hh] at this;exact this
     have e24:Z24 Ar.std s.1 s.2.1 (eTab s.2.2.1) (eTab s.2.2.2) (eCode c) (eTab u) (eInts sch)=some (!linB s (runS c u mks sch mc0).1.h,0):=by
      have:=Z24_eq hs hc hut hlg
      unfold breakR at this
      rw [decide_eq_true hspec,hdone,hd,hh] at this;exact this
     rw [horder]
     generalize (runS c u mks sch mc0).1=m at *
     obtain ⟨i1,i2,i3,i4⟩:=hA
     have hst12:m.st≤12:=by
      have:mc0.st=0:=rfl
      omega
     have hms:=i1.ms
     have hhl:m.h.length<Lg:=by
      have:=i1.st
      show m.h.length<9223372036854775808
      omega
     have herr:=run_err hk hv hu ho i2 hst12

     have hmain:(endsR c u mks 12 mc0).all (visB s u)=true→overM u m=true→ordOk u m=true∧isOrd [s] m.h (cN (ordN m))=true∧linB s m.h=true:=fun h1 h2 =>
      marked_ok hk hv hu ho i2 hst12 i3 i4 hms h2 (List.all_eq_true.1 h1 m (hends hd2 h2 hsl))
     generalize (endsR c u mks 12 mc0).all (visB s u)=marked at hmain
     have hover:decide ((leftM u m).length=0)=overM u m:=by
      unfold overM
      cases leftM u m <;> rfl
     rw [hover]
     cases hok:ordOk u m with
     | false =>
       refine cnF rfl (bt (v:=true) (cnT rfl ?_) rfl)
       cases hov:overM u m with
       | false=>exact cnF rfl (bt Z9_eq rfl)
       | true =>
         refine cnT rfl ?_
         cases marked with
         | false=>exact cnF rfl (bt Z9_eq rfl)
         | true =>
           have:=(hmain rfl hov).1
           rw [hok] at this;cases this
     | true =>
       have hov:overM u m=true:=by
        have:=hok
        unfold ordOk at this
        rw [Bool.and_eq_true] at this;exact this.1
       have hz:zeroM m=false:=by
        have:=hok
        unfold ordOk at this
        rw [Bool.and_eq_true] at this;simpa using this.2
       have hlo:(cN' (ordN m)).length<Lg:=by
        unfold cN'
        have:=(ordN_perm i3 hms hz).length_eq
        rw [List.length_range] at this
        rw [List.length_map,this];exact hhl
       have e29:Z29 Ar.std (eSpecs [s]) (eCalls m.h) (eInts (cN' (ordN m)))=some (isOrd [s] m.h (cN (ordN m)),0):=by
        rw [Z29_eq [s] m.h (specs1 hs) hhl (cN' (ordN m)) hlo]
        unfold isOrdR
        rw [herr];rfl
       refine cnT rfl (bt e15 (bt e24 (bt e29 (bt (v:=true) (cnT rfl (cnT rfl (cnT rfl (cnT hov ?_)))) rfl))))
       cases marked with
       | false=>exact cnF rfl (bt Z9_eq rfl)
       | true =>
         obtain ⟨_,g1,g2⟩:=hmain rfl hov
         rw [g1,g2]
         exact cnT rfl (cnT rfl (cnF rfl (bt Z9_eq rfl)))
end Go.Am
