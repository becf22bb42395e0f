/- Own text: JH9. -/
import Derived.Test.YtkjeamngjnfpkaaJH3
import Derived.Test.YtkjeamngjnfpkaaAmBit
set_option maxRecDepth 100000
set_option linter.unusedVariables false
set_option linter.unusedSimpArgs false
namespace Go.Am
open Go
def spOf (S:List Spec) (c:Call):Spec:=S.getD c.ob.toNat (0,0,[],[])
def nowOf (c:Call) (s:Int×Int):Int:=bif decide (c.ob=0) then s.1 else s.2
def doS (S:List Spec) (c:Call) (s:Int×Int):Int×Int:=bif decide (c.ob=0) then (nx (spOf S c).2.2.1 (nowOf c s) c.op,s.2) else (s.1,nx (spOf S c).2.2.1 (nowOf c s) c.op)
def okS (S:List Spec) (c:Call) (s:Int×Int):Bool:=decide (c.to=0)||decide (nx (spOf S c).2.2.2 (nowOf c s) c.op=c.sa)
def stOk (S:List Spec) (s:Int×Int):Prop:=(∀ x,S[0]?=some x->0<=s.1/\s.1<x.1) /\ ∀ x,S[1]?=some x->0<=s.2/\s.2<x.1
def callIn (S:List Spec) (c:Call):Prop:=(c.ob=0\/c.ob=1) /\ ∃ x,S[c.ob.toNat]?=some x/\specOk x=true/\0<=c.op/\c.op<x.2.1
theorem callIn_now {S:List Spec} {c:Call} (hc:callIn S c) {s:Int×Int} (hs:stOk S s) : ∃ x,S[c.ob.toNat]?=some x/\spOf S c=x/\specOk x=true/\0<=nowOf c s/\nowOf c s<x.1/\0<=c.op/\c.op<x.2.1:=by
 obtain ⟨hob,x,hx,hsx,h1,h2⟩:=hc
 refine ⟨x,hx,by simp [spOf,List.getD_eq_getElem?_getD,hx],hsx,?_⟩
 rcases hob with h | h
 ·have q:=hs.1 x (by rw [h] at hx;exact hx)
  simp only [nowOf,h,decide_true,cond_true];exact ⟨q.1,q.2,h1,h2⟩
 ·have q:=hs.2 x (by rw [h] at hx;exact hx)
  have hz:decide ((1:Int)=0)=false:=rfl
  simp only [nowOf,h,hz,cond_false];exact ⟨q.1,q.2,h1,h2⟩
theorem doS_ok {S:List Spec} {c:Call} (hc:callIn S c) {s:Int×Int} (hs:stOk S s):stOk S (doS S c s):=by
 obtain ⟨x,hx,e,hsx,h1,h2,h3,h4⟩:=callIn_now hc hs
 obtain ⟨_,_,t1,_⟩:=(specOk_iff x).1 hsx
 obtain ⟨r,_,_,g3,g4⟩:=tab_get t1 h1 h2 h3 h4
 unfold doS
 rw [e]
 rcases hc.1 with h | h
 ·simp only [h,decide_true,cond_true]
  refine ⟨fun y hy => ?_,hs.2⟩
  rw [h] at hx
  have:y=x:=by have:=hx.symm.trans (show S[(0:Int).toNat]?=some y from hy);exact (Option.some.inj this).symm
  subst this;exact ⟨g3,by omega⟩
 ·have hz:decide ((1:Int)=0)=false:=rfl
  simp only [h,hz,cond_false]
  refine ⟨hs.1,fun y hy => ?_⟩
  rw [h] at hx
  have:y=x:=by have:=hx.symm.trans (show S[(1:Int).toNat]?=some y from hy);exact (Option.some.inj this).symm
  subst this;exact ⟨g3,by omega⟩
theorem K172a_eq {S:List Spec} {c:Call} (hc:callIn S c) {s:Int×Int} (hs:stOk S s):K172a Ar.std s.1 s.2 (eSpecs S) c.1 c.2.1 c.2.2.1 c.2.2.2.1 c.2.2.2.2.1 c.2.2.2.2.2=some ((doS S c s).1,(doS S c s).2,okS S c s):=by
 obtain ⟨x,hx,e,hsx,h1,h2,h3,h4⟩:=callIn_now hc hs
 obtain ⟨_,_,t1,t2⟩:=(specOk_iff x).1 hsx
 obtain ⟨r,g1,g2,g3,g4⟩:=tab_get t1 h1 h2 h3 h4
 obtain ⟨q,k1,k2,k3,k4⟩:=tab_get t2 h1 h2 h3 h4
 have hob:0<=c.2.1:=by rcases hc.1 with h | h <;> simp only [Call.ob] at h <;> omega
 have e1:=gt_eSpecsI (l:=S) hob hx
 have e2:=gt_eTabI h1 g1
 have e3:=gt_encI (c:=cI .i64) (l:=r) h3 g2
 have e4:=gt_eTabI h1 k1
 have e5:=gt_encI (c:=cI .i64) (l:=q) h3 k2
 simp only [K172a,e1,bsome,std_zeq]
 rcases hc.1 with h | h
 ·simp only [Call.ob] at h
  simp only [nowOf,Call.ob,h,decide_true,cond_true] at e2 e3 e4 e5
  simp only [h,decide_true,cond_true,bsome,e2,e3,e4,e5,cond_some,doS,okS,Call.ob,e,nowOf]
  cases decide (c.2.2.2.2.2=0) <;> simp
 ·simp only [Call.ob] at h
  have hz:decide ((1:Int)=0)=false:=rfl
  simp only [nowOf,Call.ob,h,hz,cond_false] at e2 e3 e4 e5
  simp only [h,hz,decide_true,cond_true,cond_false,bsome,e2,e3,e4,e5,cond_some,doS,okS,Call.ob,e,nowOf]
  cases decide (c.2.2.2.2.2=0) <;> simp
theorem forH_in {S:List Spec} {h:List Call} (ha:areS S=true) (hf:forH S h=true):h.length<=8 /\ ∀ c∈h,callOk c=true/\callIn S c:=by
 simp only [forH,zp4,List.all_eq_true] at hf
 simp only [areS,zp4,btw_true,List.all_eq_true] at ha
 obtain ⟨h1,h2⟩:=validH_ok hf.1
 refine ⟨h1,fun c hc=>⟨h2 c hc,?_⟩⟩
 have hcc:=(callOk_iff c).1 (h2 c hc)
 refine ⟨by omega,?_⟩
 have:=hf.2 c hc
 unfold fitC at this
 cases hx:S[c.ob.toNat]? with
 | none=>rw [hx] at this;cases this
 | some x =>
   rw [hx] at this
   exact ⟨x,rfl,ha.2 x (List.mem_of_getElem? hx),hcc.2.2.1.1,by simpa using this⟩
theorem stOk_zero {S:List Spec} (ha:areS S=true):stOk S (0,0):=by
 simp only [areS,zp4,btw_true,List.all_eq_true] at ha
 constructor <;> intro x hx <;> have:=((specOk_iff x).1 (ha.2 x (List.mem_of_getElem? hx))).1 <;> (refine ⟨by decide,?_⟩) <;> show (0:Int)<x.1 <;> omega
section
variable (S:List Spec) (h:List Call) (must:Call->Call->Bool)
def endsM (m:Nat):Bool := !(List.range h.length).any fun i=>(h[i]?.map fun c=>decide (0<c.to) && !m.testBit i).getD false
def freeM (m i:Nat) (c:Call):Bool := !m.testBit i&&(List.range h.length).all fun k=>m.testBit k||(h[k]?.map fun d => !must d c).getD true
def nextM (m:Nat) (s:Int×Int) (i:Nat):Option (Nat×Int×Int):=h[i]?.bind fun c=>bif freeM h must m i c&&okS S c s then some (ins m i,doS S c s) else none
def dfs:Nat->Nat->Int×Int->List (List Nat)
 | 0,m,s=>bif endsM h m then [[]] else []
 | f+1,m,s=>(bif endsM h m then [[]] else [])++(List.range h.length).flatMap fun i=>((nextM S h must m s i).map fun p=>(dfs f p.1 p.2).map (i :: ·)).getD []
def room (m:Nat):Nat:=(List.range h.length).countP fun i => !m.testBit i
def ords (m:Nat) (s:Int×Int):List (List Nat):=dfs S h must (room h m) m s
end
theorem countP_lt' {p p':Nat->Bool} {i:Nat} {l:List Nat} (hn:l.Nodup) (hi:i∈l) (hp:p i=true) (hp':p' i=false) (hne : ∀ k,k≠i->p' k=p k):l.countP p'+1=l.countP p:=by
 induction l with
 | nil=>simp at hi
 | cons k r ih =>
   simp only [List.nodup_cons] at hn
   simp only [List.countP_cons]
   by_cases hk:k=i
   ·subst hk
    have:r.countP p'=r.countP p:=List.countP_congr fun q hq=>by rw [hne q (by rintro rfl;exact hn.1 hq)]
    simp [hp,hp',this]
   ·have hir:i∈r:=by rcases List.mem_cons.1 hi with h | h;exact absurd h.symm hk;exact h
    have:=ih hn.2 hir
    rw [hne k hk];omega
theorem room_ins {h:List Call} {m i:Nat} (hi:i<h.length) (hm:m.testBit i=false):room h (ins m i)+1=room h m:=by
 refine countP_lt' List.nodup_range (List.mem_range.2 hi) (by simp [hm]) (by simp [ins_test]) fun k hk => ?_
 have : ¬ i=k:=fun e=>hk e.symm
 simp [ins_test,this]
theorem nextM_some {S:List Spec} {h:List Call} {must:Call->Call->Bool} {m:Nat} {s:Int×Int} {i:Nat} {p:Nat×Int×Int} (hp:nextM S h must m s i=some p) :
  ∃ c,h[i]?=some c/\i<h.length/\m.testBit i=false/\freeM h must m i c=true/\okS S c s=true/\p=(ins m i,doS S c s):=by
 unfold nextM at hp
 cases hc:h[i]? with
 | none=>rw [hc] at hp;cases hp
 | some c =>
   rw [hc] at hp
   simp only [Option.bind_some] at hp
   cases hf:freeM h must m i c <;> cases ho:okS S c s <;> simp [hf,ho] at hp
   refine ⟨c,rfl,(zp2.1 hc).1,?_,hf,ho,hp.symm⟩
   simp only [freeM,zp4] at hf
   simpa using hf.1
theorem ords_eq (S:List Spec) (h:List Call) (must:Call->Call->Bool) (m:Nat) (s:Int×Int) :
  ords S h must m s=(bif endsM h m then [[]] else [])++(List.range h.length).flatMap fun i=>((nextM S h must m s i).map fun p=>(ords S h must p.1 p.2).map (i :: ·)).getD []:=by
 have hstep : ∀ i,((nextM S h must m s i).map fun p=>(ords S h must p.1 p.2).map (i :: ·))=(nextM S h must m s i).map fun p=>(dfs S h must (room h m-1) p.1 p.2).map (i :: ·):=by
  intro i
  cases hn:nextM S h must m s i with
  | none=>rfl
  | some p =>
    obtain ⟨c,hc,hi,ht,_,_,rfl⟩:=nextM_some hn
    have:=room_ins hi ht
    simp only [Option.map_some,ords]
    rw [show room h (ins m i)=room h m-1 by omega]
 unfold ords at hstep ⊢
 cases hr:room h m with
 | zero =>
   have : ∀ i∈List.range h.length,((nextM S h must m s i).map fun p=>(dfs S h must (room h p.1) p.1 p.2).map (i :: ·)).getD []=[]:=by
    intro i hi
    cases hn:nextM S h must m s i with
    | none=>rfl
    | some p =>
      obtain ⟨c,hc,hi,ht,_,_,rfl⟩:=nextM_some hn
      have:=room_ins hi ht
      omega
   rw [flatMap_cong this]
   simp [dfs]
 | succ f =>
   rw [hr] at hstep
   simp only [Nat.add_sub_cancel] at hstep
   simp only [dfs,hstep]
end Go.Am

namespace Go.Am
open Go
theorem K170a_eq {m i:Nat} (hm:m<256) (hi:i<=8):K170a Ar.std (m:Int) (i:Int)=some (m.testBit i):=by
 have h0:decide ((i:Int)<0)=false:=by simp
 simp only [K170a,std_zlt,h0,nk_false,bsome,std_zeq,std_bits,std_shr,has_u8 m i hm hi]
def keyP (m:Nat) (s:Int×Int):D := .agg [.int .u8 m,.int .i64 s.1,.int .i64 s.2]
theorem keyP_inj {m m':Nat} {s s':Int×Int} (h:keyP m s=keyP m' s'):m=m'/\s=s':=by
 simp only [keyP,D.agg.injEq,List.cons.injEq,D.int.injEq,true_and,and_true] at h
 exact ⟨by omega,Prod.ext h.2.1 h.2.2⟩
def GoodM (S:List Spec) (h:List Call) (must:Call->Call->Bool) (mp:List (D×D)):Prop := ∀ (m:Nat) (s:Int×Int) (v:D),Am.mget mp (keyP m s)=some v->v = .int .i64 ((ords S h must m s).length:Int)
theorem GoodM.nil (S:List Spec) (h:List Call) (must:Call->Call->Bool):GoodM S h must []:=fun m s v hv=>by simp [Am.mget] at hv
theorem GoodM.put {S:List Spec} {h:List Call} {must:Call->Call->Bool} {mp:List (D×D)} (hg:GoodM S h must mp) (m:Nat) (s:Int×Int):GoodM S h must (Am.mput mp (keyP m s) (.int .i64 ((ords S h must m s).length:Int))):=by
 intro m' s' v hv
 rw [mget_mput] at hv
 split at hv
 ·rename_i e
  obtain ⟨rfl,rfl⟩:=keyP_inj e
  exact (Option.some.inj hv).symm
 ·exact hg m' s' v hv
def contr (S:List Spec) (h:List Call) (must:Call->Call->Bool) (m:Nat) (s:Int×Int) (i:Nat):Nat:=((nextM S h must m s i).map fun p=>(ords S h must p.1 p.2).length).getD 0
theorem ords_len (S:List Spec) (h:List Call) (must:Call->Call->Bool) (m:Nat) (s:Int×Int):(ords S h must m s).length=(bif endsM h m then 1 else 0)+((List.range h.length).map (contr S h must m s)).sum:=by
 rw [ords_eq,List.length_append,List.length_flatMap]
 congr 1
 ·cases endsM h m <;> rfl
 ·congr 1
  refine List.map_congr_left fun i _ => ?_
  unfold contr
  cases nextM S h must m s i <;> simp
theorem sum_le {f:Nat->Nat} {n:Nat} : ∀ {i:Nat},i<=n->((List.range i).map f).sum<=((List.range n).map f).sum:=by
 intro i hi
 obtain ⟨k,rfl⟩ : ∃ k,n=i+k:=⟨n-i,by omega⟩
 rw [List.range_add,List.map_append,List.sum_append]
 omega
theorem dfs_len (S:List Spec) (h:List Call) (must:Call->Call->Bool) (hl:h.length<=8) : ∀ (f m:Nat) (s:Int×Int),(dfs S h must f m s).length<=9 ^ (f+1):=by
 intro f
 induction f with
 | zero=>intro m s;simp only [dfs];cases endsM h m <;> simp
 | succ f ih =>
   intro m s
   have hs : ∀ l:List Nat,((l.flatMap fun i=>((nextM S h must m s i).map fun p=>(dfs S h must f p.1 p.2).map (i :: ·)).getD [])).length<=l.length*9 ^ (f+1):=by
    intro l
    induction l with
    | nil=>simp
    | cons i l ihl =>
      rw [List.flatMap_cons,List.length_append,List.length_cons,Nat.succ_mul]
      have:(((nextM S h must m s i).map fun p=>(dfs S h must f p.1 p.2).map (i :: ·)).getD []).length<=9 ^ (f+1):=by
       cases nextM S h must m s i with
       | none=>simp
       | some p=>simpa using ih p.1 p.2
      omega
   have h1:=hs (List.range h.length)
   simp only [dfs,List.length_append]
   have h2:(bif endsM h m then [[]] else []:List (List Nat)).length<=1:=by cases endsM h m <;> simp
   have h3:(List.range h.length).length*9 ^ (f+1)<=8*9 ^ (f+1):=Nat.mul_le_mul_right _ (by simpa using hl)
   have h4:9 ^ (f+1+1)=9*9 ^ (f+1):=by rw [Nat.pow_succ];omega
   have h5:1<=9 ^ (f+1):=Nat.one_le_pow _ _ (by decide)
   omega
theorem ords_lt (S:List Spec) (h:List Call) (must:Call->Call->Bool) (hl:h.length<=8) (m:Nat) (s:Int×Int):(ords S h must m s).length<1000000000:=by
 have h1:=dfs_len S h must hl (room h m) m s
 have h2:room h m<=8:=by
  have:=List.countP_le_length (p:=fun i => !m.testBit i) (l:=List.range h.length)
  unfold room;rw [List.length_range] at this;omega
 have h3:9 ^ (room h m+1)<=9 ^ 9:=Nat.pow_le_pow_right (by decide) (by omega)
 have h4:(9:Nat) ^ 9=387420489:=by decide
 unfold ords;omega
section
variable {S:List Spec} {h:List Call}
theorem K148a_eq (hl:h.length<=8) {m:Nat} (hm:m<256) (s1 s2:Int) (mp:List (D×D)) (x:List D):K148a Ar.std (m:Int) s1 s2 mp x (eCalls h)=some (endsM h m):=by
 have e:iter (K148aL0 Ar.std (m:Int) (eCalls h)) 0=some (bif (List.range h.length).any (fun i=>(h[i]?.map fun c=>decide (0<c.to) && !m.testBit i).getD false) then .inr () else .inl ()):=by
  refine iter_rng h.length _ _ _ (fun i hi => ?_) ?_
  ·have hc:=zp1 hi
   generalize h[i]=c at hc
   simp only [K148aL0,std_zlt,len_enc,ltC hi,cond_true,gt_enc hc,bsome,K170a_eq hm (by omega:i<=8),std_wrp,std_zadd,wrap1 hi (by omega),hc,Option.map_some,Option.getD_some,Call.to]
   cases decide (0<c.2.2.2.2.2) <;> cases m.testBit i <;> rfl
  ·simp [K148aL0]
 simp only [K148a,e,bsome,endsM]
 cases (List.range h.length).any _ <;> rfl
theorem K171aL0_eq (hl:h.length<=8) (hok : ∀ c∈h,callOk c=true) {m:Nat} (hm:m<256) {i:Nat} {c:Call} (hi:i<=8) :
  iter (K171aL0 Ar.std (m:Int) (eCalls h) c.1 c.2.1 c.2.2.1 c.2.2.2.1 c.2.2.2.2.1 c.2.2.2.2.2) (!m.testBit i,0)=some (freeM h bef m i c):=by
 have:=iter_fold (step:=K171aL0 Ar.std (m:Int) (eCalls h) c.1 c.2.1 c.2.2.1 c.2.2.2.1 c.2.2.2.2.1 c.2.2.2.2.2) (List.range h.length) (fun (s:Bool) k=>(s,(k:Int))) (fun s k=>s&&(m.testBit k||(h[k]?.map fun d => !bef d c).getD true)) id
  (fun k j s hj hk=>by
   have hkj:k=j:=by rw [List.getElem?_range (by simpa using hk)] at hj;exact Option.some.inj hj
   subst hkj
   have hk':k<h.length:=by simpa using hk
   have hd:=zp1 hk'
   have hdm:=zp6 hk'
   generalize h[k]=d at hd hdm
   have hto:0<=d.to:=by have:=(callOk_iff d).1 (hok d hdm);omega
   simp only [K171aL0,std_zlt,len_enc,ltC hk',cond_true,gt_enc hd,bsome,K170a_eq hm (by omega:k<=8),K127_eq d c hto,std_wrp,std_zadd,wrap1 hk' (by omega),hd,Option.map_some,Option.getD_some]
   cases s <;> cases m.testBit k <;> cases bef d c <;> rfl)
  (fun s=>by simp [K171aL0]) (!m.testBit i)
 rw [show ((!m.testBit i,0):Bool×Int)=(!m.testBit i,((0:Nat):Int)) from rfl,this,foldl_and]
 rfl
theorem K128_ok (hl:h.length<=8) (hok : ∀ c∈h,callOk c=true/\callIn S c) : ∀ (n m:Nat) (s:Int×Int) (mp:List (D×D)),room h m<n->m<256->stOk S s->GoodM S h bef mp ->
  ∃ mp',GoodM S h bef mp'/\K128R Ar.std n (m:Int) s.1 s.2 mp (eSpecs S) (eCalls h)=some (((ords S h bef m s).length:Int),mp'):=by
 intro n
 induction n with
 | zero=>intro m s mp hr;omega
 | succ n ih =>
   intro m s mp hr hm hs hg
   show ∃ mp',GoodM S h bef mp'/\K128B Ar.std (K128R Ar.std n) (m:Int) s.1 s.2 mp (eSpecs S) (eCalls h)=some (((ords S h bef m s).length:Int),mp')
   have hmd:((ords S h bef m s).length:Int)<1000000000:=by have:=ords_lt S h bef hl m s;omega
   unfold K128B
   cases hk:Am.mget mp (keyP m s) with
   | some v =>
     have hv:=hg m s v hk
     refine ⟨mp,hg,?_⟩
     have:lk Ar.std (cI .i64) mp (.agg [.int .u8 (m:Int),.int .i64 s.1,.int .i64 s.2])=some (some ((ords S h bef m s).length:Int)):=by
      show (Am.mget mp (keyP m s)).elim _ _=_
      rw [hk,hv];simp
     rw [this]
     rfl
   | none =>
     have:lk Ar.std (cI .i64) mp (.agg [.int .u8 (m:Int),.int .i64 s.1,.int .i64 s.2])=some none:=by
      show (Am.mget mp (keyP m s)).elim _ _=_
      rw [hk];rfl
     rw [this]
     simp only [bsome,Option.elim_none,cond_false,K148a_eq hl hm,cond_some,K149c]

     have hloop:=iter_rel (step:=K171aL1 Ar.std (m:Int) s.1 s.2 (eSpecs S) (eCalls h) (K128R Ar.std n)) h.length (fun (q:List (D×D)×Int) i=>((i:Int),q.1,q.2))
      (fun i q=>GoodM S h bef q.1/\q.2=(bif endsM h m then 1 else 0:Int)+(((List.range i).map (contr S h bef m s)).sum:Int)) (fun q=>(q.1,q.2))
      (fun i q hi hR=>by
       obtain ⟨q1,q2⟩:=q
       obtain ⟨hg1,rfl⟩:=hR
       have hc:=zp1 hi
       have hcm:=zp6 hi
       generalize h[i]=c at hc hcm
       obtain ⟨hcok,hcin⟩:=hok c hcm
       have hsum:((List.range (i+1)).map (contr S h bef m s)).sum=((List.range i).map (contr S h bef m s)).sum+contr S h bef m s i:=by
        rw [List.range_succ,List.map_append,List.sum_append];simp
       have hle:=ords_len S h bef m s
       have hle2:((List.range (i+1)).map (contr S h bef m s)).sum<=_:=sum_le (f:=contr S h bef m s) hi
       have hlt2:=ords_lt S h bef hl m s
       simp only [K171aL1,std_zlt,len_enc,ltC hi,cond_true,gt_enc hc,bsome,K170a_eq hm (by omega:i<=8),K171aL0_eq hl (fun c hc=>(hok c hc).1) hm (by omega:i<=8),std_wrp,std_zadd,wrap1 hi (by omega)]
       cases hf:freeM h bef m i c with
       | false =>
         have h0:contr S h bef m s i=0:=by simp [contr,nextM,hc,hf]
         refine ⟨(q1,_),⟨hg1,by simp only [hsum,h0,Nat.add_zero]⟩,?_⟩
         simp only [cond_false,bsome]
       | true =>
         have ht:m.testBit i=false:=by simp only [freeM,zp4] at hf;simpa using hf.1
         simp only [cond_true,K172a_eq hcin hs,bsome]
         cases ho:okS S c s with
         | false =>
           have h0:contr S h bef m s i=0:=by simp [contr,nextM,hc,ho]
           refine ⟨(q1,_),⟨hg1,by simp only [hsum,h0,Nat.add_zero]⟩,?_⟩
           simp only [cond_false,bsome]
         | true =>
           have hn:nextM S h bef m s i=some (ins m i,doS S c s):=by simp [nextM,hc,hf,ho]
           have h0:contr S h bef m s i=(ords S h bef (ins m i) (doS S c s)).length:=by simp [contr,hn]
           have hz:decide ((i:Int)<0)=false:=by simp
           obtain ⟨mp2,hg2,e2⟩:=ih (ins m i) (doS S c s) q1 (by have:=room_ins hi ht;omega) (ins_lt (n:=8) hm (by omega)) (doS_ok hcin hs) hg1
           have hins:Ar.std.bits .or .u8 (m:Int) (Ar.std.shl .u8 1 (i:Int))=((ins m i:Nat):Int):=ins_u8 m i hm (by omega)
           refine ⟨(mp2,_),⟨hg2,rfl⟩,?_⟩
           simp only [cond_true,hz,nk_false,bsome,hins,e2]
           have hw:IntKind.i64.wrap ((bif endsM h m then 1 else 0:Int)+(((List.range i).map (contr S h bef m s)).sum:Int)+((ords S h bef (ins m i) (doS S c s)).length:Int))=(bif endsM h m then 1 else 0:Int)+(((List.range (i+1)).map (contr S h bef m s)).sum:Int):=by
            rw [hsum,h0]
            rw [hsum,h0] at hle2
            cases he:endsM h m <;> simp only [he,cond_true,cond_false] at hle ⊢ <;> (rw [i64w _ (by omega) (by omega)];omega)
           rw [hw])
      (fun q hR=>by simp [K171aL1]) (mp,(bif endsM h m then 1 else 0:Int)) ⟨hg,by simp⟩
     obtain ⟨q,⟨hg1,hq2⟩,hit⟩:=hloop
     have htot:q.2=((ords S h bef m s).length:Int):=by
      rw [hq2,ords_len];cases endsM h m <;> simp
     simp only [K171a]
     have hit':iter (K171aL1 Ar.std (m:Int) s.1 s.2 (eSpecs S) (eCalls h) (K128R Ar.std n)) (0,mp,bif endsM h m then 1 else 0)=some (q.1,q.2):=hit
     rw [hit']
     refine ⟨Am.mput q.1 (keyP m s) (.int .i64 ((ords S h bef m s).length:Int)),hg1.put m s,?_⟩
     simp only [bsome,htot,std_mput]
     rfl
theorem K128_eq (hl:h.length<=8) (hok : ∀ c∈h,callOk c=true/\callIn S c) {m:Nat} {s:Int×Int} {mp:List (D×D)} (hm:m<256) (hs:stOk S s) (hg:GoodM S h bef mp) :
  ∃ mp',GoodM S h bef mp'/\K128 Ar.std (m:Int) s.1 s.2 mp (eSpecs S) (eCalls h)=some (((ords S h bef m s).length:Int),mp'):=by
 have hr:room h m<fuel:=by
  have:=List.countP_le_length (p:=fun i => !m.testBit i) (l:=List.range h.length)
  rw [List.length_range] at this
  rw [fuel_eq];unfold room;omega
 exact K128_ok hl hok fuel m s mp hr hm hs hg
end
section
variable {S:List Spec} {h:List Call}
end
end Go.Am

namespace Go.Am
open Go
section
variable {S:List Spec} {h:List Call}
end
def ords0 (S:List Spec) (h:List Call):List (List Nat):=ords S h bef 0 (0,0)
theorem errH_zero {S:List Spec} {h:List Call} (he:errH S h=0):areS S=true/\forH S h=true:=by
 unfold errH at he
 cases ha:areS S <;> cases hf:forH S h <;> simp [ha,hf] at he ⊢
theorem K88_eq (S:List Spec) (h:List Call) (hs:SpecsOk S) (hl:h.length<Lg):K88 Ar.std (eSpecs S) (eCalls h)=some (bif decide (errH S h=0) then (((ords0 S h).length:Int),0) else (0,errH S h)):=by
 simp only [K88,K125_eq S h hs hl,bsome,std_zeq,K126]
 by_cases he:errH S h=0
 ·obtain ⟨ha,hf⟩:=errH_zero he
  obtain ⟨h8,hok⟩:=forH_in ha hf
  obtain ⟨mp',_,e⟩:=K128_eq (S:=S) (h:=h) h8 hok (m:=0) (s:=(0,0)) (mp:=[]) (by decide) (stOk_zero ha) (GoodM.nil _ _ _)
  have e':K128 Ar.std 0 0 0 [] (eSpecs S) (eCalls h)=_:=e
  simp only [he,decide_true,cond_true,e',bsome,ords0]
 ·simp only [he,decide_false,cond_false]
theorem K35_eq (S:List Spec) (h:List Call) (hs:SpecsOk S) (hl:h.length<Lg):K35 Ar.std (eSpecs S) (eCalls h)=some (decide (errH S h=0) && !(ords0 S h).isEmpty,errH S h):=by
 simp only [K35,K88_eq S h hs hl,bsome,std_zlt]
 by_cases he:errH S h=0
 ·simp only [he,decide_true,cond_true]
  cases ords0 S h <;> simp
 ·simp [he]
end Go.Am

namespace Go.Am
open Go
def hc (h:List Call) (x:Int):Call:=h.getD x.toNat (0,0,0,0,0,0)
def inH (h:List Call) (x:Int):Bool:=btw 0 x ((h.length:Int)-1)
theorem inH_iff {h:List Call} {x:Int}:inH h x=true↔0<=x/\x<h.length:=by unfold inH;rw [btw_true];omega
theorem hc_get {h:List Call} {x:Int} (hx:inH h x=true):h[x.toNat]?=some (hc h x):=by
 rw [inH_iff] at hx
 have:x.toNat<h.length:=by omega
 simp [hc,List.getD_eq_getElem?_getD,zp1 this]
theorem hc_nat {h:List Call} {i:Nat} {c:Call} (hi:h[i]?=some c):hc h (i:Int)=c:=by simp [hc,List.getD_eq_getElem?_getD,hi]
theorem hc_mem {h:List Call} {x:Int} (hx:inH h x=true):hc h x∈h:=List.mem_of_getElem? (hc_get hx)
def numsAt (h:List Call) (l:List Int) (i:Nat):Bool:=(l[i]?.map fun x => !inH h x||(l.take i).contains x).getD false
def nums (h:List Call) (l:List Int):Bool := !(List.range l.length).any (numsAt h l)
def full (h:List Call) (l:List Int):Bool := !(List.range h.length).any fun i=>(h[i]?.map fun c=>decide (c.to≠0) && !l.contains (i:Int)).getD false
def isL (h:List Call) (l:List Int):Bool:=nums h l&&full h l
theorem nums_iff {h:List Call} {l:List Int}:nums h l=true↔(∀ x∈l,inH h x=true)/\l.Nodup:=by
 simp only [nums,Bool.not_eq_true',List.any_eq_false,List.mem_range]
 constructor
 ·intro hn
  have hx : ∀ i (hi:i<l.length),inH h l[i]=true/\l[i]∉l.take i:=by
   intro i hi
   have:=hn i hi
   simp only [numsAt,zp1 hi,Option.map_some,Option.getD_some,Bool.or_eq_true,not_or,Bool.not_eq_true',Bool.not_eq_false,List.contains_iff_mem] at this
   exact this
  refine ⟨fun x hxm => ?_,?_⟩
  ·obtain ⟨i,hi,rfl⟩:=List.getElem_of_mem hxm
   exact (hx i hi).1
  ·rw [List.Nodup,List.pairwise_iff_getElem]
   intro i j hi hj hij e
   refine (hx j hj).2 ?_
   rw [<-e]
   have hlt:i<(l.take j).length:=by simp;omega
   have:(l.take j)[i]=l[i]:=List.getElem_take
   rw [<-this];exact zp6 hlt
 ·rintro ⟨h1,h2⟩ i hi
  simp only [numsAt,zp1 hi,Option.map_some,Option.getD_some,Bool.or_eq_true,not_or,Bool.not_eq_true',Bool.not_eq_false,List.contains_iff_mem]
  refine ⟨h1 _ (zp6 hi),fun hm => ?_⟩
  obtain ⟨j,hj,e⟩:=List.getElem_of_mem hm
  have hj':j<i:=by simp at hj;omega
  rw [List.getElem_take] at e
  rw [List.Nodup,List.pairwise_iff_getElem] at h2
  exact h2 j i (by omega) hi hj' e
section
variable {h:List Call} (hl:h.length<=40)
include hl
def keepsAt (must:Call->Call->Bool) (h:List Call) (l:List Int) (i:Nat):Bool:=(l[i]?.map fun x=>(l.take i).any fun y=>must (hc h x) (hc h y)).getD false
def keepsL (must:Call->Call->Bool) (h:List Call) (l:List Int):Bool := !(List.range l.length).any (keepsAt must h l)
def allowsF (S:List Spec) (h:List Call):List Int->Int×Int->Bool
 | [],_=>true
 | x::l,s=>okS S (hc h x) s&&allowsF S h l (doS S (hc h x) s)
def allowsL (S:List Spec) (h:List Call) (l:List Int):Bool:=allowsF S h l (0,0)
end
end Go.Am

namespace Go.Am
open Go
def cN (l:List Nat):List Int:=l.map (fun i:Nat=>(i:Int))
@[simp] theorem cN_snoc (l:List Nat) (i:Nat):cN (l++[i])=cN l++[(i:Int)]:=by simp [cN]
theorem cN_mem {l:List Nat} {i:Nat}:(i:Int)∈cN l↔i∈l:=by
 simp only [cN,List.mem_map]
 constructor
 ·rintro ⟨j,hj,e⟩;have:j=i:=by omega
  subst this;exact hj
 ·intro h;exact ⟨i,h,rfl⟩
def maskL (l:List Nat):Nat:=l.foldl ins 0
def runL (S:List Spec) (h:List Call) (l:List Nat):Int×Int:=l.foldl (fun s (i:Nat)=>doS S (hc h (i:Int)) s) (0,0)
theorem maskL_snoc (l:List Nat) (i:Nat):maskL (l++[i])=ins (maskL l) i:=by simp [maskL]
theorem runL_snoc (S:List Spec) (h:List Call) (l:List Nat) (i:Nat):runL S h (l++[i])=doS S (hc h (i:Int)) (runL S h l):=by simp [runL]
theorem snoc_ind {α:Type} {P:List α->Prop} (h0:P []) (h1 : ∀ l a,P l->P (l++[a])) : ∀ l,P l:=by
 intro l
 have : ∀ k (l:List α),l.length=k->P l:=by
  intro k
  induction k with
  | zero=>intro l hl;rw [List.length_eq_zero_iff.1 hl];exact h0
  | succ k ih =>
    intro l hl
    have hne:l≠[]:=by intro e;rw [e] at hl;cases hl
    rw [<-List.dropLast_concat_getLast hne]
    exact h1 _ _ (ih _ (by rw [List.length_dropLast,hl];rfl))
 exact this _ l rfl
theorem maskL_test (l:List Nat) (i:Nat):(maskL l).testBit i=decide (i∈l):=by
 induction l using snoc_ind with
 | h0=>simp [maskL]
 | h1 l a ih =>
   rw [maskL_snoc,ins_test,ih,Bool.eq_iff_iff]
   simp only [Bool.or_eq_true,decide_eq_true_eq,List.mem_append,List.mem_singleton]
   constructor
   ·rintro (h | h)
    ·exact .inl h
    ·exact .inr h.symm
   ·rintro (h | h)
    ·exact .inl h
    ·exact .inr h.symm
theorem allowsF_snoc (S:List Spec) (h:List Call) (x:Int) : ∀ (l:List Int) (s:Int×Int),allowsF S h (l++[x]) s=(allowsF S h l s&&okS S (hc h x) (l.foldl (fun s x=>doS S (hc h x) s) s))
 | [],s=>by simp [allowsF]
 | y::l,s=>by simp only [List.cons_append,allowsF,allowsF_snoc S h x l,List.foldl_cons,Bool.and_assoc]
theorem allowsL_snoc (S:List Spec) (h:List Call) (l:List Nat) (i:Nat):allowsL S h (cN (l++[i]))=(allowsL S h (cN l)&&okS S (hc h (i:Int)) (runL S h l)):=by
 unfold allowsL
 rw [cN_snoc,allowsF_snoc]
 congr 2
 unfold runL cN
 rw [List.foldl_map]
theorem keepsL_snoc (must:Call->Call->Bool) (h:List Call) (l:List Int) (x:Int):keepsL must h (l++[x])=(keepsL must h l && !l.any fun y=>must (hc h x) (hc h y)):=by
 unfold keepsL
 rw [List.length_append,List.length_singleton,List.range_succ,List.any_append]
 have h1:(List.range l.length).any (keepsAt must h (l++[x]))=(List.range l.length).any (keepsAt must h l):=by
  refine any_congr fun i hi => ?_
  have hi:=List.mem_range.1 hi
  unfold keepsAt
  rw [zp7 hi,List.take_append_of_le_length (by omega)]
 have h2:keepsAt must h (l++[x]) l.length=l.any fun y=>must (hc h x) (hc h y):=by
  unfold keepsAt
  rw [zp8 (Nat.le_refl _)]
  simp
 rw [h1]
 simp only [List.any_cons,List.any_nil,Bool.or_false,h2,Bool.not_or]
structure MustOk (must:Call->Call->Bool) (h:List Call):Prop where
 ret : ∀ c∈h,∀ d∈h,must c d=true->0<c.to
 irr : ∀ c∈h,must c c=false
theorem bef_must {h:List Call} (hok : ∀ c∈h,callOk c=true):MustOk bef h:=by
 refine ⟨fun c hc d _ hb => ?_,fun c hc => ?_⟩
 ·have:=(callOk_iff c).1 (hok c hc)
  simp only [bef,zp4,decide_eq_true_eq] at hb;omega
 ·have:=(callOk_iff c).1 (hok c hc)
  simp only [bef,Bool.and_eq_false_iff,decide_eq_false_iff_not];omega
section
variable {S:List Spec} {h:List Call} {must:Call->Call->Bool}
def closed (must:Call->Call->Bool) (h:List Call) (m:Nat):Prop := ∀ (k i:Nat) (c d:Call),h[k]?=some c->h[i]?=some d->m.testBit i=true->m.testBit k=false->must c d=false
def dead (must:Call->Call->Bool) (h:List Call) (m:Nat):Prop := ∃ (k i:Nat) (c d:Call),h[k]?=some c/\h[i]?=some d/\m.testBit i=true/\m.testBit k=false/\0<c.to/\must c d=true
theorem closed_ins {m i:Nat} {c:Call} (hcl:closed must h m) (hc:h[i]?=some c) (hf:freeM h must m i c=true):closed must h (ins m i):=by
 intro k j c1 d1 hk hj hb1 hb2
 rw [ins_test,Bool.or_eq_true] at hb1
 rw [ins_test,Bool.or_eq_false_iff] at hb2
 rcases hb1 with hb | hb
 ·exact hcl k j c1 d1 hk hj hb hb2.1
 ·have hij:i=j:=by simpa using hb
  subst hij
  rw [hc] at hj;cases hj
  simp only [freeM,zp4,List.all_eq_true,List.mem_range] at hf
  have:=hf.2 k (zp2.1 hk).1
  rw [hb2.1,hk] at this
  simpa using this
theorem isL_ends {l:List Nat} (hok : ∀ c∈h,callOk c=true) (hn:nums h (cN l)=true):isL h (cN l)=endsM h (maskL l):=by
 unfold isL full endsM
 rw [hn,Bool.true_and]
 congr 1
 refine any_congr fun i hi => ?_
 have hi:=List.mem_range.1 hi
 have hc:=zp1 hi
 have hcm:=zp6 hi
 generalize h[i]=c at hc hcm
 have:=(callOk_iff c).1 (hok c hcm)
 rw [hc,Option.map_some,Option.map_some,Option.getD_some,Option.getD_some,maskL_test]
 have e1:decide (c.to≠0)=decide (0<c.to):=by rw [decide_eq_decide];omega
 have e2:(cN l).contains (i:Int)=decide (i∈l):=by rw [Bool.eq_iff_iff];simp [cN_mem]
 rw [e1,e2]
end
end Go.Am

namespace Go.Am
open Go
section
variable (S:List Spec) (h:List Call) (hs:SpecsOk S) (hl:h.length<Lg)
include hs hl
end
end Go.Am
