/- Own text: ML34. -/
import Derived.Test.YtlljehkmemajkaaM14p0
import Derived.Test.YtlljehkmemajkaaML22
set_option maxRecDepth 100000
set_option maxHeartbeats 2000000
set_option linter.unusedVariables false
set_option linter.unusedSimpArgs false
set_option linter.unusedSectionVars false
namespace Go.Am
open Go
def eMp (l:List (Int×Int)):List (D×D):=l.map fun p=>(.int .i64 p.1,.int .u64 p.2)
def gI:List (Int×Int)->Int->Option Int
 | [],_=>none
 | p::l,k=>if p.1=k then some p.2 else gI l k
def pI:List (Int×Int)->Int->Int->List (Int×Int)
 | [],k,m=>[(k,m)]
 | p::l,k,m=>if p.1=k then (k,m)::l else p::pI l k m
theorem lkM (l:List (Int×Int)) (k:Int):lk Ar.std (cI .u64) (eMp l) (.int .i64 k)=some (gI l k):=by
 have e:Ar.std.mget (eMp l) (.int .i64 k)=(gI l k).map (.int .u64):=by
  show Am.mget _ _=_
  induction l with
  | nil=>rfl
  | cons p l ih =>
    unfold eMp at ih ⊢
    simp only [List.map_cons,Am.mget,gI]
    by_cases h:p.1=k
    ·subst h;simp
    ·have : ¬ (D.int .i64 p.1=D.int .i64 k):=fun e=>h (by injection e)
     rw [if_neg this,if_neg h,ih]
 unfold lk
 rw [e]
 cases gI l k <;> rfl
theorem mputM (l:List (Int×Int)) (k m:Int):Ar.std.mput (eMp l) (.int .i64 k) (.int .u64 m)=eMp (pI l k m):=by
 show Am.mput _ _ _=_
 induction l with
 | nil=>rfl
 | cons p l ih =>
   unfold eMp at ih ⊢
   simp only [List.map_cons,Am.mput,pI]
   by_cases h:p.1=k
   ·subst h;simp
   ·have : ¬ (D.int .i64 p.1=D.int .i64 k):=fun e=>h (by injection e)
    rw [if_neg this,if_neg h,ih];rfl
theorem gI_pI (l:List (Int×Int)) (k m v:Int):gI (pI l k m) v=if k=v then some m else gI l v:=by
 induction l with
 | nil=>rfl
 | cons p l ih =>
   simp only [pI]
   by_cases h:p.1=k
   ·rw [if_pos h]
    simp only [gI]
    by_cases hv:k=v
    ·rw [if_pos hv,if_pos hv]
    ·rw [if_neg hv,if_neg hv,if_neg (by rw [h];exact hv)]
   ·rw [if_neg h]
    simp only [gI,ih]
    by_cases hv:p.1=v
    ·rw [if_pos hv,if_neg (fun e=>h (hv.trans e.symm)),if_pos hv]
    ·rw [if_neg hv,if_neg hv]
theorem pI_keys (l:List (Int×Int)) (k m:Int):(pI l k m).map (·.1)=if k∈l.map (·.1) then l.map (·.1) else l.map (·.1)++[k]:=by
 induction l with
 | nil=>rfl
 | cons p l ih =>
   simp only [pI]
   by_cases h:p.1=k
   ·rw [if_pos h]
    simp [h]
   ·rw [if_neg h]
    simp only [List.map_cons,ih]
    by_cases hk:k∈l.map (·.1)
    ·rw [if_pos hk,if_pos (List.mem_cons_of_mem _ hk)]
    ·rw [if_neg hk,if_neg (by rw [List.mem_cons];rintro (e | e);exact h e.symm;exact hk e)];rfl
theorem gI_mem {l:List (Int×Int)} {v:Int}:v∈l.map (·.1) ↔ ∃ m,gI l v=some m:=by
 induction l with
 | nil=>simp [gI]
 | cons p l ih =>
   simp only [List.map_cons,List.mem_cons,gI]
   by_cases h:p.1=v
   ·rw [if_pos h];simp [h]
   ·rw [if_neg h,<-ih]
    constructor
    ·rintro (e | e)
     ·exact absurd e.symm h
     ·exact e
    ·exact .inr
theorem orF : ∀ (a:Fin 8) (t:Fin 3),bitsStd .or .u64 (a.val:Int) (IntKind.u64.wrap (1*2 ^ (min t.val IntKind.u64.bits)))=((a.val ||| 2 ^ t.val:Nat):Int):=by decide +kernel
theorem or8 : ∀ (a:Fin 8) (t:Fin 3),(a.val ||| 2 ^ t.val)<8:=by decide +kernel
theorem aloneF : ∀ a:Fin 8,decide (bitsStd .and .u64 (a.val:Int) (IntKind.u64.wrap ((a.val:Int)-1))=0)=decide (∀ t u:Fin 3,a.val.testBit t.val=true->a.val.testBit u.val=true->t=u):=by decide +kernel
theorem orM {a:Nat} (ha:a<8) {t:Nat} (ht:t<3):Ar.std.bits .or .u64 (a:Int) (Ar.std.shl .u64 1 (t:Int))=((a ||| 2 ^ t:Nat):Int):=orF ⟨a,ha⟩ ⟨t,ht⟩
theorem M92_eq {a:Nat} (ha:a<8):M92 Ar.std (a:Int)=some (decide (∀ t u:Fin 3,a.testBit t.val=true->a.testBit u.val=true->t=u)):=by
 unfold M92
 have:=aloneF ⟨a,ha⟩
 exact congrArg some this
structure Cov (P:Pg) (Pr:Nat->Nat->Prop) (q:Ac->Prop) (l:List (Int×Int)):Prop where
 nd:(l.map (·.1)).Nodup
 no : ∀ v,gI l v=none -> ∀ t i,Pr t i->q (acA P (t,i))->(acA P (t,i)).2.1≠v
 ye : ∀ v m,gI l v=some m->0<=v/\v<=2/\(∃ t i,Pr t i/\q (acA P (t,i))/\(acA P (t,i)).2.1=v) /\ ∃ a:Nat,m=a/\a<8 /\ ∀ t,t<3->(a.testBit t=true ↔ ∃ i,Pr t i/\q (acA P (t,i))/\(acA P (t,i)).2.1=v)
theorem Cov.nil (P:Pg) (q:Ac->Prop) {Pr:Nat->Nat->Prop} (h : ∀ t i,¬ Pr t i):Cov P Pr q [] :=
 ⟨.nil,fun v _ t i hp=>absurd hp (h t i),fun v m h=>by cases h⟩
theorem Cov.same {P:Pg} {Pr Pr':Nat->Nat->Prop} {q:Ac->Prop} {l:List (Int×Int)} (h:Cov P Pr q l) (hp : ∀ t i,Pr' t i/\q (acA P (t,i))↔Pr t i/\q (acA P (t,i))):Cov P Pr' q l:=by
 refine ⟨h.nd,fun v hv t i hpr hq=>h.no v hv t i ((hp t i).1 ⟨hpr,hq⟩).1 hq,fun v m hm => ?_⟩
 obtain ⟨h1,h2,⟨t,i,h3,h4,h5⟩,a,h6,h7,h8⟩:=h.ye v m hm
 refine ⟨h1,h2,⟨t,i,((hp t i).2 ⟨h3,h4⟩).1,h4,h5⟩,a,h6,h7,fun u hu=>(h8 u hu).trans ?_⟩
 constructor
 ·rintro ⟨j,g1,g2,g3⟩;exact ⟨j,((hp u j).2 ⟨g1,g2⟩).1,g2,g3⟩
 ·rintro ⟨j,g1,g2,g3⟩;exact ⟨j,((hp u j).1 ⟨g1,g2⟩).1,g2,g3⟩
theorem Cov.put {P:Pg} {Pr Pr':Nat->Nat->Prop} {q:Ac->Prop} {l:List (Int×Int)} (h:Cov P Pr q l) {t i:Nat} (ht:t<3) (hq:q (acA P (t,i))) {c:Int} (hc:(acA P (t,i)).2.1=c) (c0:0<=c) (c2:c<=2)
  (hp : ∀ u j,Pr' u j↔Pr u j\/(u=t/\j=i)) : ∃ a:Nat,a<8/\(gI l c=none/\a=0\/gI l c=some (a:Int))/\Cov P Pr' q (pI l c ((a ||| 2 ^ t:Nat):Int)):=by
 have hor : ∀ {a u:Nat},(a ||| 2 ^ t).testBit u=true↔a.testBit u=true\/u=t:=fun {a u}=>by
  rw [Nat.testBit_or,Nat.testBit_two_pow,Bool.or_eq_true,decide_eq_true_eq]
  constructor
  ·rintro (h | h);exact .inl h;exact .inr h.symm
  ·rintro (h | h);exact .inl h;exact .inr h.symm
 have key : ∀ a:Nat,a<8->(∀ u,u<3->(a.testBit u=true ↔ ∃ j,Pr u j/\q (acA P (u,j))/\(acA P (u,j)).2.1=c))->Cov P Pr' q (pI l c ((a ||| 2 ^ t:Nat):Int)):=by
  intro a ha hb
  refine ⟨?_,fun v hv u j hpr hqu => ?_,fun v m hm => ?_⟩
  ·rw [pI_keys]
   split
   ·exact h.nd
   ·rename_i hn
    rw [List.nodup_append]
    exact ⟨h.nd,by simp,fun x hx y hy=>by simp at hy;subst hy;exact fun e=>hn (e▸hx)⟩
  ·rw [gI_pI] at hv
   split at hv
   ·cases hv
   ·rename_i hne
    rcases (hp u j).1 hpr with hpr | ⟨rfl,rfl⟩
    ·exact h.no v hv u j hpr hqu
    ·rw [hc];exact hne
  ·rw [gI_pI] at hm
   split at hm
   ·rename_i hcv
    subst hcv
    cases hm
    refine ⟨c0,c2,⟨t,i,(hp t i).2 (.inr ⟨rfl,rfl⟩),hq,hc⟩,_,rfl,or8 ⟨a,ha⟩ ⟨t,ht⟩,fun u hu => ?_⟩
    rw [hor,hb u hu]
    constructor
    ·rintro (⟨j,g1,g2,g3⟩ | rfl)
     ·exact ⟨j,(hp u j).2 (.inl g1),g2,g3⟩
     ·exact ⟨i,(hp u i).2 (.inr ⟨rfl,rfl⟩),hq,hc⟩
    ·rintro ⟨j,g1,g2,g3⟩
     rcases (hp u j).1 g1 with g1 | ⟨g1,_⟩
     ·exact .inl ⟨j,g1,g2,g3⟩
     ·exact .inr g1
   ·rename_i hne
    obtain ⟨h1,h2,⟨t',i',h3,h4,h5⟩,b,h6,h7,h8⟩:=h.ye v m hm
    refine ⟨h1,h2,⟨t',i',(hp t' i').2 (.inl h3),h4,h5⟩,b,h6,h7,fun u hu=>(h8 u hu).trans ?_⟩
    constructor
    ·rintro ⟨j,g1,g2,g3⟩;exact ⟨j,(hp u j).2 (.inl g1),g2,g3⟩
    ·rintro ⟨j,g1,g2,g3⟩
     rcases (hp u j).1 g1 with g1 | ⟨rfl,rfl⟩
     ·exact ⟨j,g1,g2,g3⟩
     ·exact absurd (hc.symm.trans g3) hne
 cases hg:gI l c with
 | none =>
   refine ⟨0,by omega,.inl ⟨rfl,rfl⟩,key 0 (by omega) fun u hu => ?_⟩
   constructor
   ·intro h;simp at h
   ·rintro ⟨j,g1,g2,g3⟩;exact absurd g3 (h.no c hg u j g1 g2)
 | some m =>
   obtain ⟨_,_,_,a,rfl,h7,h8⟩:=h.ye c m hg
   exact ⟨a,h7,.inr rfl,key a h7 h8⟩
def qW (a:Ac):Prop:=a.1≠3
def qS (a:Ac):Prop:=a.1=2
def Past (t i:Nat):Nat->Nat->Prop:=fun u j=>u<t\/(u=t/\j<i)
theorem past_succ {t i u j:Nat}:Past t (i+1) u j↔Past t i u j\/(u=t/\j=i):=by unfold Past;omega
theorem M51L0_eq {P:Pg} (hv:VP P) {t:Nat} (ht:t<P.length) {U S:List (Int×Int)} (hU:Cov P (fun u j=>inP P (u,j)/\Past t 0 u j) qW U) (hS:Cov P (fun u j=>inP P (u,j)/\Past t 0 u j) qS S) :
  ∃ U' S',Cov P (fun u j=>inP P (u,j)/\Past (t+1) 0 u j) qW U'/\Cov P (fun u j=>inP P (u,j)/\Past (t+1) 0 u j) qS S'/\iter (M51L0 Ar.std (t:Int) (eT (thr P t))) (0,eMp U,eMp S)=some (eMp U',eMp S'):=by
 have ht3:=lt3 hv ht
 have hl7:=hv.l7 t
 have key:=iter_rel (step:=M51L0 Ar.std (t:Int) (eT (thr P t))) (thr P t).length (fun (s:List (Int×Int)×List (Int×Int)) (i:Nat)=>((i:Int),eMp s.1,eMp s.2))
  (fun i s=>Cov P (fun u j=>inP P (u,j)/\Past t i u j) qW s.1/\Cov P (fun u j=>inP P (u,j)/\Past t i u j) qS s.2) (fun s=>(eMp s.1,eMp s.2))
  (fun i s hi hR=>by
   obtain ⟨U,S⟩:=s
   obtain ⟨hU,hS⟩:=hR
   simp only at hU hS
   have hget:=aAt_get hi
   have hact:=hv.act t i hi
   have hin:inP P (t,i):=⟨ht,hi⟩
   have ew:Ar.std.wrp .i64 (Ar.std.zadd (i:Int) 1)=((i+1:Nat):Int):=by simp only [std_wrp,std_zadd];exact wrap1 (n:=10) (by omega) (by omega)
   have hp : ∀ u j,(inP P (u,j)/\Past t (i+1) u j)↔(inP P (u,j)/\Past t i u j)\/(u=t/\j=i):=fun u j=>by
    rw [past_succ]
    constructor
    ·rintro ⟨h1,h2 | h2⟩
     ·exact .inl ⟨h1,h2⟩
     ·exact .inr h2
    ·rintro (⟨h1,h2⟩ | ⟨rfl,rfl⟩)
     ·exact ⟨h1,.inl h2⟩
     ·exact ⟨hin,.inr ⟨rfl,rfl⟩⟩
   have same : ∀ {q:Ac->Prop} {l:List (Int×Int)},Cov P (fun u j=>inP P (u,j)/\Past t i u j) q l -> ¬ q (acA P (t,i))->Cov P (fun u j=>inP P (u,j)/\Past t (i+1) u j) q l:=fun {q l} h hn =>
    h.same fun u j=>by
     rw [hp]
     constructor
     ·rintro ⟨h1 | ⟨rfl,rfl⟩,h2⟩
      ·exact ⟨h1,h2⟩
      ·exact absurd h2 hn
     ·rintro ⟨h1,h2⟩;exact ⟨.inl h1,h2⟩
   have hz:Ar.std.zlt (t:Int) 0=false:=by simp
   have ea:acA P (t,i)=aAt (thr P t) i:=rfl
   have put : ∀ {q:Ac->Prop} {l:List (Int×Int)},Cov P (fun u j=>inP P (u,j)/\Past t i u j) q l->q (acA P (t,i))->0<=(acA P (t,i)).2.1->(acA P (t,i)).2.1<=2 -> ∃ l',Cov P (fun u j=>inP P (u,j)/\Past t (i+1) u j) q l' /\
     ((lk Ar.std (cI .u64) (eMp l) (.int .i64 (acA P (t,i)).2.1)).bind fun o170=>o170.elim (
       (nk (Ar.std.zlt (t:Int) 0)).bind fun _ =>
       some (Ar.std.mput (eMp l) (.int .i64 (acA P (t,i)).2.1) (.int .u64 (Ar.std.bits .or .u64 0 (Ar.std.shl .u64 1 (t:Int)))))) fun a167 =>
     (nk (Ar.std.zlt (t:Int) 0)).bind fun _ =>
     some (Ar.std.mput (eMp l) (.int .i64 (acA P (t,i)).2.1) (.int .u64 (Ar.std.bits .or .u64 a167 (Ar.std.shl .u64 1 (t:Int))))):Option (List (D×D)))=some (eMp l'):=by
    intro q l h hq h0 h2
    obtain ⟨a,a1,a2,a3⟩:=h.put ht3 hq rfl h0 h2 hp
    refine ⟨_,a3,bt (lkM l _) ?_⟩
    rcases a2 with ⟨a2,rfl⟩ | a2
    ·rw [a2,Option.elim_none,hz]
     refine bnk rfl ?_
     have:=orM (a:=0) (by omega) ht3
     rw [show ((0:Nat):Int)=0 from rfl] at this
     rw [this,mputM]
    ·rw [a2,Option.elim_some,hz]
     refine bnk rfl ?_
     rw [orM a1 ht3,mputM]
   rcases act_cases hact with ⟨h1,c0,c2,_⟩ | ⟨h1,c0,c2,_⟩ | hf
   ·
    obtain ⟨U',u1,u2⟩:=put hU (by rw [ea];unfold qW;omega) (by rw [ea];exact c0) (by rw [ea];exact c2)
    have k2 : ¬ (aAt (thr P t) i).1=2:=by omega
    rw [ea] at u2
    refine ⟨(U',S),⟨u1,same hS (by rw [ea];unfold qS;omega)⟩,?_⟩
    unfold M51L0
    refine cnT (by simp;omega) (bt (gt_enc hget) (bt (v:=(eMp U',eMp S)) (cnF (decide_eq_false k2) (bt (v:=eMp U') (cnT (decide_eq_true h1) (bt u2 rfl)) rfl)) ?_))
    dsimp only
    rw [ew]
   ·
    obtain ⟨U',u1,u2⟩:=put hU (by rw [ea];unfold qW;omega) (by rw [ea];exact c0) (by rw [ea];exact c2)
    obtain ⟨S',s1,s2⟩:=put hS (by rw [ea];exact h1) (by rw [ea];exact c0) (by rw [ea];exact c2)
    rw [ea] at u2 s2
    refine ⟨(U',S'),⟨u1,s1⟩,?_⟩
    unfold M51L0
    refine cnT (by simp;omega) (bt (gt_enc hget) (bt (v:=(eMp U',eMp S')) (cnT (decide_eq_true h1) (bt s2 (bt u2 rfl))) ?_))
    dsimp only
    rw [ew]
   ·
    have k1 : ¬ (aAt (thr P t) i).1=1:=by rw [hf];decide
    have k2 : ¬ (aAt (thr P t) i).1=2:=by rw [hf];decide
    refine ⟨(U,S),⟨same hU (by rw [ea,hf];unfold qW;simp),same hS (by rw [ea,hf];unfold qS;simp)⟩,?_⟩
    unfold M51L0
    refine cnT (by simp;omega) (bt (gt_enc hget) (bt (v:=(eMp U,eMp S)) (cnF (decide_eq_false k2) (bt (v:=eMp U) (cnF (decide_eq_false k1) rfl) rfl)) ?_))
    dsimp only
    rw [ew])
  (fun s _=>by
   unfold M51L0
   exact cnF (by simp) rfl) (U,S) ⟨hU,hS⟩
 obtain ⟨⟨U',S'⟩,⟨h1,h2⟩,h3⟩:=key
 have hp : ∀ u j,(inP P (u,j)/\Past (t+1) 0 u j)↔(inP P (u,j)/\Past t (thr P t).length u j):=fun u j=>by
  constructor
  ·rintro ⟨g1,g2⟩
   refine ⟨g1,?_⟩
   unfold Past at *
   by_cases hu:u=t
   ·subst hu;exact .inr ⟨rfl,g1.2⟩
   ·omega
  ·rintro ⟨g1,g2⟩
   refine ⟨g1,?_⟩
   unfold Past at *
   omega
 exact ⟨U',S',h1.same fun u j=>by rw [hp],h2.same fun u j=>by rw [hp],h3⟩
theorem M51_eq {P:Pg} (hv:VP P) : ∃ b,M51 Ar.std (eP P)=some (b,0)/\(b=true ↔ ¬ noRace P):=by
 have e:=M23_eq (VP.short hv)
 rw [VP.to hv] at e
 have hn3:=hv.n3
 have key:=iter_rel (step:=M51L1 Ar.std (eP P)) P.length (fun (s:List (Int×Int)×List (Int×Int)) (t:Nat)=>((t:Int),eMp s.1,eMp s.2))
  (fun t s=>Cov P (fun u j=>inP P (u,j)/\Past t 0 u j) qW s.1/\Cov P (fun u j=>inP P (u,j)/\Past t 0 u j) qS s.2) (fun s=>(eMp s.1,eMp s.2))
  (fun t s ht hR=>by
   obtain ⟨U',S',h1,h2,h3⟩:=M51L0_eq hv ht hR.1 hR.2
   refine ⟨(U',S'),⟨h1,h2⟩,?_⟩
   unfold M51L1
   have ew:Ar.std.wrp .i64 (Ar.std.zadd (t:Int) 1)=((t+1:Nat):Int):=by simp only [std_wrp,std_zadd];exact wrap1 (n:=10) (by omega) (by omega)
   refine cnT (by simp;omega) (bt (gt_eP (thr_get ht)) (bt h3 ?_))
   dsimp only
   rw [ew])
  (fun s _=>by
   unfold M51L1
   exact cnF (by simp) rfl) ([],[]) ⟨Cov.nil P qW (fun t i h=>by unfold Past at h;omega),Cov.nil P qS (fun t i h=>by unfold Past at h;omega)⟩
 obtain ⟨⟨U,S⟩,⟨hU,hS⟩,h⟩:=key
 have h':iter (M51L1 Ar.std (eP P)) (0,[],[])=some (eMp U,eMp S):=h
 have hall : ∀ u j,(inP P (u,j)/\Past P.length 0 u j)↔inP P (u,j):=fun u j=>⟨fun g=>g.1,fun g=>⟨g,by unfold Past;exact .inl g.1⟩⟩
 have hU:Cov P (fun u j=>inP P (u,j)) qW U:=hU.same fun u j=>by rw [hall]
 have hS:Cov P (fun u j=>inP P (u,j)) qS S:=hS.same fun u j=>by rw [hall]

 have hks:(eMp S).map (fun p=>keyInt p.1)=S.map (·.1):=by unfold eMp;rw [List.map_map];rfl
 have hrange : ∀ v∈S.map (·.1),0<=v/\v<=2:=fun v hv'=>by
  obtain ⟨m,hm⟩:=gI_mem.1 hv'
  have:=hS.ye v m hm
  exact ⟨this.1,this.2.1⟩
 have hlen:S.length<=3:=by
  have:=nodup_le (m:=[(0:Int),1,2]) hS.nd (fun v hv'=>by have:=hrange v hv';simp;omega)
  simpa using this
 have hkf:keysF (eMp S)=some (((S.map (·.1)).mergeSort fun x y=>decide (x<=y)).map (.int .i64)):=by
  unfold keysF
  rw [hks,if_pos]
  refine ⟨by unfold eMp;simp;omega,?_,hS.nd⟩
  rw [List.all_eq_true]
  intro p hp
  obtain ⟨q,hq,rfl⟩:=List.mem_map.1 hp
  have:=hrange q.1 (List.mem_map.2 ⟨q,hq,rfl⟩)
  unfold keyOk
  simp;omega
 have hperm:((S.map (·.1)).mergeSort fun x y=>decide (x<=y)).Perm (S.map (·.1)):=List.mergeSort_perm _ _
 generalize ((S.map (·.1)).mergeSort fun x y=>decide (x<=y))=zs at hkf hperm
 have hzl:zs.length<=3:=by rw [hperm.length_eq,List.length_map];exact hlen
 let p:Int->Bool:=fun v => !(decide (∀ t u:Fin 3,((gI U v).getD 0).toNat.testBit t.val=true->((gI U v).getD 0).toNat.testBit u.val=true->t=u))
 have hloop:iter (M51L2 Ar.std (eMp U) (enc (cI .i64) zs)) 0=some (bif zs.any p then .inr () else .inl ()):=by
  refine iter_any zs p (Sum.inr ()) (Sum.inl ()) (fun i v hg hi => ?_) ?_
  ·have ew:Ar.std.wrp .i64 (Ar.std.zadd (i:Int) 1)=((i+1:Nat):Int):=by simp only [std_wrp,std_zadd];exact wrap1 (n:=10) (by omega) (by omega)
   unfold M51L2
   refine cnT (by simp;omega) (bt (gt_enc hg) (bt (v:=p v) (bt (lkM U v) ?_) ?_))
   ·cases hgu:gI U v with
    | none =>
      rw [Option.elim_none]
      refine bt (M92_eq (a:=0) (by omega)) ?_
      show some _=some (!decide _)
      rw [hgu];rfl
    | some m =>
      obtain ⟨_,_,_,a,rfl,ha,_⟩:=hU.ye v m hgu
      rw [Option.elim_some]
      refine bt (M92_eq ha) ?_
      show some _=some (!decide _)
      rw [hgu];rfl
   ·rw [ew]
    cases p v <;> rfl
  ·unfold M51L2
   exact cnF (by simp) rfl
 refine ⟨zs.any p,?_,?_⟩
 ·unfold M51
  refine bt e (cnT rfl (bt h' ?_))
  dsimp only
  refine bt (v:=()) rfl (bt (show M93 Ar.std (eMp U) (eMp S)=some (enc (cI .i64) zs) from hkf) (bt hloop ?_))
  cases zs.any p <;> rfl
 ·rw [List.any_eq_true]
  constructor
  ·rintro ⟨v,hvz,hp⟩ hn
   obtain ⟨m,hm⟩:=gI_mem.1 (hperm.mem_iff.1 hvz)
   obtain ⟨_,_,⟨s,i,s1,s2,s3⟩,_⟩:=hS.ye v m hm
   have hp : ¬ (∀ t u:Fin 3,((gI U v).getD 0).toNat.testBit t.val=true->((gI U v).getD 0).toNat.testBit u.val=true->t=u):=by
    have:(!(decide (∀ t u:Fin 3,((gI U v).getD 0).toNat.testBit t.val=true->((gI U v).getD 0).toNat.testBit u.val=true->t=u)))=true:=hp
    simpa using this
   cases hgu:gI U v with
   | none=>exact hU.no v hgu s i s1 (by unfold qS at s2;unfold qW;omega) s3
   | some k =>
     obtain ⟨_,_,_,a,rfl,ha,hb⟩:=hU.ye v k hgu
     apply hp
     intro t u h1 h2
     rw [hgu] at h1 h2
     obtain ⟨j,j1,j2,j3⟩:=(hb t.val t.2).1 h1
     obtain ⟨j',k1,k2,k3⟩:=(hb u.val u.2).1 h2
     have no : ∀ (w:Nat) (x:Nat),inP P (w,x)->qW (acA P (w,x))->(acA P (w,x)).2.1=v->w=s:=fun w x g1 g2 g3=>by
      refine Classical.byContradiction fun hne => ?_
      have hi:=hn (s,i) (w,x) s1 g1 (fun e=>hne e.symm)
      unfold qS at s2
      unfold qW at g2
      rcases hi with hi | hi | hi | hi
      ·omega
      ·exact g2 hi
      ·exact hi (s3.trans g3.symm)
      ·exact hi.1 s2
     have e1:=no t.val j j1 j2 j3
     have e2:=no u.val j' k1 k2 k3
     exact Fin.ext (e1.trans e2.symm)
  ·intro hn
   have : ∃ x y,inP P x/\inP P y/\x.1≠y.1 /\ ¬ indep (acA P x) (acA P y):=by
    refine Classical.byContradiction fun hno=>hn fun x y hx hy hxy=>Classical.byContradiction fun hi=>hno ⟨x,y,hx,hy,hxy,hi⟩
   obtain ⟨x,y,hx,hy,hxy,hi⟩:=this
   obtain ⟨n1,n2,n3,n4⟩:=not_indep hi
   have two : ∀ x y:Pt,inP P x->inP P y->x.1≠y.1->(acA P x).1=2->(acA P y).1≠3->(acA P x).2.1=(acA P y).2.1 -> ∃ v∈zs,p v=true:=by
    intro x y hx hy hxy h1 h2 h3
    refine ⟨(acA P x).2.1,?_,?_⟩
    ·refine hperm.mem_iff.2 (gI_mem.2 ?_)
     cases hg:gI S (acA P x).2.1 with
     | none=>exact absurd rfl (hS.no _ hg x.1 x.2 hx h1)
     | some m=>exact ⟨m,rfl⟩
    ·have : ¬ (∀ t u:Fin 3,((gI U (acA P x).2.1).getD 0).toNat.testBit t.val=true->((gI U (acA P x).2.1).getD 0).toNat.testBit u.val=true->t=u):=by
      intro hall'
      have hwx:qW (acA P x):=by unfold qW;omega
      cases hgu:gI U (acA P x).2.1 with
      | none=>exact hU.no _ hgu x.1 x.2 hx hwx rfl
      | some k =>
        obtain ⟨_,_,_,a,rfl,ha,hb⟩:=hU.ye _ k hgu
        have b1:=(hb x.1 (lt3 hv hx.1)).2 ⟨x.2,hx,hwx,rfl⟩
        have b2:=(hb y.1 (lt3 hv hy.1)).2 ⟨y.2,hy,h2,h3.symm⟩
        rw [hgu] at hall'
        have:=hall' ⟨x.1,lt3 hv hx.1⟩ ⟨y.1,lt3 hv hy.1⟩ b1 b2
        exact hxy (congrArg Fin.val this)
     show (!(decide _))=true
     rw [decide_eq_false this];rfl
   rcases n4 with n4 | n4
   ·exact two x y hx hy hxy n4 n2 n3
   ·exact two y x hy hx (fun e=>hxy e.symm) n4 n1 n3.symm
theorem IsO.one {k:Nat} (hK:Kind k) {P:Pg} (hv:VP P) (hn:noRace P) {O:List (List Int)} (h:IsO k P O) {o:List Int} (ho:Can 3 P o):O=[o]:=by
 have up : ∀ o',Can k P o'->Can 3 P o':=fun o' h=>by
  rcases hK with rfl | rfl | rfl
  ·exact h.strict.loose
  ·exact h.loose
  ·exact h
 have hne:=h.ne hK hv
 match O,hne with
 | [x],_ =>
   have:=race_one hn (up x ((h.mem x).1 (by simp))) ho
   rw [this]
 | x::y::r,_ =>
   exfalso
   have h1:=race_one hn (up x ((h.mem x).1 (by simp))) ho
   have h2:=race_one hn (up y ((h.mem y).1 (by simp))) ho
   have:=List.nodup_cons.1 (SS.nodup h.ss)
   exact this.1 (by rw [h1,h2];simp)
theorem M25_self {O:List (List Int)} (hO : ∀ x∈O,SmL x) (hl:O.length<4294967296):M25 Ar.std (eTab O) (eTab O)=some true:=by
 unfold M25
 refine cnT (by simp) (bt (v := .inl ()) ?_ rfl)
 have:=iter_any (step:=M25L0 Ar.std (eTab O) (eTab O)) O (fun _=>false) (.inr ()) (.inl ()) (fun i x hx hi=>by
  have sm:=hO x (List.mem_of_getElem? hx)
  have ew:Ar.std.wrp .i64 (Ar.std.zadd (i:Int) 1)=((i+1:Nat):Int):=by simp only [std_wrp,std_zadd];exact wrap1 (n:=4294967296) (by omega) (by omega)
  unfold M25L0
  refine cnT (by simp [hi]) (bt (gt_eTab hx) (bt (gt_eTab hx) (bt (M30_eq sm.1 sm.1 sm.2 sm.2) ?_)))
  rw [cmpD_lt.2.2 rfl]
  refine cnT (by simp) ?_
  rw [ew];rfl) (by
  unfold M25L0
  exact cnF (by simp) rfl)
 rw [this]
 have:(O.any fun _=>false)=false:=by simp
 rw [this];rfl
theorem vp_one {P:Pg} (hv:VP P):VP (P.take 1):=by
 have hn1:=hv.n1
 have h:=VP.to hv
 refine VP.of ?_
 unfold vPrg allW at *
 rw [zp4,zp4,decide_eq_true_eq] at *
 obtain ⟨⟨h1,h2⟩,h3⟩:=h
 match P,hn1 with
 | p::r,_ =>
   simp only [List.take_succ_cons,List.take_zero]
   simp only [List.all_cons,zp4,List.map_cons,List.sum_cons] at h1 h3 ⊢
   refine ⟨⟨⟨h1.1,rfl⟩,rfl,rfl⟩,?_⟩
   simp;omega
theorem one_noRace {P:Pg} (h:P.length<=1):noRace P:=fun x y hx hy hxy=>by
 have:=hx.1
 have:=hy.1
 omega
theorem M14_ok (P:Pg) (hP:P.length<9223372036854775808) (hl : ∀ t∈P,t.length<9223372036854775808):M14 Ar.std (eP P)=some true:=by
 obtain ⟨b,e,hb⟩:=M17_eq P hP hl
 unfold M14
 cases b with
 | true=>exact bt (v:=true) (bt e rfl) (cnT rfl (bt M18_eq rfl))
 | false =>
   have hS:=hb rfl
   have e2:=M24_eq hS
   cases hv:vPrg P with
   | false =>
     rw [hv] at e2
     exact bt (v:=true) (bt e (cnF rfl (bt e2 rfl))) (cnT rfl (bt M18_eq rfl))
   | true =>
     rw [hv] at e2
     have vp:=VP.of hv
     refine bt (v:=false) (bt e (cnF rfl (bt e2 rfl))) (cnF rfl ?_)
     obtain ⟨r,e3,hr⟩:=M51_eq vp
     have hQ : ∃ Q:Pg,VP Q/\noRace Q/\(bif r then (sl Ar.std (eP P) 0 1).bind fun l17=>some l17 else some (eP P):Option (List D))=some (eP Q):=by
      cases r with
      | false =>
        refine ⟨P,vp,?_,rfl⟩
        refine Classical.byContradiction fun h => ?_
        have:=hr.2 h
        cases this
      | true =>
        refine ⟨P.take 1,vp_one vp,one_noRace (by simp;omega),?_⟩
        have hn1:=vp.n1
        refine cnT rfl (bt (v:=eP (P.take 1)) ?_ rfl)
        unfold eP
        rw [sl_enc (by omega) (by omega) (by simp;omega)]
        simp [List.map_take]
     obtain ⟨Q,vq,hn,e4⟩:=hQ
     obtain ⟨o,ho⟩:=can_some (k:=3) (.inr (.inr rfl)) vq
     obtain ⟨O1,i1,e5⟩:=M19_of vq (z:=1) rfl
     obtain ⟨O2,i2,e6⟩:=M19_of vq (z:=2) rfl
     obtain ⟨O3,i3,e7⟩:=M19_of vq (z:=3) rfl
     have q1:=IsO.one (.inl rfl) vq hn i1 ho
     have q2:=IsO.one (.inr (.inl rfl)) vq hn i2 ho
     have q3:=IsO.one (.inr (.inr rfl)) vq hn i3 ho
     have sm:=i3.sm (.inr (.inr rfl)) vq
     rw [q1] at e5
     rw [q2] at e6
     rw [q3] at e7 sm
     have s:=M25_self (O:=[o]) sm (by simp)
     refine bt e3 (cnT rfl (bt e4 (bt e5 (bt e6 (bt e7 (bt (v:=true) ?_ rfl))))))
     simp only [std_zeq,decide_true,cond_true]
     refine cnT (by simp) (bt s (cnT rfl (bt s (cnT rfl (bt M18_eq rfl)))))
end Go.Am
