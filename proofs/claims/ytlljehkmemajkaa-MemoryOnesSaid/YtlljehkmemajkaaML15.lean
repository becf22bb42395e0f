/- Own text: ML15. -/
import Derived.Test.YtlljehkmemajkaaML9
set_option maxRecDepth 100000
set_option maxHeartbeats 2000000
set_option linter.unusedVariables false
set_option linter.unusedSimpArgs false
set_option linter.unusedSectionVars false
namespace Go.Am
open Go
def cmpI (a b:Int):Int:=if a<b then -1 else if b<a then 1 else 0
def cmpL:List Int->List Int->Int
 | [],[]=>0
 | [],_::_ => -1
 | _::_,[]=>1
 | a::l,b::m=>if cmpI a b=0 then cmpL l m else cmpI a b
def ltL (a b:List Int):Prop:=cmpL a b<0
theorem cmpI_zero {a b:Int}:cmpI a b=0↔a=b:=by
 unfold cmpI
 by_cases h1:a<b
 ·rw [if_pos h1];omega
 ·rw [if_neg h1]
  by_cases h2:b<a
  ·rw [if_pos h2];omega
  ·rw [if_neg h2];omega
theorem cmpI_lt {a b:Int}:cmpI a b<0↔a<b:=by
 unfold cmpI
 by_cases h1:a<b
 ·rw [if_pos h1];omega
 ·rw [if_neg h1]
  by_cases h2:b<a
  ·rw [if_pos h2];omega
  ·rw [if_neg h2];omega
theorem cmpL_zero : ∀ {a b:List Int},cmpL a b=0↔a=b
 | [],[]=>by simp [cmpL]
 | [],_::_=>by simp [cmpL]
 | _::_,[]=>by simp [cmpL]
 | a::l,b::m=>by
   unfold cmpL
   split
   ·rename_i h
    rw [cmpL_zero,List.cons.injEq]
    exact ⟨fun e=>⟨cmpI_zero.1 h,e⟩,fun e=>e.2⟩
   ·rename_i h
    rw [List.cons.injEq]
    exact ⟨fun e=>absurd e h,fun e=>absurd (cmpI_zero.2 e.1) h⟩
theorem ltL_cons {a b:Int} {l m:List Int}:ltL (a::l) (b::m)↔a<b\/(a=b/\ltL l m):=by
 unfold ltL
 rw [cmpL]
 split
 ·rename_i h
  have e:=cmpI_zero.1 h
  subst e
  constructor
  ·intro h;exact .inr ⟨rfl,h⟩
  ·rintro (h | h)
   ·omega
   ·exact h.2
 ·rename_i h
  rw [cmpI_lt]
  constructor
  ·exact .inl
  ·rintro (h' | h')
   ·exact h'
   ·exact absurd (cmpI_zero.2 h'.1) h
theorem ltL_irr (a:List Int) : ¬ ltL a a:=by
 unfold ltL;rw [cmpL_zero.2 rfl];omega
theorem ltL_tr : ∀ {a b c:List Int},ltL a b->ltL b c->ltL a c
 | [],[],_,h,_=>absurd h (ltL_irr _)
 | [],_::_,[],_,h=>by simp [ltL,cmpL] at h
 | [],_::_,_::_,_,_=>by simp [ltL,cmpL]
 | _::_,[],_,h,_=>by simp [ltL,cmpL] at h
 | _::_,_::_,[],_,h=>by simp [ltL,cmpL] at h
 | a::l,b::m,c::n,h1,h2=>by
   rw [ltL_cons] at h1 h2 ⊢
   rcases h1 with h1 | ⟨rfl,h1⟩
   ·rcases h2 with h2 | ⟨rfl,_⟩
    ·exact .inl (by omega)
    ·exact .inl h1
   ·rcases h2 with h2 | ⟨rfl,h2⟩
    ·exact .inl h2
    ·exact .inr ⟨rfl,ltL_tr h1 h2⟩
theorem ltL_tot : ∀ {a b:List Int},¬ ltL a b -> ¬ ltL b a->a=b
 | [],[],_,_=>rfl
 | [],_::_,h,_=>absurd (by simp [ltL,cmpL]) h
 | _::_,[],_,h=>absurd (by simp [ltL,cmpL]) h
 | a::l,b::m,h1,h2=>by
   rw [ltL_cons] at h1 h2
   have e:a=b:=by omega
   subst e
   rw [ltL_tot (a:=l) (b:=m) (fun h=>h1 (.inr ⟨rfl,h⟩)) (fun h=>h2 (.inr ⟨rfl,h⟩))]
theorem M118_eq (x y:Int):M118 Ar.std x y=some (cmpI x y):=by
 have h : ∀ z,M138 Ar.std z=some false:=fun z=>by unfold M138;simp
 unfold M118
 rw [h,h]
 unfold cmpI
 simp only [Option.bind_some,cond_false,std_zlt]
 by_cases h1:x<y
 ·rw [if_pos h1];exact cnT (by simp [h1]) rfl
 ·rw [if_neg h1]
  refine cnF (by simp [h1]) ?_
  by_cases h2:y<x
  ·rw [if_pos h2];exact cnT (by simp [h2]) rfl
  ·rw [if_neg h2];exact cnF (by simp [h2]) rfl
theorem M98_eq {a b:List Int} (ha:a.length<4294967296) (hb:b.length<4294967296):M98 Ar.std (eInts a) (eInts b)=some (cmpL a b):=by
 have key : ∀ k i,i+k=a.length->i<=b.length -> ∃ x,iter (M98L0 Ar.std (eInts a) (eInts b)) (i:Int)=some x /\
   Sum.elim (fun _:Unit=>bif Ar.std.zlt (Ar.std.len (eInts a)) (Ar.std.len (eInts b)) then some (-1:Int) else some 0) (fun v:Int=>some v) x=some (cmpL (a.drop i) (b.drop i)):=by
  intro k
  induction k with
  | zero =>
    intro i hi hib
    obtain rfl:i=a.length:=by omega
    refine ⟨.inl (),iter_inr (by unfold M98L0;exact cnF (by simp) rfl),?_⟩
    rw [List.drop_length]
    simp only [Sum.elim_inl,len_enc,std_zlt]
    by_cases h:a.length<b.length
    ·rw [cnT (r:=_) (by simp;omega) rfl,List.drop_eq_getElem_cons h];rfl
    ·rw [cnF (r:=_) (by simp;omega) rfl,List.drop_eq_nil_of_le (by omega)];rfl
  | succ k ih =>
    intro i hi hib
    have hia:i<a.length:=by omega
    have h1:=zp1 hia
    rw [List.drop_eq_getElem_cons hia]
    by_cases hb':i<b.length
    ·have h2:=zp1 hb'
     rw [List.drop_eq_getElem_cons hb']
     have hst:M98L0 Ar.std (eInts a) (eInts b) (i:Int)=some (bif decide (cmpI a[i] b[i]=0) then .inl ((i+1:Nat):Int) else .inr (.inr (cmpI a[i] b[i]))):=by
      unfold M98L0
      refine cnT (by simp;omega) (bt (gt_enc h1) (cnF (by simp;omega) (bt (gt_enc h2) (bt (M118_eq _ _) ?_))))
      simp only [std_zeq,std_wrp,std_zadd]
      rw [i64w _ (by omega) (by omega)]
      cases decide (cmpI a[i] b[i]=0) <;> rfl
     by_cases hz:cmpI a[i] b[i]=0
     ·rw [decide_eq_true hz] at hst
      obtain ⟨x,e1,e2⟩:=ih (i+1) (by omega) (by omega)
      refine ⟨x,by rw [iter_inl hst];exact e1,?_⟩
      rw [e2,cmpL,if_pos hz]
     ·rw [decide_eq_false hz] at hst
      refine ⟨_,iter_inr hst,?_⟩
      rw [cmpL,if_neg hz];rfl
    ·rw [List.drop_eq_nil_of_le (by omega:b.length<=i)]
     refine ⟨.inr 1,iter_inr ?_,rfl⟩
     unfold M98L0
     exact cnT (by simp;omega) (bt (gt_enc h1) (cnT (by simp;omega) rfl))
 obtain ⟨x,e1,e2⟩:=key a.length 0 (by omega) (by omega)
 unfold M98
 refine bt e1 ?_
 simpa using e2
theorem M100_eq {a b:List Int} (ha:a.length<4294967296) (hb:b.length<4294967296):M100 Ar.std (eInts a) (eInts b)=some (decide (a=b)):=by
 unfold M100
 by_cases hl:a.length=b.length
 ·have e:=iter_rng (step:=M100L0 Ar.std (eInts a) (eInts b)) a.length (fun i => !decide (a[i]?=b[i]?)) (.inr ()) (.inl ()) (fun i hi=>by
   have h1:=zp1 hi
   have h2:=zp1 (show i<b.length by omega)
   have hd:decide (a[i]=b[i])=decide (a[i]?=b[i]?):=by
    rw [h1,h2];simp
   unfold M100L0
   refine cnT (by simp;omega) (bt (gt_enc h1) (bt (gt_enc h2) ?_))
   simp only [std_zeq,std_wrp,std_zadd]
   rw [hd,i64w _ (by omega) (by omega)]
   cases decide (a[i]?=b[i]?) <;> rfl) (by unfold M100L0;exact cnF (by simp) rfl)
  refine cnT (by simp [hl]) (bt e ?_)
  cases hb':(List.range a.length).any fun i => !decide (a[i]?=b[i]?) with
  | true =>
    obtain ⟨i,_,h⟩:=List.any_eq_true.1 hb'
    have : ¬ a=b:=fun h'=>by subst h';simp at h
    rw [decide_eq_false this];rfl
  | false =>
    have:a=b:=by
     refine List.ext_getElem? fun i => ?_
     rcases Nat.lt_or_ge i a.length with h | h
     ·have:=(List.any_eq_false.1 hb') i (List.mem_range.2 h)
      simpa using this
     ·rw [List.getElem?_eq_none h,List.getElem?_eq_none (by omega)]
    rw [decide_eq_true this];rfl
 ·refine cnF (by simp;omega) ?_
  rw [decide_eq_false (fun h=>hl (by rw [h]))]
def GH (x:List Int):Prop:=x.length<4294967296
def SS (l:List (List Int)):Prop:=l.Pairwise ltL
section
variable {α:Type} [DecidableEq α]
def keepAt (l:List α) (j:Nat):Bool:=decide (j=0) || !decide (l[j]?=l[j-1]?)
def ddN (l:List α):Nat->List α
 | 0=>[]
 | j+1=>ddN l j++(match l[j]? with | some x=>bif keepAt l j then [x] else [] | none=>[])
theorem ddN_succ {l:List α} {j:Nat} {x:α} (h:l[j]?=some x):ddN l (j+1)=bif keepAt l j then ddN l j++[x] else ddN l j:=by
 show ddN l j++_=_
 rw [h]
 cases keepAt l j <;> simp
theorem ddN_len (l:List α) : ∀ j,(ddN l j).length<=j
 | 0=>Nat.le_refl _
 | j+1=>by
   have:=ddN_len l j
   cases h:l[j]? with
   | none=>show (ddN l j++_).length<=_;rw [h];simp;omega
   | some x =>
     rw [ddN_succ h]
     cases keepAt l j with
     | true=>rw [cond_true,List.length_append];simp;omega
     | false=>rw [cond_false];omega
theorem ddN_id {l:List α} {q:Nat} (hq:q<=l.length) (h : ∀ j,1<=j->j<q->l[j]?≠l[j-1]?) : ∀ j,j<=q->ddN l j=l.take j
 | 0,_=>by simp [ddN]
 | j+1,hj=>by
   have hx:l[j]?=some l[j]:=zp1 (by omega)
   have hk:keepAt l j=true:=by
    unfold keepAt
    by_cases h0:j=0
    ·rw [decide_eq_true h0];rfl
    ·rw [decide_eq_false h0,decide_eq_false (h j (by omega) (by omega))];rfl
   rw [ddN_succ hx,hk,cond_true,ddN_id hq h j (by omega),take_succ_get hx]
theorem ddN_mem {l:List α} : ∀ j,j<=l.length -> ∀ x,x∈ddN l j↔x∈l.take j
 | 0,_,x=>by simp [ddN]
 | j+1,hj,x=>by
   have hx:l[j]?=some l[j]:=zp1 (by omega)
   have ih:=ddN_mem (l:=l) j (by omega) x
   rw [ddN_succ hx,take_succ_get hx,List.mem_append,List.mem_singleton]
   cases hk:keepAt l j with
   | true=>rw [cond_true,List.mem_append,List.mem_singleton,ih]
   | false =>
     rw [cond_false,ih]
     refine ⟨.inl,fun h=>h.elim id fun h => ?_⟩
     unfold keepAt at hk
     rw [Bool.or_eq_false_iff,decide_eq_false_iff_not] at hk
     have he:l[j]?=l[j-1]?:=by simpa using hk.2
     rw [hx] at he
     have hl:j-1<l.length:=by omega
     rw [zp1 hl] at he
     rw [h,Option.some.inj he,List.mem_take_iff_getElem]
     refine ⟨j-1,?_,rfl⟩
     omega
end
theorem ddN_ss {l:List (List Int)} (hs:l.Pairwise fun x y => ¬ ltL y x) : ∀ j,j<=l.length->SS (ddN l j)
 | 0,_=>List.Pairwise.nil
 | j+1,hj=>by
   have hx:l[j]?=some l[j]:=zp1 (by omega)
   have ih:=ddN_ss hs j (by omega)
   rw [ddN_succ hx]
   cases hk:keepAt l j with
   | false=>rw [cond_false];exact ih
   | true =>
     rw [cond_true]
     refine List.pairwise_append.2 ⟨ih,List.pairwise_singleton _ _,fun x hx' y hy => ?_⟩
     rw [List.mem_singleton] at hy
     subst hy
     have hm:=(ddN_mem (l:=l) j (by omega) x).1 hx'
     obtain ⟨i,hi,rfl⟩:=List.mem_take_iff_getElem.1 hm
     have hij:i<j:=by omega
     have hp:=List.pairwise_iff_getElem.1 hs
     have h1:=hp i j (by omega) (by omega) hij
     by_cases hlt:ltL l[i] l[j]
     ·exact hlt
     ·exfalso
      have he:=ltL_tot hlt h1
      unfold keepAt at hk
      rw [Bool.or_eq_true,decide_eq_true_eq] at hk
      have hk:=hk.resolve_left (by omega)
      rw [Bool.not_eq_true',decide_eq_false_iff_not] at hk
      apply hk
      have hl:j-1<l.length:=by omega
      rw [hx,zp1 hl]
      congr 1
      have h2:=hp (j-1) j hl (by omega) (by omega)
      by_cases hi1:i=j-1
      ·subst hi1;exact he.symm
      ·have h3:=hp i (j-1) (by omega) hl (by omega)
       rw [he] at h3
       exact (ltL_tot h3 h2).symm▸rfl
def GHs (n:Nat) (l:List (List Int)):Prop:=l.length=n /\ ∀ x∈l,GH x
theorem GHs.set {n:Nat} {l:List (List Int)} (h:GHs n l) (k:Nat) {x:List Int} (hx:GH x):GHs n (l.set k x) :=
 ⟨by rw [List.length_set];exact h.1,fun y hy=>(List.mem_or_eq_of_mem_set hy).elim (h.2 y) fun e=>e▸hx⟩
theorem lenHis (l:List (List Int)):Ar.std.len (eTab l)=(l.length:Int):=by simp
theorem gcHis {l:List (List Int)} {i:Nat} {x:List Int} (h:l[i]?=some x) {z:Nat} (hz:z=i):gc Ar.std (cL 1) (eTab l) z=some (eInts x):=by
 subst hz
 unfold eTab
 exact gc_enc (by rw [List.getElem?_map,h];rfl)
theorem setHis (l:List (List Int)) (k:Nat) (x:List Int) {z:Nat} (hz:z=k):Ar.std.lset (eTab l) z (.list 1 (eInts x))=eTab (l.set k x):=by
 subst hz
 show (eTab l).set _ _=_
 unfold eTab
 rw [List.map_set,<-enc_set];rfl
theorem M99L0_eq {n q:Nat} (hn:n<=5000000) (hq:1<=q) (hqn:q<n) {l:List (List Int)} (hl:GHs n l) (hdup:l[q]?=l[q-1]?) (hno : ∀ j,1<=j->j<q->l[j]?≠l[j-1]?) :
  ∃ (l':List (List Int)),q<=(ddN l n).length/\(ddN l n).length<n/\GHs n l'/\l'.take (ddN l n).length=ddN l n/\iter (M99L0 Ar.std 0 (n:Int) (q:Int)) ((q:Int),1,eTab l)=some (((ddN l n).length:Int),eTab l'):=by
 have hll:=hl.1
 have h0:ddN l (q+1)=l.take q:=by
  have hx:l[q]?=some l[q]:=zp1 (by omega)
  have hk:keepAt l q=false:=by
   unfold keepAt
   rw [decide_eq_false (by omega),decide_eq_true hdup];rfl
  rw [ddN_succ hx,hk,cond_false]
  exact ddN_id (q:=q) (by omega) hno q (Nat.le_refl _)
 obtain ⟨⟨k,l'⟩,⟨h1,h2,h3,h4,h5,h6⟩,e⟩:=iter_rel (step:=M99L0 Ar.std 0 (n:Int) (q:Int)) (n-q-1) (fun (s:Nat×List (List Int)) (i:Nat)=>((s.1:Int),((i+1:Nat):Int),eTab s.2))
  (fun i s=>q<=s.1/\s.1<=q+i/\GHs n s.2/\s.1=(ddN l (q+i+1)).length/\s.2.take s.1=ddN l (q+i+1) /\ ∀ j,q+i<=j->s.2[j]?=l[j]?) (fun s=>((s.1:Int),eTab s.2))
  (fun i s hi ⟨g1,g2,g3,g4,g5,g6⟩=>by
   obtain ⟨k,m⟩:=s
   simp only at g1 g2 g3 g4 g5 g6
   have hm:=g3.1
   have hx:l[q+i+1]?=some l[q+i+1]:=zp1 (by omega)
   have hy:l[q+i]?=some l[q+i]:=zp1 (by omega)
   have mx:m[q+i+1]?=some l[q+i+1]:=by rw [g6 _ (by omega),hx]
   have my:m[q+i]?=some l[q+i]:=by rw [g6 _ (by omega),hy]
   have gx:=hl.2 _ (List.mem_of_getElem? hx)
   have gy:=hl.2 _ (List.mem_of_getElem? hy)
   have hr:=M100_eq gx gy
   have hk:keepAt l (q+i+1) = !decide (l[q+i+1]=l[q+i]):=by
    unfold keepAt
    rw [decide_eq_false (by omega),Bool.false_or,show q+i+1-1=q+i by omega,hx,hy]
    congr 1
    exact decide_eq_decide.2 ⟨fun h=>Option.some.inj h,fun h=>by rw [h]⟩
   have hdd:=ddN_succ hx
   rw [hk] at hdd
   have hw:IntKind.i64.wrap (((i+1:Nat):Int)-1)=(i:Int):=by rw [i64w _ (by omega) (by omega)];omega
   have c1 : ∀ a:Bool,a=true->ck a=some ():=fun a h=>by rw [h];rfl
   have e1:Ar.std.zlt (((i+1:Nat):Int)) (Ar.std.zsub (n:Int) (q:Int))=true:=by simp;omega
   have e0:Ar.std.zle 0 (((i+1:Nat):Int))=true:=by simp;omega
   cases hd:decide (l[q+i+1]=l[q+i]) with
   | true =>
     rw [hd] at hr hdd
     refine ⟨(k,m),⟨g1,by simp only;omega,g3,?_,?_,fun j hj=>g6 j (by omega)⟩,?_⟩
     ·simp only;rw [show q+(i+1)+1=q+i+1+1 by omega,hdd];exact g4
     ·simp only;rw [show q+(i+1)+1=q+i+1+1 by omega,hdd];exact g5
     ·unfold M99L0
      refine cnT e1 (bt (c1 _ e0) (bt (c1 _ e1) (bt (gcHis mx (by simp;omega)) (bt (v:=()) (c1 _ (by simp only [std_wrp,std_zsub,hw];simp)) (bt (v:=()) (c1 _ (by simp only [std_wrp,std_zsub,hw];simp;omega)) (bt (gcHis my (by simp only [std_wrp,std_zsub,hw];simp;omega)) (bt hr (bt (v:=((k:Int),eTab m)) rfl ?_))))))))
      simp only [std_wrp,std_zadd,wrap1 (i:=i+1) (n:=5000001) (by omega) (by decide)]
   | false =>
     rw [hd] at hr hdd
     have htk:(m.set k l[q+i+1]).take (k+1)=ddN l (q+i+1)++[l[q+i+1]]:=by
      have:(m.set k l[q+i+1])[k]?=some l[q+i+1]:=List.getElem?_set_self (by omega)
      rw [take_succ_get this,List.take_set_of_le (Nat.le_refl _),g5]
     refine ⟨(k+1,m.set k l[q+i+1]),⟨by simp only;omega,by simp only;omega,g3.set k gx,?_,?_,fun j hj => ?_⟩,?_⟩
     ·simp only;rw [show q+(i+1)+1=q+i+1+1 by omega,hdd,Bool.not_false,cond_true,List.length_append,<-g4];rfl
     ·simp only;rw [show q+(i+1)+1=q+i+1+1 by omega,hdd,Bool.not_false,cond_true];exact htk
     ·simp only
      rw [List.getElem?_set_ne (by omega)]
      exact g6 j (by omega)
     ·unfold M99L0
      have hk' : ∃ d,Ar.std.lget (eTab m) (Ar.std.nat (Ar.std.zadd 0 (k:Int)))=some d:=by
       have:Ar.std.nat (Ar.std.zadd 0 (k:Int))=k:=by simp
       rw [this,std_lget]
       exact ⟨_,zp1 (by unfold eTab;simp;omega)⟩
      obtain ⟨d,hd'⟩:=hk'
      refine cnT e1 (bt (c1 _ e0) (bt (c1 _ e1) (bt (gcHis mx (by simp;omega)) (bt (v:=()) (c1 _ (by simp only [std_wrp,std_zsub,hw];simp)) (bt (v:=()) (c1 _ (by simp only [std_wrp,std_zsub,hw];simp;omega)) (bt (gcHis my (by simp only [std_wrp,std_zsub,hw];simp;omega)) (bt hr (bt (v:=(((k+1:Nat):Int),eTab (m.set k l[q+i+1]))) ?_ ?_))))))))
      ·refine cnF rfl (bt (c1 _ e0) (bt (c1 _ e1) (bt (gcHis mx (by simp;omega)) (bt (v:=()) (c1 _ (by simp)) (bt (v:=()) (c1 _ (by simp;omega)) (bt hd' ?_))))))
       rw [setHis m k _ (by simp)]
       simp only [std_wrp,std_zadd,wrap1 (i:=k) (n:=5000001) (by omega) (by decide)]
      ·simp only [std_wrp,std_zadd,wrap1 (i:=i+1) (n:=5000001) (by omega) (by decide)])
  (fun s _=>by unfold M99L0;exact cnF (by simp;omega) rfl) (q,l) ⟨Nat.le_refl _,by simp,hl,by simp only;rw [Nat.add_zero,h0,List.length_take];omega,by simp only;rw [Nat.add_zero,h0],fun j _=>rfl⟩
 rw [show q+(n-q-1)+1=n by omega] at h4 h5
 simp only at h1 h2 h4 h5
 rw [<-h4]
 exact ⟨l',h1,by omega,h3,h5,e⟩
theorem M99_eq {n:Nat} (hn:n<=5000000) (h0:1<=n) {l:List (List Int)} (hl:GHs n l) :
  ∃ (l':List (List Int)),GHs n l'/\l'.take (ddN l n).length=ddN l n/\M99 Ar.std 0 (n:Int) (eTab l)=some (0,((ddN l n).length:Int),eTab l'):=by
 have hll:=hl.1
 have hnone : ∀ i,i<=n->(∀ j,1<=j->j<i->l[j]?≠l[j-1]?)->ddN l i=l.take i:=fun i hi h=>ddN_id (q:=i) (by omega) h i (Nat.le_refl _)
 unfold M99
 by_cases h2:n<2
 ·have e:=hnone n (Nat.le_refl _) (fun j h1 h2=>by omega)
  rw [List.take_of_length_le (by omega)] at e
  rw [e]
  refine ⟨l,hl,List.take_length,?_⟩
  rw [hll]
  exact cnT (by simp;omega) rfl
 ·have c1 : ∀ a:Bool,a=true->ck a=some ():=fun a h=>by rw [h];rfl
  rcases iter_relE (step:=M99L1 Ar.std 0 (n:Int) (eTab l)) (n-1) (fun (_:Unit) (i:Nat)=>((i+1:Nat):Int)) (fun i _ => ∀ j,1<=j->j<i+1->l[j]?≠l[j-1]?) (fun _ x => ∃ (l':List (List Int)),GHs n l'/\l'.take (ddN l n).length=ddN l n/\x = .inr (((ddN l n).length:Int),eTab l')) (fun _ => .inl ())
   (fun i s hi hno=>by
    have hx:l[i+1]?=some l[i+1]:=zp1 (by omega)
    have hy:l[i]?=some l[i]:=zp1 (by omega)
    have hr:=M100_eq (hl.2 _ (List.mem_of_getElem? hx)) (hl.2 _ (List.mem_of_getElem? hy))
    have hw:IntKind.i64.wrap (((i+1:Nat):Int)-1)=(i:Int):=by rw [i64w _ (by omega) (by omega)];omega
    have e0:Ar.std.zle 0 (((i+1:Nat):Int))=true:=by simp;omega
    have e1:Ar.std.zlt (((i+1:Nat):Int)) (n:Int)=true:=by simp;omega
    cases hd:decide (l[i+1]=l[i]) with
    | false =>
      rw [hd] at hr
      refine .inl ⟨(),fun j hj1 hj2 => ?_,?_⟩
      ·by_cases hji:j=i+1
       ·subst hji
        rw [hx,show i+1-1=i by omega,hy]
        exact fun h=>(of_decide_eq_false hd) (Option.some.inj h)
       ·exact hno j hj1 (by omega)
      ·unfold M99L1
       refine cnT e1 (bt (c1 _ e0) (bt (c1 _ e1) (bt (gcHis hx (by simp)) (bt (v:=()) (c1 _ (by simp only [std_wrp,std_zsub,hw];simp)) (bt (v:=()) (c1 _ (by simp only [std_wrp,std_zsub,hw];simp;omega)) (bt (gcHis hy (by simp only [std_wrp,std_zsub,hw];simp)) (bt hr (cnF rfl ?_))))))))
       simp only [std_wrp,std_zadd,wrap1 (i:=i+1) (n:=5000001) (by omega) (by decide)]
    | true =>
      rw [hd] at hr
      obtain ⟨l',g1,g2,g3,g4,e⟩:=M99L0_eq hn (q:=i+1) (by omega) (by omega) hl (by rw [hx,show i+1-1=i by omega,hy,of_decide_eq_true hd]) hno
      generalize hk:(ddN l n).length=k at g1 g2 g4 e
      refine .inr ⟨.inr ((k:Int),eTab (l'.take k++List.replicate (n-k) [])),⟨_,⟨by have:=g3.1;simp;omega,fun h hh => ?_⟩,?_,rfl⟩,?_⟩
      ·rcases List.mem_append.1 hh with hh | hh
       ·exact g3.2 h (List.mem_of_mem_take hh)
       ·rw [(List.mem_replicate.1 hh).2];show ([]:List Int).length<4294967296;simp
      ·have hkl:(l'.take k).length=k:=by have:=g3.1;rw [List.length_take];omega
       rw [List.take_append_of_le_length (by omega),List.take_take,Nat.min_self];exact g4
      ·unfold M99L1
       have hlen':=lenHis l'
       rw [g3.1] at hlen'
       refine cnT e1 (bt (c1 _ e0) (bt (c1 _ e1) (bt (gcHis hx (by simp)) (bt (v:=()) (c1 _ (by simp only [std_wrp,std_zsub,hw];simp)) (bt (v:=()) (c1 _ (by simp only [std_wrp,std_zsub,hw];simp;omega)) (bt (gcHis hy (by simp only [std_wrp,std_zsub,hw];simp)) (bt hr (cnT rfl ?_))))))))
       refine bt (c1 _ e0) (bt (v:=()) (c1 _ (by simp;omega)) (bt (v:=()) (c1 _ (by simp)) (bt e ?_)))
       dsimp only
       refine bt (v:=()) (c1 _ (by simp)) (bt (v:=()) (c1 _ (by simp;omega)) (bt (v:=()) (c1 _ (by simp)) (bt (v:=()) (c1 _ (by rw [hlen'];simp;omega)) (bt (v:=()) (c1 _ (by simp)) (bt (v:=()) (c1 _ (by simp)) (bt (v:=()) (c1 _ (by simp;omega)) ?_))))))
       have hf:Ar.std.fill (eTab l') (Ar.std.zadd 0 (k:Int)) (Ar.std.zsub (n:Int) (k:Int)) (.list 1 [])=eTab (l'.take k++List.replicate (n-k) []):=by
        have hl':=g3.1
        have a1:Ar.std.zadd 0 (k:Int)=(k:Int):=by simp
        have a2:Ar.std.zsub (n:Int) (k:Int)=((n-k:Nat):Int):=by simp;omega
        rw [a1,a2,std_fill]
        unfold fillStd eTab
        rw [Int.toNat_natCast,Int.toNat_natCast,List.drop_eq_nil_of_le (by simp;omega),List.append_nil,List.map_append,enc_append,List.map_take,List.map_replicate]
        congr 1
        ·unfold enc;rw [List.map_take]
        ·unfold enc;rw [List.map_replicate];rfl
       rw [hf]
       simp)
   (fun s _=>by
    unfold M99L1
    exact cnF (by simp;omega) rfl) () (fun j h1 h2=>by omega) with ⟨_,hno,e⟩ | ⟨_,x,_,⟨l',g1,g2,rfl⟩,e⟩
  ·have e':=hnone n (Nat.le_refl _) (fun j h1 h2=>hno j h1 (by omega))
   rw [List.take_of_length_le (by omega)] at e'
   rw [e']
   refine ⟨l,hl,List.take_length,?_⟩
   rw [hll]
   exact cnF (by simp;omega) (bt e rfl)
  ·exact ⟨l',g1,g2,cnF (by simp;omega) (bt e (by simp))⟩
theorem ltF_M98 {a b:List Int} (ha:GH a) (hb:GH b):ltF (fun a0 b0=>M98 Ar.std a0 b0) (eInts a) (eInts b)=decide (cmpL a b<0):=by
 unfold ltF;simp only [M98_eq ha hb]
theorem cmpOkM {hs:List (List Int)} (hg : ∀ h∈hs,GH h):CmpOk (fun a0 b0=>M98 Ar.std a0 b0) (hs.map eInts):=by
 have hm : ∀ {p:List D->Prop},(∀ a,a∈hs->p (eInts a)) -> ∀ x∈hs.map eInts,p x:=by
  intro p h x hx
  obtain ⟨a,ha,rfl⟩:=List.mem_map.1 hx
  exact h a ha
 refine ⟨hm fun a ha=>hm fun b hb=>⟨_,M98_eq (hg a ha) (hg b hb)⟩,hm fun a ha => ?_,hm fun a ha=>hm fun b hb=>hm fun c hc => ?_,hm fun a ha=>hm fun b hb => ?_⟩
 ·rw [ltF_M98 (hg a ha) (hg a ha)];exact decide_eq_false (ltL_irr a)
 ·rw [ltF_M98 (hg a ha) (hg b hb),ltF_M98 (hg b hb) (hg c hc),ltF_M98 (hg a ha) (hg c hc)]
  simp only [decide_eq_true_eq]
  exact fun h1 h2=>ltL_tr h1 h2
 ·rw [ltF_M98 (hg a ha) (hg b hb),ltF_M98 (hg b hb) (hg a ha)]
  simp only [decide_eq_false_iff_not]
  intro h1 h2
  rw [ltL_tot h1 h2]
theorem sorted_exact (hs:List (List Int)) (h1:1<=hs.length) (h2:hs.length<=5000000) (hg : ∀ h∈hs,GH h) :
  ∃ ss:List (List Int),SS ss/\(∀ x,x∈ss↔x∈hs)/\ss.length<=hs.length /\
    ∃ (r20:List D) (l':List (List Int)),M97 Ar.std 0 (Ar.std.len (eTab hs)) (eTab hs)=some r20/\M99 Ar.std 0 (Ar.std.len (eTab hs)) r20=some (0,(ss.length:Int),eTab l')/\l'.take ss.length=ss/\ss.length<=l'.length /\ ∀ x∈l',GH x:=by
 have hlen:=lenHis hs
 have hcmp:=cmpOkM hg
 obtain ⟨s0,hs0⟩ : ∃ s0,s0=hs.mergeSort fun a b => !decide (cmpL b a<0):=⟨_,rfl⟩
 have e0:s0.map eInts=(hs.map eInts).mergeSort fun x y => !ltF (fun a0 b0=>M98 Ar.std a0 b0) y x:=by
  rw [hs0]
  exact List.map_mergeSort fun a ha b hb=>by rw [ltF_M98 (hg b hb) (hg a ha)]
 have hmem0 : ∀ x,x∈s0↔x∈hs:=fun x=>by rw [hs0,List.mem_mergeSort]
 have g0 : ∀ x∈s0,GH x:=fun x hx=>hg x ((hmem0 x).1 hx)
 have hl0:s0.length=hs.length:=by
  have:=congrArg List.length e0
  rw [List.length_map,List.length_mergeSort,List.length_map] at this
  exact this
 have e94:M97 Ar.std 0 (Ar.std.len (eTab hs)) (eTab hs)=some (eTab s0):=by
  unfold M97
  rw [hlen]
  have:=srt_eq (c:=cL 1) (f:=fun a0 b0=>M98 Ar.std a0 b0) (n:=(hs.length:Int)) (xs:=hs.map eInts) (by rw [List.length_map]) (by omega) hcmp
  rw [<-e0] at this
  exact this
 have hsort:s0.Pairwise fun x y => ¬ ltL y x:=by
  have hp:=List.pairwise_mergeSort (le:=fun a b:List Int => !decide (cmpL b a<0)) (fun a b c h1 h2=>by
   simp only [Bool.not_eq_true',decide_eq_false_iff_not] at h1 h2 ⊢
   intro h
   by_cases hab:ltL a b
   ·exact h2 (ltL_tr (a:=c) (b:=a) (c:=b) h hab)
   ·rw [ltL_tot hab h1] at h;exact h2 h) (fun a b=>by
   simp only [Bool.or_eq_true,Bool.not_eq_true',decide_eq_false_iff_not]
   by_cases hab:ltL b a
   ·right;intro h
    exact ltL_irr _ (ltL_tr hab h)
   ·exact .inl hab) hs
  rw [<-hs0] at hp
  exact hp.imp fun {x y} h=>by
   simp only [Bool.not_eq_true',decide_eq_false_iff_not] at h
   exact h
 obtain ⟨l',k3,k4,e98⟩:=M99_eq h2 h1 (l:=s0) ⟨hl0,g0⟩
 have hll:=k3.1
 have hdl:=ddN_len s0 hs.length
 refine ⟨ddN s0 hs.length,ddN_ss hsort _ (by omega),fun x => ?_,hdl,_,l',e94,by rw [hlen];exact e98,k4,by omega,k3.2⟩
 rw [ddN_mem (l:=s0) _ (by omega),List.take_of_length_le (by omega),hmem0]
theorem fz_take (l:List (List Int)) {n:Nat} (h:n<=l.length):fz Ar.std (eTab l) 0 (n:Int)=some (eTab (l.take n)):=by
 unfold fz
 have hz:Ar.std.zle (Ar.std.zadd 0 (n:Int)) (Ar.std.len (eTab l))=true:=by rw [lenHis];simp;omega
 rw [hz,cond_true]
 simp only [std_zadd,std_sub,Int.zero_add,Int.toNat_zero,List.drop_zero,Nat.sub_zero,Int.toNat_natCast]
 unfold eTab enc
 rw [<-List.map_take,<-List.map_take]
end Go.Am

namespace Go.Am
open Go
def outE (P:Pg) (s:Sta):List Int:=((List.range (sumLd P)).map fun n=>s (3+n))++[s 11,s 12,s 13]
theorem subI8 (s:Sta) {p n:Nat} {a b:Int} (ha:a=p) (hb:b=((p+n:Nat):Int)) (h0:3<=p) (h1:p+n<=38):Ar.std.sub (eS s) a b=enc (cI .i8) ((List.range n).map fun j=>s (p+j)):=by
 subst ha hb
 show ((eS s).drop ((p:Int)).toNat).take (((p+n:Nat):Int).toNat-((p:Int)).toNat)=_
 rw [Int.toNat_natCast,Int.toNat_natCast,Nat.add_sub_cancel_left]
 apply List.ext_getElem?
 intro i
 by_cases hi:i<n
 ·rw [List.getElem?_take_of_lt hi,List.getElem?_drop,eS_get s (by omega),enc_get,List.getElem?_map,List.getElem?_range hi,kdi (by omega) (by omega)];rfl
 ·rw [List.getElem?_eq_none (by simp;omega),List.getElem?_eq_none (by simp;omega)]
theorem reads_eq (s:Sta) (b:Nat) (l:List Ac) (r:Nat->Int) (hr : ∀ i,i<l.length->(aAt l i).1=1->r i=s (3+(b+nLd (l.take i)))):reads l r=(List.range (nLd l)).map fun n=>s (3+(b+n)):=by
 unfold reads
 have key : ∀ m,m<=l.length->((List.range m).filterMap fun i=>if (aAt l i).1=1 then some (r i) else none)=(List.range (nLd (l.take m))).map fun n=>s (3+(b+n)):=by
  intro m
  induction m with
  | zero=>intro _;simp [nLd]
  | succ m ih =>
    intro hm
    have hml:m<l.length:=by omega
    rw [List.range_succ,List.filterMap_append,ih (by omega),take_take_succ hml]
    by_cases h:(aAt l m).1=1
    ·rw [if_pos h,List.range_succ,List.map_append]
     simp [h,hr m hml h]
    ·rw [if_neg h]
     simp [h]
 have:=key l.length (Nat.le_refl _)
 rwa [List.take_length] at this
theorem outE_eq {P:Pg} (s:Sta):outc P (vw P s)=outE P s:=by
 unfold outc outE
 congr 1
 have key : ∀ m,m<=P.length->((List.range m).flatMap fun t=>reads (thr P t) ((vw P s).rd t))=(List.range (sumLd (P.take m))).map fun n=>s (3+n):=by
  intro m
  induction m with
  | zero=>intro _;simp [sumLd]
  | succ m ih =>
    intro hm
    rw [List.range_succ,List.flatMap_append,ih (by omega),sumLd_take (by omega)]
    have e:=reads_eq s (sumLd (P.take m)) (thr P m) ((vw P s).rd m) (fun i hi hl=>by
     show (if (aAt (thr P m) i).1=1 then s (3+num P m i) else 0)=_
     rw [if_pos hl];rfl)
    simp only [List.flatMap_cons,List.flatMap_nil,List.append_nil]
    rw [e]
    apply List.ext_getElem?
    intro i
    by_cases h1:i<sumLd (P.take m)
    ·rw [zp7 (by simp;exact h1)]
     rw [List.getElem?_map,List.getElem?_map,List.getElem?_range h1,List.getElem?_range (by omega)]
    ·rw [zp8 (by simp;omega)]
     simp only [List.length_map,List.length_range]
     by_cases h2:i<sumLd (P.take m)+nLd (thr P m)
     ·rw [List.getElem?_map,List.getElem?_map,List.getElem?_range (by omega),List.getElem?_range h2]
      simp only [Option.map_some]
      congr 2;omega
     ·rw [List.getElem?_eq_none (by simp;omega),List.getElem?_eq_none (by simp;omega)]
 have:=key P.length (Nat.le_refl _)
 rwa [List.take_length] at this
section
variable {P:Pg} (hv:VP P) {s:Sta} (hs:Wf P s)
include hv hs
theorem sumLd8:sumLd P<=8:=Nat.le_trans (sumLd_allW P) hv.w8
theorem outE_vals : ∀ x∈outE P s,0<=x/\x<=3:=by
 intro x hx
 have h8:=sumLd8 hv hs
 unfold outE at hx
 rcases List.mem_append.1 hx with hx | hx
 ·obtain ⟨n,hn,rfl⟩:=List.mem_map.1 hx
  have:=List.mem_range.1 hn
  exact hs.r n (by omega)
 ·simp at hx
  rcases hx with rfl | rfl | rfl
  ·exact hs.c 0 (by omega)
  ·exact hs.c 1 (by omega)
  ·exact hs.c 2 (by omega)
theorem M78_eq:M78 Ar.std (eS s) (eP P)=some (eInts (outE P s)):=by
 have h8:=sumLd8 hv hs
 unfold M78
 refine bck (by rw [lenS];rfl) ?_
 have key:=iter_pre (step:=M78L0 Ar.std (eP P)) P (fun l=>(sumLd l:Int)) (fun z i=>(z,(i:Int))) id (fun i a ha hi=>by
  have e:a=thr P i:=by rw [thr_get hi] at ha;exact (Option.some.inj ha).symm
  subst e
  unfold M78L0
  refine cnT (by simp [hi]) (bt (gt_eP ha) ?_)
  have hl:=hv.l7 i
  refine bt (M63a_eq (by omega)) ?_
  have h3:=nLd_le_nWk (thr P i)
  have h4:=hv.w4 i
  have h5:=sumLd_mono P (show i<=P.length by omega)
  rw [List.take_length] at h5
  have hn3:=hv.n3
  simp only [std_wrp,std_zadd]
  rw [i64w _ (by omega) (by omega),i64w _ (by omega) (by omega)]
  unfold sumLd
  simp) (by
  unfold M78L0
  exact cnF (by simp) rfl)
 rw [show ((0:Int),(0:Int))=(((sumLd []:Nat):Int),((0:Nat):Int)) from by simp [sumLd]]
 refine bt key ?_
 simp only [id]
 refine bc (bc (bc (bc ?_)))
 have e1:M107 Ar.std (Ar.std.zadd (Ar.std.zadd 0 (Int.ofNat 3)) 0) (Ar.std.zsub (sumLd P:Int) 0) (eS s)=some (enc (cI .i8) ((List.range (sumLd P)).map fun j=>s (3+j))):=by
  unfold M107
  rw [lenS,subI8 s (p:=3) (n:=sumLd P) (by simp) (by simp) (by omega) (by omega)]
  exact bck (by simp;omega) (bt (ap_enc0 (by simp;omega)) rfl)
 refine bt e1 (bc (bc (bc (bc ?_))))
 rw [lenS,subI8 s (p:=11) (n:=3) (by simp) (by simp) (by omega) (by omega)]
 refine bc (bt (ap_enc (by simp;omega)) ?_)
 have hO:((List.range (sumLd P)).map fun j=>s (3+j))++((List.range 3).map fun j=>s (11+j))=outE P s:=rfl
 rw [hO]
 have hvals:=outE_vals hv hs
 have hlen:(outE P s).length<=11:=by unfold outE;simp;omega
 have key2:=iter_pre (step:=M78L1 Ar.std (enc (cI .i8) (outE P s))) (outE P s) (fun l=>eInts l) (fun z i=>(z,(i:Int))) id (fun i a ha hi=>by
  have hm:=hvals a (List.mem_of_getElem? ha)
  unfold M78L1
  refine cnT (by simp [hi]) (bt (gt_enc ha) ?_)
  have ew:Ar.std.wrp .i64 a=a:=by simp only [std_wrp];exact i64w _ (by omega) (by omega)
  rw [ew]
  refine bt (ap_enc1 (c:=cI .i64) (a:=a) rfl (by simp;omega)) ?_
  simp only [std_wrp,std_zadd]
  rw [i64w _ (by omega) (by omega)];rfl) (by
  unfold M78L1
  exact cnF (by simp) rfl)
 exact bt key2 rfl
end
theorem final_inj {k:Nat} {P:Pg} (hv:VP P) {s u:Sta} (hs:WfK k P s) (hu:WfK k P u) (fs:overS P s=true) (fu:overS P u=true) (h:outE P s=outE P u):s=u:=by
 have h8:=sumLd8 hv hs.wf
 have hz : ∀ {s:Sta},WfK k P s->overS P s=true -> ∀ i,(i<3->s i=if i<P.length then ((2 ^ (thr P i).length-1:Nat):Int) else 0)/\(11+3<=i->s i=0):=by
  intro s hs fs i
  unfold overS at fs
  rw [List.all_eq_true] at fs
  have hw0 : ∀ t,t<3->s (38+t)=0:=by
   intro t ht
   obtain ⟨w0,w1⟩:=hs.wf.w t ht
   rcases Nat.lt_or_ge t P.length with h | h
   ·have:=fs t (List.mem_range.2 h)
    simp only [zp4,Bool.not_eq_true',decide_eq_false_iff_not] at this
    omega
   ·rw [thr_none h] at w1
    have:stD [] (s t)=0:=rfl
    rw [this] at w1;omega
  refine ⟨fun hi => ?_,fun hi => ?_⟩
  ·split
   ·rename_i h
    have:=fs i (List.mem_range.2 h)
    simp only [zp4,decide_eq_true_eq] at this
    exact this.1
   ·rename_i h
    obtain ⟨d0,d1⟩:=hs.wf.d i hi
    rw [thr_none (by omega)] at d1
    simp at d1;omega
  ·by_cases h1:i<38
   ·have hb:=hs.bz ((i-14) / 8) (((i-14)%8) / 2) (by omega) (by omega) (by rw [hw0 _ (by omega)];omega)
    rcases Nat.mod_two_eq_zero_or_one (i-14) with h2 | h2
    ·have e:14+8*((i-14) / 8)+2*(((i-14)%8) / 2)=i:=by omega
     rw [e] at hb;exact hb.1
    ·have e:14+8*((i-14) / 8)+2*(((i-14)%8) / 2)+1=i:=by omega
     rw [e] at hb;exact hb.2
   ·by_cases h2:i<41
    ·have e:i=38+(i-38):=by omega
     rw [e];exact hw0 _ (by omega)
    ·exact hs.wf.z i (by omega)
 have hcells : ∀ n,n<sumLd P+3->(outE P s)[n]?=(outE P u)[n]?:=fun n _=>by rw [h]
 have hget : ∀ (s:Sta) n,n<sumLd P->(outE P s)[n]?=some (s (3+n)):=by
  intro s n hn
  unfold outE
  rw [zp7 (by simp;exact hn),List.getElem?_map,List.getElem?_range hn];rfl
 have hget2 : ∀ (s:Sta) n,n<3->(outE P s)[sumLd P+n]?=some (s (11+n)):=by
  intro s n hn
  unfold outE
  rw [zp8 (by simp)]
  simp only [List.length_map,List.length_range,Nat.add_sub_cancel_left]
  rcases (show n=0\/n=1\/n=2 by omega) with rfl | rfl | rfl <;> rfl
 funext i
 by_cases h1:i<3
 ·rw [(hz hs fs i).1 h1,(hz hu fu i).1 h1]
 ·by_cases h2:i<11
  ·by_cases h3:i-3<sumLd P
   ·have:=hcells (i-3) (by omega)
    rw [hget s _ h3,hget u _ h3,show 3+(i-3)=i by omega] at this
    exact Option.some.inj this
   ·have e1:=hs.rz (i-3) (by omega) (by omega)
    have e2:=hu.rz (i-3) (by omega) (by omega)
    rw [show 3+(i-3)=i by omega] at e1 e2
    rw [e1,e2]
  ·by_cases h3:i<14
   ·have:=hcells (sumLd P+(i-11)) (by omega)
    rw [hget2 s _ (by omega),hget2 u _ (by omega),show 11+(i-11)=i by omega] at this
    exact Option.some.inj this
   ·rw [(hz hs fs i).2 (by omega),(hz hu fu i).2 (by omega)]
def allL:Nat->List (List Int)
 | 0=>[[]]
 | n+1=>[0,1,2,3].flatMap fun a:Int=>(allL n).map (a :: ·)
theorem allL_len : ∀ n,(allL n).length=4 ^ n
 | 0=>rfl
 | n+1=>by
   unfold allL
   simp only [List.flatMap_cons,List.flatMap_nil,List.length_append,List.length_map,allL_len n,List.length_nil]
   rw [Nat.pow_succ];omega
theorem mem_allL : ∀ {l:List Int},(∀ x∈l,0<=x/\x<=3)->l∈allL l.length
 | [],_=>by simp [allL]
 | a::l,h=>by
   have ha:=h a (by simp)
   have ih:=mem_allL (l:=l) (fun x hx=>h x (by simp [hx]))
   rw [List.length_cons]
   unfold allL
   refine List.mem_flatMap.2 ⟨a,?_,List.mem_map.2 ⟨l,ih,rfl⟩⟩
   simp
   omega
def PB (P:Pg) (Q:List Sta):Prop := ∃ Ls:List (List Sta),Q=Ls.flatten/\(∀ l∈Ls,l.length<=21)/\Ls.length<=44 /\ ∀ j l,Ls[j]?=some l -> ∀ s∈l,mu P s+j<=42
theorem PB.len {P:Pg} {Q:List Sta} (h:PB P Q):Q.length<=924:=by
 obtain ⟨Ls,rfl,h1,h2,_⟩:=h
 have : ∀ (L:List (List Sta)),(∀ l∈L,l.length<=21)->L.flatten.length<=21*L.length:=by
  intro L
  induction L with
  | nil=>intro _;simp
  | cons l L ih =>
    intro h
    have h1:=h l (by simp)
    have h2:=ih (fun l hl=>h l (by simp [hl]))
    simp only [List.flatten_cons,List.length_append,List.length_cons]
    omega
 have:=this Ls h1
 omega
theorem flatten_last {α:Type} : ∀ (Ls:List (List α)) {Q:List α} {s:α},Ls.flatten=Q++[s] -> ∃ A l E,Ls=A++(l++[s])::E/\Q=A.flatten++l
 | [],Q,s,h=>by simp at h
 | x::Ls,Q,s,h=>by
   rw [List.flatten_cons] at h
   by_cases hE:Ls.flatten=[]
   ·rw [hE,List.append_nil] at h
    exact ⟨[],Q,Ls,by rw [h];rfl,by simp⟩
   ·have hne:Ls.flatten≠[]:=hE
    obtain ⟨y,z,hy⟩ : ∃ y z,Ls.flatten=y++[z]:=by
     rcases List.eq_nil_or_concat Ls.flatten with h' | ⟨y,z,h'⟩
     ·exact absurd h' hne
     ·exact ⟨y,z,by rw [h',List.concat_eq_append]⟩
    rw [hy,<-List.append_assoc] at h
    have h1:=List.append_inj' h rfl
    obtain ⟨rfl,h2⟩:=h1
    simp at h2
    subst h2
    obtain ⟨A,l,E,e1,e2⟩:=flatten_last Ls hy
    exact ⟨x::A,l,E,by rw [e1];rfl,by rw [e2];simp⟩
theorem PB.next {P:Pg} {Q:List Sta} {s:Sta} (h:PB P (Q++[s])) {new:List Sta} (hn:new.length<=21) (hm : ∀ u∈new,mu P u<mu P s):PB P (Q++new):=by
 obtain ⟨Ls,e,h1,h2,h3⟩:=h
 obtain ⟨A,l,E,rfl,rfl⟩:=flatten_last Ls e.symm
 have hs:mu P s+A.length<=42:=h3 A.length (l++[s]) (by rw [zp8 (Nat.le_refl _)];simp) s (by simp)
 refine ⟨A++[l,new],by simp,fun x hx => ?_,by simp;omega,fun j x hj u hu => ?_⟩
 ·simp at hx
  rcases hx with hx | rfl | rfl
  ·exact h1 x (by simp [hx])
  ·have:=h1 (x++[s]) (by simp);simp at this;omega
  ·exact hn
 ·by_cases hjA:j<A.length
  ·rw [zp7 hjA] at hj
   exact h3 j x (by rw [zp7 hjA];exact hj) u hu
  ·rw [zp8 (by omega)] at hj
   rcases (show j=A.length\/j=A.length+1\/A.length+2<=j by omega) with rfl | rfl | hj2
   ·simp at hj
    subst hj
    exact h3 A.length (l++[s]) (by rw [zp8 (Nat.le_refl _)];simp) u (by simp [hu])
   ·rw [show A.length+1-A.length=1 by omega] at hj
    simp at hj
    subst hj
    have:=hm u hu
    omega
   ·rw [List.getElem?_eq_none (by simp;omega)] at hj;cases hj
noncomputable def lev (k:Nat) (P:Pg):Nat->List Sta
 | 0=>[s0]
 | n+1=>(lev k P n).flatMap (scs k P)
noncomputable def allR (k:Nat) (P:Pg):List Sta:=(List.range 44).flatMap (lev k P)
section
variable {k:Nat} (hK:Kind k) {P:Pg} (hv:VP P)
include hK hv
theorem lev_ok : ∀ n,∀ s∈lev k P n,WfK k P s/\mu P s+n<=42
 | 0,s,hs=>by
   unfold lev at hs
   rw [List.mem_singleton.1 hs]
   exact ⟨WfK.init k P,by have:=mu_init hv;omega⟩
 | n+1,s,hs=>by
   unfold lev at hs
   obtain ⟨u,hu,hs⟩:=List.mem_flatMap.1 hs
   obtain ⟨h1,h2⟩:=lev_ok n u hu
   have h3:=(mem_scs hK hv h1).1 hs
   have h4:=StpS.mu hK hv h1 h3
   exact ⟨StpS.wf hK hv h1 h3,by omega⟩
theorem allR_init:s0∈allR k P:=List.mem_flatMap.2 ⟨0,by simp,by simp [lev]⟩
theorem allR_step : ∀ s∈allR k P,∀ n∈scs k P s,n∈allR k P:=by
 intro s hs n hn
 obtain ⟨i,hi,hs⟩:=List.mem_flatMap.1 hs
 have hi:=List.mem_range.1 hi
 obtain ⟨h1,h2⟩:=lev_ok hK hv i s hs
 exact List.mem_flatMap.2 ⟨i+1,List.mem_range.2 (by omega),by unfold lev;exact List.mem_flatMap.2 ⟨s,hs,hn⟩⟩
noncomputable def outs (P:Pg) (d:List Sta):List (List Int):=(d.filter (overS P)).map (outE P)
theorem outs_len {d:List Sta} (hd:d.Nodup) (hr : ∀ s∈d,Reach (scs k P) s0 s):(outs P d).length<=4194304:=by
 have hw : ∀ s∈d,WfK k P s:=fun s hs=>(reach_wf hK hv (hr s hs)).1
 have h8:=sumLd8 hv (Wf.init P)
 have hn:(outs P d).Nodup:=by
  unfold outs
  refine List.pairwise_map.2 ?_
  refine (hd.filter _).imp_of_mem ?_
  intro a b ha hb hne e
  rw [List.mem_filter] at ha hb
  exact hne (final_inj hv (hw a ha.1) (hw b hb.1) ha.2 hb.2 e)
 have:=nodup_le (l:=outs P d) (m:=allL (sumLd P+3)) hn (fun x hx=>by
  obtain ⟨s,hs,rfl⟩:=List.mem_map.1 hx
  have hs:=(List.mem_filter.1 hs).1
  have e:(outE P s).length=sumLd P+3:=by unfold outE;simp
  rw [<-e]
  exact mem_allL (outE_vals hv (hw s hs).wf))
 rw [allL_len] at this
 have h2:4 ^ (sumLd P+3)<=4 ^ 11:=Nat.pow_le_pow_right (by omega) (by omega)
 have h3:4 ^ 11=4194304:=rfl
 omega
theorem eQ_get {Q:List Sta} {s:Sta}:gc Ar.std cA (eQ (Q++[s])) Q.length=some (eS s):=by
 unfold gc
 show ((eQ (Q++[s]))[Q.length]?).bind _=_
 unfold eQ
 rw [List.getElem?_map,zp8 (Nat.le_refl _)]
 simp [cA]
theorem M56L0_step {seen Q done:List Sta} {s:Sta} (hI:Known (scs k P) s0 (allR k P) seen (Q++[s]) done) (hB:PB P (Q++[s])) :
  ∃ seen' Q',Known (scs k P) s0 (allR k P) seen' Q' (done++[s])/\PB P Q' /\
    M56L0 Ar.std (eP P) (Int.ofNat (142+k)) (eM seen,eQ (Q++[s]),eTab (outs P done))=some (.inl (eM seen',eQ Q',eTab (outs P (done++[s])))):=by
 have hsr:s∈seen:=hI.perm.mem_iff.2 (by simp)
 have hr:=hI.reach s hsr
 obtain ⟨hw,_⟩:=reach_wf hK hv hr
 have hwf:=scs_wf hv hw.wf k
 obtain ⟨seen',Q',hp,hk',hlen⟩:=Known.next (succ:=scs k P) hI (allR_step hK hv)
 have hnew:=push_all (scs k P s) seen Q hI.nodup
 obtain ⟨new,hn1,hn2,hn3,hn4⟩:=hnew
 rw [hn1] at hp
 simp only [Prod.mk.injEq] at hp
 obtain ⟨rfl,rfl⟩:=hp
 have hZ:ZL seen:=fun u hu=>(reach_wf hK hv (hI.reach u hu)).1.wf.z
 have hQl:=hB.len
 rw [List.length_append,List.length_singleton] at hQl
 have hnl:new.length<=21:=by
  have:=pu_len (seen,Q) (scs k P s)
  unfold pu at this
  rw [hn1] at this
  have h2:=hwf.2
  simp only [List.length_append] at this
  omega
 have hB':PB P (Q++new):=hB.next hnl (fun u hu=>StpS.mu hK hv hw ((mem_scs hK hv hw).1 (hn3 u hu)))
 refine ⟨_,_,hk',hB',?_⟩
 have hdn:done.Nodup /\ ∀ u∈done,Reach (scs k P) s0 u:=by
  have:=hI.perm.nodup_iff.1 hI.nodup
  exact ⟨(List.nodup_append.1 this).1,fun u hu=>hI.reach u (hI.perm.mem_iff.2 (by simp [hu]))⟩
 have hol:=outs_len hK hv hdn.1 hdn.2
 have hQlen:Ar.std.len (eQ (Q++[s]))=((Q.length+1:Nat):Int):=by
  show ((eQ (Q++[s])).length:Int)=_
  unfold eQ;simp
 have e1:Ar.std.wrp .i64 (Ar.std.zsub ((Q.length+1:Nat):Int) 1)=(Q.length:Int):=by
  simp only [std_wrp,std_zsub];rw [i64w _ (by omega) (by omega)];omega
 have e2:Ar.std.sub (eQ (Q++[s])) 0 (Q.length:Int)=eQ Q:=by
  show ((eQ (Q++[s])).drop (0:Int).toNat).take _=_
  unfold eQ;simp
 have e3:Ar.std.spl Z41 (Ar.std.zadd 0 (Int.ofNat 0)) (eS s)=eS s:=splS0 _ _ Z41_len rfl
 unfold M56L0
 dsimp only
 rw [hQlen,e1,e2]
 refine cnT (by first | (simp;done) | (simp;omega)) (bc (bc ?_))
 have e4:Ar.std.nat (Q.length:Int)=Q.length:=rfl
 rw [e4]
 refine bt (eQ_get hK hv) (bck (by rw [lenS];try rfl) (bc (bc (bc ?_))))
 rw [e3]
 refine bt (gaS s rfl) (bt (M77_eq hv hw.wf) ?_)
 refine bt (v:=eTab (outs P (done++[s]))) ?_ ?_
 ·unfold outs
  rw [List.filter_append,List.map_append]
  cases ho:overS P s with
  | true =>
    have ef:List.filter (overS P) [s]=[s]:=by simp [ho]
    rw [ef]
    simp only [cond_true]
    refine bt (M78_eq hv hw.wf) ?_
    have:=ap_enc1 (c:=cL 1) (l:=(outs P done).map (enc (cI .i64))) (a:=eInts (outE P s)) (d := .list 1 (eInts (outE P s))) rfl (by rw [List.length_map];omega)
    refine bt this ?_
    unfold eTab outs
    simp
  | false =>
    have ef:List.filter (overS P) [s]=[]:=by simp [ho]
    rw [ef]
    simp
 ·refine bt (v:=(eM (pu (seen,Q) (scs k P s)).1,eQ (pu (seen,Q) (scs k P s)).2)) ?_ ?_
  ·rcases hK with rfl | rfl | rfl
   ·refine cnT rfl (bt (M176_eq hv hw.wf (x:=(seen,Q)) hZ (by simp only;omega)) rfl)
   ·refine cnF rfl (cnT rfl (bt (M177_eq hv hw.wf (x:=(seen,Q)) hZ (by simp only;omega)) rfl))
   ·refine cnF rfl (cnF rfl (cnT rfl (bt (M180_eq hv hw.wf (x:=(seen,Q)) hZ (by simp only;omega)) rfl)))
  ·unfold pu
   rw [hn1]
theorem M56L0_end {seen done:List Sta}:M56L0 Ar.std (eP P) (Int.ofNat (142+k)) (eM seen,eQ [],eTab (outs P done))=some (.inr (eTab (outs P done))):=by
 unfold M56L0
 exact cnF (by simp [eQ]) rfl
theorem M56L0_all : ∃ done:List Sta,(∀ s,s∈done↔Reach (scs k P) s0 s)/\done.Nodup/\iter (M56L0 Ar.std (eP P) (Int.ofNat (142+k))) (eM [s0],eQ [s0],[])=some (eTab (outs P done)):=by
 have key : ∀ n seen Q done,(allR k P).length-done.length<n->Known (scs k P) s0 (allR k P) seen Q done->PB P Q ->
   ∃ done':List Sta,(∀ s,s∈done'↔Reach (scs k P) s0 s)/\done'.Nodup/\iter (M56L0 Ar.std (eP P) (Int.ofNat (142+k))) (eM seen,eQ Q,eTab (outs P done))=some (eTab (outs P done')):=by
  intro n
  induction n with
  | zero=>intro _ _ _ h;omega
  | succ n ih =>
    intro seen Q done hn hI hB
    rcases List.eq_nil_or_concat Q with rfl | ⟨Q,s,rfl⟩
    ·refine ⟨done,Known.end (succ:=scs k P) hI,?_,iter_inr (M56L0_end hK hv)⟩
     have:=hI.perm.nodup_iff.1 hI.nodup
     exact (List.nodup_append.1 this).1
    ·rw [List.concat_eq_append] at hI hB ⊢
     obtain ⟨seen',Q',h1,h2,h3⟩:=M56L0_step hK hv hI hB
     rw [iter_inl h3]
     have hl:=h1.len
     rw [List.length_append,List.length_singleton] at hl
     exact ih seen' Q' (done++[s]) (by rw [List.length_append,List.length_singleton];omega) h1 h2
 have h0:Known (scs k P) s0 (allR k P) [s0] [s0] []:=Known.start _ (allR_init hK hv)
 have hB:PB P [s0]:=⟨[[s0]],by simp,fun l hl=>by simp at hl;subst hl;simp,by simp,fun j l hj s hs=>by
  rcases Nat.eq_zero_or_pos j with rfl | hj0
  ·simp at hj;subst hj;simp at hs;subst hs;have:=mu_init hv;omega
  ·rw [List.getElem?_eq_none (by simp;omega)] at hj;cases hj⟩
 exact key _ [s0] [s0] [] (Nat.lt_succ_self _) h0 hB
theorem M56_eq : ∃ O:List (List Int),SS O/\(∀ o,o∈O↔Can k P o)/\O.length<=4194304 /\
  ∃ l':List (List Int),M56 Ar.std (eP P) (Int.ofNat (142+k))=some (0,(O.length:Int),eTab l')/\l'.take O.length=O/\O.length<=l'.length /\ ∀ x∈l',GH x:=by
 obtain ⟨done,hd,hdn,hit⟩:=M56L0_all hK hv
 have hlen:=outs_len hK hv hdn (fun s hs=>(hd s).1 hs)
 have hmem : ∀ o,o∈outs P done↔Can k P o:=by
  intro o
  unfold outs Can
  rw [List.mem_map]
  constructor
  ·rintro ⟨s,hs,rfl⟩
   rw [List.mem_filter] at hs
   obtain ⟨hw,hst⟩:=reach_wf hK hv ((hd s).1 hs.1)
   exact ⟨vw P s,hst,(overS_iff hv hw.wf).1 hs.2,outE_eq s⟩
  ·rintro ⟨a,h1,h2,rfl⟩
   obtain ⟨s,hs,rfl⟩:=stps_reach hK hv h1
   obtain ⟨hw,hst⟩:=reach_wf hK hv hs
   exact ⟨s,List.mem_filter.2 ⟨(hd s).2 hs,(overS_iff hv hw.wf).2 h2⟩,(outE_eq s).symm⟩

 have hne:1<=(outs P done).length:=by
  have hex : ∃ o,Can k P o:=by
   have key : ∀ n (s:Sta),mu P s<n->Reach (scs k P) s0 s -> ∃ u,Reach (scs k P) s0 u/\Fini P (vw P u):=by
    intro n
    induction n with
    | zero=>intro s h;omega
    | succ n ih =>
      intro s hs hr
      obtain ⟨hw,_⟩:=reach_wf hK hv hr
      by_cases h : ∃ u,u∈scs k P s
      ·obtain ⟨u,hu⟩:=h
       have:=StpS.mu hK hv hw ((mem_scs hK hv hw).1 hu)
       exact ih u (by omega) (.step hr hu)
      ·refine ⟨s,hr,stuck_fin (k:=k) (fun t i ht hi hm => ?_) (fun t ht => ?_)⟩
       ·exact h ⟨_,(mem_scs hK hv hw).2 (.inl ⟨t,i,ht,hi,hm,rfl⟩)⟩
       ·rw [vw_bf hv hw ht]
        refine (buf_nil hv hw ht).2 ?_
        have w:=hw.wf.w4 hv (lt3 hv ht)
        by_cases h0:0<s (38+t)
        ·by_cases hk2:k=2
         ·exact absurd ⟨_,(mem_scs hK hv hw).2 (.inr ⟨t,ht,hk2,h0,rfl⟩)⟩ h
         ·exact hw.nb hk2 t (lt3 hv ht)
        ·omega
   obtain ⟨u,hu,hf⟩:=key (mu P s0+1) s0 (by omega) .init
   exact ⟨_,vw P u,(reach_wf hK hv hu).2,hf,rfl⟩
  obtain ⟨o,ho⟩:=hex
  have:=(hmem o).2 ho
  exact List.length_pos_of_mem this
 have hg : ∀ h∈outs P done,GH h:=by
  intro h hh
  obtain ⟨s,_,rfl⟩:=List.mem_map.1 hh
  have h8:=sumLd8 hv (Wf.init P)
  show (outE P s).length<_
  unfold outE;simp;omega
 obtain ⟨ss,h1,h2,h3,r20,l',e1,e2,e3⟩:=sorted_exact (outs P done) hne (by omega) hg
 refine ⟨ss,h1,fun o=>(h2 o).trans (hmem o),by omega,l',?_,e3⟩
 unfold M56
 have eZ:Z41=eS s0:=Z41_eq
 rw [show ((.int .u8 0)::(.int .u8 0)::(.int .u8 0)::(.int .i8 0)::(.int .i8 0)::(.int .i8 0)::(.int .i8 0)::(.int .i8 0)::(.int .i8 0)::(.int .i8 0)::(.int .i8 0)::(.int .i8 0)::(.int .i8 0)::(.int .i8 0)::(.int .i8 0)::(.int .i8 0)::(.int .i8 0)::(.int .i8 0)::(.int .i8 0)::(.int .i8 0)::(.int .i8 0)::(.int .i8 0)::(.int .i8 0)::(.int .i8 0)::(.int .i8 0)::(.int .i8 0)::(.int .i8 0)::(.int .i8 0)::(.int .i8 0)::(.int .i8 0)::(.int .i8 0)::(.int .i8 0)::(.int .i8 0)::(.int .i8 0)::(.int .i8 0)::(.int .i8 0)::(.int .i8 0)::(.int .i8 0)::(.int .i64 0)::(.int .i64 0)::(.int .i64 0)::[]:List D)=eS s0 from eZ]
 refine bck (confS s0) ?_
 refine bt (v:=eTab (outs P done)) ?_ ?_
 ·exact hit
 ·refine cnT (by rw [lenHis];simp;omega) (bt e1 (bt e2 rfl))
end
end Go.Am

namespace Go.Am
open Go
def kindB (z:Int):Bool:=decide (1<=z)&&decide (z<=3)
theorem M95_eq (z:Int):M95 Ar.std z=some (if kindB z=true then Int.ofNat (142+z.toNat) else -1):=by
 unfold M95 kindB
 simp only [std_zeq]
 by_cases h1:z=1
 ·subst h1;rfl
 ·by_cases h2:z=2
  ·subst h2;rfl
  ·by_cases h3:z=3
   ·subst h3;rfl
   ·rw [if_neg (by simp;omega)]
    simp [h1,h2,h3]
theorem kind_of {z:Int} (h:kindB z=true):Kind z.toNat/\z=(z.toNat:Int):=by
 unfold kindB at h
 simp at h
 unfold Kind
 omega
def ifs (ks:List Int):List D:=ks.map fun z => .iface (Int.ofNat (142+z.toNat))
theorem M55_eq {P:Pg} (hP:ShortP P) (ks:List Int) (hks:ks.length<=10) :
  M55 Ar.std (eP P) (eInts ks)=some (bif vPrg P then (bif ks.all kindB then (ifs ks,0) else ([],2)) else ([],40)):=by
 unfold M55
 refine bt (M23_eq hP) ?_
 cases vPrg P with
 | false=>rfl
 | true =>
   simp only [cond_true]
   have key:=iter_relE (step:=M55L0 Ar.std (eInts ks)) ks.length (fun (l:List D) i=>(l,(i:Int))) (fun i l=>l=ifs (ks.take i)/\(ks.take i).all kindB=true) (fun i x=>x = .inr ()/\ks.all kindB=false) (fun l => .inl l)
    (fun i l hi hR=>by
     obtain ⟨rfl,hall⟩:=hR
     have hx:=zp1 hi
     generalize ks[i]=z at hx
     have ew:Ar.std.wrp .i64 (Ar.std.zadd (i:Int) 1)=((i+1:Nat):Int):=by simp only [std_wrp,std_zadd];exact wrap1 (n:=10) (by omega) (by omega)
     unfold M55L0
     cases hk:kindB z with
     | true =>
       refine .inl ⟨ifs (ks.take i++[z]),⟨?_,?_⟩,cnT (by simp [hi]) (bt (gt_enc hx) (bt (M95_eq z) ?_))⟩
       ·rw [take_succ_get hx]
       ·rw [take_succ_get hx,List.all_append,hall];simp [hk]
       ·rw [if_pos hk]
        refine cnF (by simp;omega) ?_
        rw [ew]
        have:=ap_map (fun z:Int=>D.iface (Int.ofNat (142+z.toNat))) (ks.take i) [z] (by simp;omega)
        refine bt this ?_
        unfold ifs;rfl
     | false =>
       refine .inr ⟨.inr (),⟨rfl,?_⟩,cnT (by simp [hi]) (bt (gt_enc hx) (bt (M95_eq z) ?_))⟩
       ·rw [Bool.eq_false_iff]
        intro h
        rw [List.all_eq_true] at h
        rw [h z (List.mem_of_getElem? hx)] at hk;cases hk
       ·rw [if_neg (by simp [hk])]
        exact cnT (by simp) rfl)
    (fun l hl=>by
     unfold M55L0
     exact cnF (by simp) rfl) [] ⟨rfl,rfl⟩
   rcases key with ⟨l,⟨rfl,hall⟩,h⟩ | ⟨i,x,_,⟨rfl,hall⟩,h⟩
   ·rw [List.take_length] at hall h
    rw [hall]
    exact bt h rfl
   ·rw [hall]
    exact bt h rfl
structure IsO (k:Nat) (P:Pg) (O:List (List Int)):Prop where
 ss:SS O
 mem : ∀ o,o∈O↔Can k P o
 len:O.length<=4194304
theorem Can.len {k:Nat} {P:Pg} (hK:Kind k) (hv:VP P) {o:List Int} (h:Can k P o):o.length<=11 /\ ∀ x∈o,0<=x/\x<=3:=by
 obtain ⟨a,h1,h2,rfl⟩:=h
 obtain ⟨s,hs,rfl⟩:=stps_reach hK hv h1
 obtain ⟨hw,_⟩:=reach_wf hK hv hs
 have h8:=sumLd8 hv hw.wf
 rw [outE_eq]
 refine ⟨by unfold outE;simp;omega,outE_vals hv hw.wf⟩
theorem M19_eq {P:Pg} (hP:ShortP P) (z:Int) :
  (vPrg P=false/\M19 Ar.std (eP P) z=some ([],40))\/(vPrg P=true/\kindB z=false/\M19 Ar.std (eP P) z=some ([],2)) \/
  (vPrg P=true/\kindB z=true /\ ∃ O,IsO z.toNat P O/\M19 Ar.std (eP P) z=some (eTab O,0)):=by
 have e:=M55_eq hP [z] (by simp)
 unfold M19
 cases hv:vPrg P with
 | false =>
   rw [hv] at e
   exact .inl ⟨rfl,bt e rfl⟩
 | true =>
   rw [hv] at e
   have hall:[z].all kindB=kindB z:=by simp
   rw [hall] at e
   cases hk:kindB z with
   | false =>
     rw [hk] at e
     exact .inr (.inl ⟨rfl,rfl,bt e rfl⟩)
   | true =>
     rw [hk] at e
     obtain ⟨hK,hz⟩:=kind_of hk
     obtain ⟨O,h1,h2,h3,l',e1,e2,e3,e4⟩:=M56_eq hK (VP.of hv)
     refine .inr (.inr ⟨rfl,rfl,O,⟨h1,h2,h3⟩,bt e ?_⟩)
     simp only [cond_true]
     refine cnT rfl (bt (v:=Int.ofNat (142+z.toNat)) rfl (bt e1 (bt (fz_take l' e3) ?_)))
     rw [e2]
theorem half {a b:Nat} (h:a+b<4294967296):Ar.std.wrp .i64 (Ar.std.shr .u64 (Ar.std.wrp .u64 (Ar.std.wrp .i64 (Ar.std.zadd (a:Int) (b:Int)))) 1)=(((a+b) / 2:Nat):Int):=by
 simp only [std_wrp,std_zadd]
 have e0:IntKind.i64.wrap ((a:Int)+(b:Int))=((a+b:Nat):Int):=by
  rw [i64w _ (by omega) (by omega)];omega
 have e:IntKind.u64.wrap (((a+b:Nat):Int))=((a+b:Nat):Int):=by
  simp [IntKind.wrap_u64];omega
 rw [e0,e]
 have e2:Ar.std.shr .u64 ((a+b:Nat):Int) 1=(((a+b) / 2:Nat):Int):=by
  show (((a+b:Nat):Int)).fdiv (2 ^ (min (1:Int).toNat IntKind.u64.bits))=_
  have:(min (1:Int).toNat IntKind.u64.bits)=1:=rfl
  rw [this]
  simp [Int.fdiv_eq_ediv]
 rw [e2,i64w _ (by omega) (by omega)]
instance (a b:List Int):Decidable (ltL a b):=inferInstanceAs (Decidable (cmpL a b<0))
theorem M103_eq {O:List (List Int)} (hs:SS O) (hl:O.length<=5000000) (hg : ∀ x∈O,GH x) {x:List Int} (hx:GH x) :
  ∃ r:Nat,M103 Ar.std (eTab O) (eInts x)=some ((r:Int),decide (x∈O)):=by
 have hp:=List.pairwise_iff_getElem.1 hs
 have key : ∀ n lo hi,hi-lo<n->lo<=hi->hi<=O.length->(∀ i (h:i<O.length),i<lo->ltL O[i] x)->(∀ i (h:i<O.length),hi<=i -> ¬ ltL O[i] x) ->
   ∃ r:Nat,iter (M103L0 Ar.std (eTab O) (eInts x)) ((lo:Int),(hi:Int))=some (r:Int)/\r<=O.length/\(∀ i (h:i<O.length),i<r->ltL O[i] x)/\(∀ i (h:i<O.length),r<=i -> ¬ ltL O[i] x):=by
  intro n
  induction n with
  | zero=>intro _ _ h;omega
  | succ n ih =>
    intro lo hi hn hle hhi h1 h2
    by_cases hlt:lo<hi
    ·have hm:(lo+hi) / 2<O.length:=by omega
     have hget:=zp1 hm
     have hst:M103L0 Ar.std (eTab O) (eInts x) ((lo:Int),(hi:Int))=some (.inl (if ltL O[(lo+hi) / 2] x then ((((lo+hi) / 2+1:Nat):Int),(hi:Int)) else ((lo:Int),(((lo+hi) / 2:Nat):Int)))):=by
      unfold M103L0
      dsimp only
      rw [half (by omega)]
      refine cnT (by simp;omega) (bnk (by simp) (bt (gt_eTab hget) (bt (M98_eq (hg _ (zp6 _)) hx) ?_)))
      simp only [std_zlt,std_wrp,std_zadd]
      rw [i64w _ (by omega) (by omega)]
      by_cases hc:ltL O[(lo+hi) / 2] x
      ·rw [if_pos hc,decide_eq_true (show cmpL O[(lo+hi) / 2] x<0 from hc)];rfl
      ·rw [if_neg hc,decide_eq_false (show ¬ cmpL O[(lo+hi) / 2] x<0 from hc)];rfl
     rw [iter_inl hst]
     by_cases hc:ltL O[(lo+hi) / 2] x
     ·rw [if_pos hc]
      refine ih ((lo+hi) / 2+1) hi (by omega) (by omega) hhi (fun i h hi' => ?_) h2
      rcases Nat.lt_or_eq_of_le (Nat.le_of_lt_succ hi') with h' | h'
      ·exact ltL_tr (hp i _ h hm h') hc
      ·subst h';exact hc
     ·rw [if_neg hc]
      refine ih lo ((lo+hi) / 2) (by omega) (by omega) (by omega) h1 (fun i h hi' => ?_)
      rcases Nat.lt_or_eq_of_le hi' with h' | h'
      ·exact fun hh=>hc (ltL_tr (hp _ i hm h h') hh)
      ·subst h';exact hc
    ·have:lo=hi:=by omega
     subst this
     refine ⟨lo,iter_inr ?_,hhi,h1,h2⟩
     unfold M103L0
     exact cnF (by simp) rfl
 obtain ⟨r,e,hr,h1,h2⟩:=key (O.length+1) 0 O.length (by omega) (by omega) (Nat.le_refl _) (fun i _ h=>by omega) (fun i h h'=>by omega)
 refine ⟨r,?_⟩
 unfold M103
 have e0:Ar.std.len (eTab O)=((O.length:Nat):Int):=by simp
 rw [e0]
 refine bt e ?_
 refine bt (v:=decide (x∈O)) ?_ rfl
 by_cases hrl:r<O.length
 ·have hget:=zp1 hrl
  refine cnT (by simp;omega) (bt (gt_eTab hget) (bt (M98_eq (hg _ (zp6 _)) hx) ?_))
  simp only [std_zeq,zp3]
  rw [decide_eq_decide,cmpL_zero]
  constructor
  ·intro h;rw [<-h];exact zp6 _
  ·intro h
   obtain ⟨j,hj,rfl⟩:=List.mem_iff_getElem.1 h
   rcases Nat.lt_trichotomy r j with h' | h' | h'
   ·exact absurd (hp r j hrl hj h') (h2 r hrl (Nat.le_refl _))
   ·subst h';rfl
   ·exact absurd (h1 j hj h') (ltL_irr _)
 ·refine cnF (by simp;omega) ?_
  simp only [zp3]
  symm
  rw [decide_eq_false_iff_not]
  intro h
  obtain ⟨j,hj,rfl⟩:=List.mem_iff_getElem.1 h
  exact absurd (h1 j hj (by omega)) (ltL_irr _)
theorem M59_eq {O:List (List Int)} (hs:SS O) (hl:O.length<=5000000) (hg : ∀ x∈O,GH x) {x:List Int} (hx:GH x):M59 Ar.std (eTab O) (eInts x)=some (decide (x∈O)):=by
 obtain ⟨r,e⟩:=M103_eq hs hl hg hx
 unfold M59
 exact bt e rfl
theorem IsO.gh {k:Nat} {P:Pg} (hK:Kind k) (hv:VP P) {O:List (List Int)} (h:IsO k P O) : ∀ x∈O,GH x:=fun x hx=>by
 have:=(Can.len hK hv ((h.mem x).1 hx)).1
 show x.length<_;omega
open Classical in
theorem M21_eq {P:Pg} (hP:ShortP P) (z:Int) {x:List Int} (hx:GH x) :
  (vPrg P=false/\M21 Ar.std (eP P) z (eInts x)=some (false,40))\/(vPrg P=true/\kindB z=false/\M21 Ar.std (eP P) z (eInts x)=some (false,2)) \/
  (vPrg P=true/\kindB z=true/\M21 Ar.std (eP P) z (eInts x)=some (decide (Can z.toNat P x),0)):=by
 unfold M21
 rcases M19_eq hP z with ⟨h1,e⟩ | ⟨h1,h2,e⟩ | ⟨h1,h2,O,hO,e⟩
 ·exact .inl ⟨h1,bt e rfl⟩
 ·exact .inr (.inl ⟨h1,h2,bt e rfl⟩)
 ·refine .inr (.inr ⟨h1,h2,bt e ?_⟩)
  have hK:=(kind_of h2).1
  refine bt (v:=decide (Can z.toNat P x)) (cnT rfl (bt (M59_eq hO.ss (by have:=hO.len;omega) (hO.gh hK (VP.of h1)) hx) ?_)) rfl
  rw [zp3,decide_eq_decide]
  exact hO.mem x
def cmpD:List Int->List Int->Int
 | x::l,y::m=>if x=y then cmpD l m else x-y
 | a,b=>(a.length:Int)-b.length
theorem cmpD_lt : ∀ {a b:List Int},(cmpD a b<0↔ltL a b)/\(cmpD a b=0↔a=b)
 | [],[]=>by simp [cmpD,ltL,cmpL]
 | [],_::_=>by simp [cmpD,ltL,cmpL];omega
 | _::_,[]=>by simp [cmpD,ltL,cmpL];omega
 | a::l,b::m=>by
   rw [ltL_cons,List.cons.injEq]
   unfold cmpD
   by_cases h:a=b
   ·rw [if_pos h]
    obtain ⟨h1,h2⟩:=cmpD_lt (a:=l) (b:=m)
    rw [h1,h2]
    simp [h]
   ·rw [if_neg h]
    simp only [h,false_and,or_false,iff_false]
    omega
theorem M30_eq {a b:List Int} (ha:a.length<4294967296) (hb:b.length<4294967296) (va : ∀ x∈a,-4294967296<x/\x<4294967296) (vb : ∀ x∈b,-4294967296<x/\x<4294967296):M30 Ar.std (eInts a) (eInts b)=some (cmpD a b):=by
 have key : ∀ k i,i+k=a.length->i<=b.length -> ∃ x,iter (M30L0 Ar.std (eInts a) (eInts b)) (i:Int)=some x /\
   Sum.elim (fun _:Unit=>some (Ar.std.wrp .i64 (Ar.std.zsub (Ar.std.len (eInts a)) (Ar.std.len (eInts b))))) (fun v:Int=>some v) x=some (cmpD (a.drop i) (b.drop i)):=by
  have hend : ∀ i,i<=a.length->i<=b.length->(i=a.length\/i=b.length)->some (Ar.std.wrp .i64 (Ar.std.zsub (Ar.std.len (eInts a)) (Ar.std.len (eInts b))))=some (cmpD (a.drop i) (b.drop i)):=by
   intro i h1 h2 h3
   simp only [len_enc,std_wrp,std_zsub]
   rw [i64w _ (by omega) (by omega)]
   have e:cmpD (a.drop i) (b.drop i)=((a.drop i).length:Int)-((b.drop i).length:Int):=by
    rcases h3 with h3 | h3
    ·rw [List.drop_eq_nil_of_le (by omega:a.length<=i)];cases b.drop i <;> rfl
    ·rw [List.drop_eq_nil_of_le (by omega:b.length<=i)];cases a.drop i <;> rfl
   rw [e,List.length_drop,List.length_drop]
   congr 1;omega
  intro k
  induction k with
  | zero =>
    intro i hi hib
    obtain rfl:i=a.length:=by omega
    refine ⟨.inl (),iter_inr (by unfold M30L0;exact bt (cnF (by simp) rfl) rfl),hend _ (Nat.le_refl _) hib (.inl rfl)⟩
  | succ k ih =>
    intro i hi hib
    have hia:i<a.length:=by omega
    have h1:=zp1 hia
    by_cases hb':i<b.length
    ·have h2:=zp1 hb'
     rw [List.drop_eq_getElem_cons hia,List.drop_eq_getElem_cons hb']
     have x1:=va _ (zp6 hia)
     have x2:=vb _ (zp6 hb')
     have hst:M30L0 Ar.std (eInts a) (eInts b) (i:Int)=some (bif decide (a[i]=b[i]) then .inl ((i+1:Nat):Int) else .inr (.inr (a[i]-b[i]))):=by
      unfold M30L0
      refine bt (v:=true) (cnT (by simp [hia]) (by simp [hb'])) (cnT rfl (bt (gt_enc h1) (bt (gt_enc h2) ?_)))
      simp only [std_zeq,std_wrp,std_zadd,std_zsub]
      rw [i64w _ (by omega) (by omega),i64w _ (by omega) (by omega)]
      cases decide (a[i]=b[i]) <;> rfl
     by_cases hz:a[i]=b[i]
     ·rw [decide_eq_true hz] at hst
      obtain ⟨x,e1,e2⟩:=ih (i+1) (by omega) (by omega)
      refine ⟨x,by rw [iter_inl hst];exact e1,?_⟩
      rw [e2,cmpD,if_pos hz]
     ·rw [decide_eq_false hz] at hst
      refine ⟨_,iter_inr hst,?_⟩
      rw [cmpD,if_neg hz];rfl
    ·refine ⟨.inl (),iter_inr ?_,hend _ (by omega) hib (.inr (by omega))⟩
     unfold M30L0
     exact bt (v:=false) (cnT (by simp [hia]) (by simp;omega)) (cnF rfl rfl)
 obtain ⟨x,e1,e2⟩:=key a.length 0 (by omega) (by omega)
 unfold M30
 refine bt e1 ?_
 simpa using e2
def SmL (x:List Int):Prop:=x.length<4294967296 /\ ∀ y∈x,-4294967296<y/\y<4294967296
end Go.Am

namespace Go.Am
open Go
theorem strict_buf {P:Pg} {s:AS} (h:Stps 1 P AS.init s):Stps 2 P AS.init s /\ ∀ t,s.bf t=[]:=by
 induction h with
 | refl=>exact ⟨.refl _,fun _=>rfl⟩
 | @tail u v h h' ih =>
   obtain ⟨i1,i2⟩:=ih
   cases h' with
   | out t ht hk=>cases hk
   | act t i ht hi hm =>
     have hm2:mayT 2 (thr P t) (u.t t) i:=⟨hm.1,fun j hj _=>hm.2.1 j hj (.inl (by decide)),fun _ _=>i2 t⟩
     have h1:=i1.tail (.act t i ht hi hm2)
     by_cases ha:(aAt (thr P t) i).1=2
     ·have e:doA 1 P u t i=outB (doA 2 P u t i) t:=by
       unfold outB
       have hb:(doA 2 P u t i).bf t=[((aAt (thr P t) i).2.1,(aAt (thr P t) i).2.2)]:=by
        unfold doA
        simp [ha,i2 t]
       rw [hb]
       unfold doA
       simp only [ha]
       have hf:fup (fup u.bf t [((aAt (thr P t) i).2.1,(aAt (thr P t) i).2.2)]) t []=u.bf:=by
        rw [up_up]
        have:=up_self u.bf t
        rw [i2 t] at this;exact this
       simp [i2 t]
       exact hf.symm
      refine ⟨?_,fun t' => ?_⟩
      ·rw [e]
       refine h1.tail (.out t ht rfl ?_)
       unfold doA
       simp [ha]
      ·unfold doA;simp [i2 t']
     ·have e:doA 1 P u t i=doA 2 P u t i:=by
       unfold doA;simp [ha]
      rw [e]
      exact ⟨h1,fun t'=>by unfold doA;simp [ha,i2 t']⟩
theorem Can.strict {P:Pg} {o:List Int} (h:Can 1 P o):Can 2 P o:=by
 obtain ⟨s,h1,h2,h3⟩:=h
 exact ⟨s,(strict_buf h1).1,h2,h3⟩
def sts (l:List Ac) (h n:Nat):List (Int×Int):=(List.range' h (n-h)).filterMap fun i=>if (aAt l i).1=2 then some ((aAt l i).2.1,(aAt l i).2.2) else none
theorem sts_succ {l:List Ac} {h n:Nat} (hn:h<=n):sts l h (n+1)=sts l h n++if (aAt l n).1=2 then [((aAt l n).2.1,(aAt l n).2.2)] else []:=by
 unfold sts
 rw [show n+1-h=n-h+1 by omega,List.range'_concat,List.filterMap_append,show h+1*(n-h)=n by omega]
 by_cases ha:(aAt l n).1=2 <;> simp [ha]
theorem sts_head {l:List Ac} {n:Nat} {e:Int×Int} {r:List (Int×Int)} : ∀ {h:Nat},sts l h n=e::r -> ∃ j,h<=j/\j<n/\(aAt l j).1=2/\e=((aAt l j).2.1,(aAt l j).2.2)/\r=sts l (j+1) n /\ ∀ i,h<=i->i<j->(aAt l i).1≠2:=by
 intro h
 generalize hk:n-h=k
 induction k generalizing h with
 | zero=>intro hh;unfold sts at hh;rw [hk] at hh;simp at hh
 | succ k ih =>
   intro hh
   unfold sts at hh
   rw [hk,List.range'_succ,List.filterMap_cons] at hh
   by_cases ha:(aAt l h).1=2
   ·rw [if_pos ha] at hh
    simp only [List.cons.injEq] at hh
    refine ⟨h,Nat.le_refl _,by omega,ha,hh.1.symm,?_,fun i h1 h2=>by omega⟩
    rw [<-hh.2];unfold sts
    rw [show n-(h+1)=k by omega]
   ·rw [if_neg ha] at hh
    obtain ⟨j,j1,j2,j3,j4,j5,j6⟩:=ih (h:=h+1) (by omega) (by unfold sts;rw [show n-(h+1)=k by omega];exact hh)
    refine ⟨j,by omega,j2,j3,j4,j5,fun i h1 h2 => ?_⟩
    rcases Nat.lt_or_eq_of_le h1 with h' | h'
    ·exact j6 i h' h2
    ·subst h';exact ha
theorem sts_nil {l:List Ac} {h n:Nat} (hh:sts l h n=[]) : ∀ i,h<=i->i<n->(aAt l i).1≠2:=by
 intro i h1 h2 ha
 unfold sts at hh
 rw [List.filterMap_eq_nil_iff] at hh
 have:=hh i (by rw [List.mem_range'_1];omega)
 simp [ha] at this
def snf (c:Int) (l:List (Int×Int)) (d:Int):Int:=l.foldl (fun v e=>if e.1=c then e.2 else v) d
theorem snf_sts {l:List Ac} {c d:Int} {h:Nat} : ∀ {n:Nat},h<=n->((∀ i,h<=i->i<n->(aAt l i).1=2->(aAt l i).2.1≠c)/\snf c (sts l h n) d=d) \/
  ∃ j,h<=j/\j<n/\(aAt l j).1=2/\(aAt l j).2.1=c/\(∀ k,j<k->k<n->(aAt l k).1=2->(aAt l k).2.1≠c)/\snf c (sts l h n) d=(aAt l j).2.2:=by
 intro n
 induction n with
 | zero=>intro hn;refine .inl ⟨fun i h1 h2=>by omega,?_⟩;unfold sts;simp [snf]
 | succ n ih =>
   intro hn
   by_cases hh:h=n+1
   ·refine .inl ⟨fun i h1 h2=>by omega,?_⟩
    unfold sts;rw [hh];simp [snf]
   ·have hle:h<=n:=by omega
    rw [sts_succ hle]
    by_cases ha:(aAt l n).1=2/\(aAt l n).2.1=c
    ·refine .inr ⟨n,hle,by omega,ha.1,ha.2,fun k h1 h2=>by omega,?_⟩
     rw [if_pos ha.1]
     unfold snf
     rw [List.foldl_append]
     simp [ha.2]
    ·have e:snf c (sts l h n++if (aAt l n).1=2 then [((aAt l n).2.1,(aAt l n).2.2)] else []) d=snf c (sts l h n) d:=by
      by_cases h2:(aAt l n).1=2
      ·rw [if_pos h2]
       unfold snf
       rw [List.foldl_append]
       have : ¬ (aAt l n).2.1=c:=fun hc=>ha ⟨h2,hc⟩
       simp [this]
      ·rw [if_neg h2,List.append_nil]
     rw [e]
     rcases ih hle with ⟨i1,i2⟩ | ⟨j,j1,j2,j3,j4,j5,j6⟩
     ·refine .inl ⟨fun i h1 h2 h3 hc => ?_,i2⟩
      rcases Nat.lt_or_eq_of_le (Nat.le_of_lt_succ h2) with h' | h'
      ·exact i1 i h1 h' h3 hc
      ·subst h';exact ha ⟨h3,hc⟩
     ·refine .inr ⟨j,j1,by omega,j3,j4,fun i h1 h2 h3 hc => ?_,j6⟩
      rcases Nat.lt_or_eq_of_le (Nat.le_of_lt_succ h2) with h' | h'
      ·exact j5 i h1 h' h3 hc
      ·subst h';exact ha ⟨h3,hc⟩
def pend (l:List Ac) (h i:Nat):Prop:=(aAt l i).1≠3 /\ ∃ j,h<=j/\j<=i/\(aAt l j).1=2/\(aAt l j).2.1=(aAt l i).2.1
def lastV (l:List Ac) (h i:Nat) (v:Int):Prop := ∃ j,h<=j/\j<i/\(aAt l j).1=2/\(aAt l j).2.1=(aAt l i).2.1/\(∀ k,j<k->k<i->(aAt l k).1=2->(aAt l k).2.1≠(aAt l i).2.1)/\v=(aAt l j).2.2
structure RelL (P:Pg) (T L:AS) (n h:Nat->Nat):Prop where
 hn : ∀ t,h t<=n t/\n t<=(thr P t).length
 dn : ∀ t i,T.dn t i=true↔i<n t
 bf : ∀ t,T.bf t=sts (thr P t) (h t) (n t)
 ln : ∀ t i,L.dn t i=true↔i<n t /\ ¬ pend (thr P t) (h t) i
 lb : ∀ t,L.bf t=[]
 ce:L.ce=T.ce
 rd : ∀ t i,i<n t->(aAt (thr P t) i).1=1->(¬ pend (thr P t) (h t) i->L.rd t i=T.rd t i)/\(pend (thr P t) (h t) i->lastV (thr P t) (h t) i (T.rd t i))
theorem RelL.init (P:Pg):RelL P AS.init AS.init (fun _=>0) (fun _=>0) where
 hn _:=⟨Nat.le_refl _,Nat.zero_le _⟩
 dn t i:=by simp [AS.init]
 bf t:=by simp [AS.init,sts]
 ln t i:=by simp [AS.init]
 lb _:=rfl
 ce:=rfl
 rd t i hi:=by omega
theorem RelL.act {P:Pg} {T L:AS} {n h:Nat->Nat} (hR:RelL P T L n h) {t i:Nat} (ht:t<P.length) (hi:i<(thr P t).length) (hm:mayT 2 (thr P t) (T.t t) i) :
  ∃ L',Stps 3 P L L'/\RelL P (doA 2 P T t i) L' (fup n t (n t+1)) h:=by
 have hin:i=n t:=by
  have h1 : ¬ i<n t:=fun hlt=>by
   have:=(hR.dn t i).2 hlt
   rw [show T.dn t i=false from hm.1] at this;cases this
  by_cases h2:n t<i
  ·have:=(hR.dn t (n t)).1 (hm.2.1 _ h2 (.inl (by decide)))
   omega
  ·omega
 subst hin
 obtain ⟨g1,g2⟩:=hR.hn t
 have hn' : ∀ u,h u<=fup n t (n t+1) u/\fup n t (n t+1) u<=(thr P u).length:=by
  intro u
  by_cases hu:u=t
  ·subst hu;rw [up_same];omega
  ·rw [up_ne _ _ _ hu];exact hR.hn u
 have dn' : ∀ u i,(doA 2 P T t (n t)).dn u i=true↔i<fup n t (n t+1) u:=by
  intro u i
  unfold doA
  dsimp only
  by_cases hu:u=t
  ·subst hu
   rw [up_same,up_same]
   by_cases hx:i=n u
   ·subst hx;rw [up_same];simp
   ·rw [up_ne _ _ _ hx,hR.dn u i];omega
  ·rw [up_ne _ _ _ hu,up_ne _ _ _ hu];exact hR.dn u i
 have bf' : ∀ u,(doA 2 P T t (n t)).bf u=sts (thr P u) (h u) (fup n t (n t+1) u):=by
  intro u
  unfold doA
  dsimp only
  by_cases hu:u=t
  ·subst hu
   rw [up_same,sts_succ g1,<-hR.bf u]
   by_cases ha:(aAt (thr P u) (n u)).1=2
   ·rw [if_pos ⟨ha,rfl⟩,if_pos ha,up_same]
   ·rw [if_neg (fun hh=>ha hh.1),if_neg ha,List.append_nil]
  ·rw [up_ne _ _ _ hu]
   by_cases ha:(aAt (thr P t) (n t)).1=2
   ·rw [if_pos ⟨ha,rfl⟩,up_ne _ _ _ hu];exact hR.bf u
   ·rw [if_neg (fun hh=>ha hh.1)];exact hR.bf u
 have ce':(doA 2 P T t (n t)).ce=T.ce:=by
  unfold doA
  simp
 have rdT : ∀ u i,¬ (u=t/\i=n t)->(doA 2 P T t (n t)).rd u i=T.rd u i:=by
  intro u i hui
  unfold doA
  dsimp only
  split
  ·by_cases hu:u=t
   ·subst hu
    rw [up_same,up_ne _ _ _ (fun hh=>hui ⟨rfl,hh⟩)]
   ·rw [up_ne _ _ _ hu]
  ·rfl
 have snT : ∀ c,sn T t c=snf c (sts (thr P t) (h t) (n t)) (T.ce c):=fun c=>by
  unfold sn snf
  rw [hR.bf t]
 by_cases hp:pend (thr P t) (h t) (n t)
 ·refine ⟨L,.refl _,hn',dn',bf',?_,hR.lb,by rw [ce'];exact hR.ce,?_⟩
  ·intro u i
   by_cases hu:u=t
   ·subst hu
    rw [up_same,hR.ln u i]
    by_cases hx:i=n u
    ·subst hx;simp [hp]
    ·constructor
     ·rintro ⟨a,b⟩;exact ⟨by omega,b⟩
     ·rintro ⟨a,b⟩;exact ⟨by omega,b⟩
   ·rw [up_ne _ _ _ hu];exact hR.ln u i
  ·intro u i hlt h1
   by_cases hui:u=t/\i=n t
   ·obtain ⟨rfl,rfl⟩:=hui
    refine ⟨fun hnp=>absurd hp hnp,fun _ => ?_⟩
    have e:(doA 2 P T u (n u)).rd u (n u)=sn T u (aAt (thr P u) (n u)).2.1:=by
     unfold doA
     dsimp only
     rw [if_pos h1,up_same,up_same]
    rw [e,snT]
    rcases snf_sts (l:=thr P u) (c:=(aAt (thr P u) (n u)).2.1) (d:=T.ce (aAt (thr P u) (n u)).2.1) g1 with ⟨i1,_⟩ | hh
    ·obtain ⟨_,j,j1,j2,j3,j4⟩:=hp
     have:j≠n u:=fun hh=>by subst hh;rw [h1] at j3;cases j3
     exact absurd j4 (i1 j j1 (by omega) j3)
    ·exact hh
   ·rw [rdT u i hui]
    refine hR.rd u i ?_ h1
    by_cases hu:u=t
    ·subst hu;rw [up_same] at hlt
     have:i≠n u:=fun hh=>hui ⟨rfl,hh⟩
     omega
    ·rw [up_ne _ _ _ hu] at hlt;exact hlt
 ·have ha:(aAt (thr P t) (n t)).1≠2:=fun ha=>hp ⟨by rw [ha];decide,n t,g1,Nat.le_refl _,ha,rfl⟩
  have hmL:mayT 3 (thr P t) (L.t t) (n t):=by
   refine ⟨?_,fun j hj hmu => ?_,fun hk=>by cases hk⟩
   ·cases hd:(L.t t).1 (n t) with
    | false=>rfl
    | true=>have:=((hR.ln t (n t)).1 hd).1;omega
   ·refine (hR.ln t j).2 ⟨hj,fun hpj => ?_⟩
    obtain ⟨p1,q,q1,q2,q3,q4⟩:=hpj
    rcases hmu with hk | h3 | h3 | h3
    ·exact absurd rfl hk
    ·have hbn:T.bf t=[]:=hm.2.2 rfl h3
     rw [hR.bf t] at hbn
     exact sts_nil hbn q q1 (by omega) q3
    ·exact p1 h3
    ·by_cases h33:(aAt (thr P t) (n t)).1=3
     ·have hbn:T.bf t=[]:=hm.2.2 rfl h33
      rw [hR.bf t] at hbn
      exact sts_nil hbn q q1 (by omega) q3
     ·exact hp ⟨h33,q,q1,by omega,q3,by rw [q4,h3]⟩
  refine ⟨doA 3 P L t (n t),Stps.one (.act t (n t) ht hi hmL),hn',dn',bf',?_,?_,?_,?_⟩
  ·intro u i
   unfold doA
   dsimp only
   by_cases hu:u=t
   ·subst hu
    rw [up_same,up_same]
    by_cases hx:i=n u
    ·subst hx;rw [up_same];simp [hp]
    ·rw [up_ne _ _ _ hx,hR.ln u i]
     constructor
     ·rintro ⟨a,b⟩;exact ⟨by omega,b⟩
     ·rintro ⟨a,b⟩;exact ⟨by omega,b⟩
   ·rw [up_ne _ _ _ hu,up_ne _ _ _ hu];exact hR.ln u i
  ·intro u
   unfold doA
   simp only [ha,false_and,if_false]
   exact hR.lb u
  ·rw [ce']
   unfold doA
   simp only [ha,false_and,if_false]
   exact hR.ce
  ·intro u i hlt h1
   by_cases hui:u=t/\i=n t
   ·obtain ⟨rfl,rfl⟩:=hui
    refine ⟨fun _ => ?_,fun hh=>absurd hh hp⟩
    have e:(doA 2 P T u (n u)).rd u (n u)=sn T u (aAt (thr P u) (n u)).2.1:=by
     unfold doA
     dsimp only
     rw [if_pos h1,up_same,up_same]
    have e2:(doA 3 P L u (n u)).rd u (n u)=sn L u (aAt (thr P u) (n u)).2.1:=by
     unfold doA
     dsimp only
     rw [if_pos h1,up_same,up_same]
    rw [e,e2,snT]
    have e3:sn L u (aAt (thr P u) (n u)).2.1=T.ce (aAt (thr P u) (n u)).2.1:=by
     unfold sn;rw [hR.lb u,hR.ce];rfl
    rw [e3]
    rcases snf_sts (l:=thr P u) (c:=(aAt (thr P u) (n u)).2.1) (d:=T.ce (aAt (thr P u) (n u)).2.1) g1 with ⟨_,i2⟩ | ⟨j,j1,j2,j3,j4,_⟩
    ·exact i2.symm
    ·exact absurd ⟨by rw [h1];decide,j,j1,by omega,j3,j4⟩ hp
   ·rw [rdT u i hui]
    have hlt':i<n u:=by
     by_cases hu:u=t
     ·subst hu;rw [up_same] at hlt
      have:i≠n u:=fun hh=>hui ⟨rfl,hh⟩
      omega
     ·rw [up_ne _ _ _ hu] at hlt;exact hlt
    have e:(doA 3 P L t (n t)).rd u i=L.rd u i:=by
     unfold doA
     dsimp only
     split
     ·by_cases hu:u=t
      ·subst hu
       rw [up_same,up_ne _ _ _ (fun hh=>hui ⟨rfl,hh⟩)]
      ·rw [up_ne _ _ _ hu]
     ·rfl
    rw [e]
    exact hR.rd u i hlt' h1
theorem drain {P:Pg} {L:AS} {t h j n:Nat} (ht:t<P.length) (hjn:j<n) (hnl:n<=(thr P t).length) (hhj:h<=j) (hst:(aAt (thr P t) j).1=2) (hno : ∀ i,h<=i->i<j->(aAt (thr P t) i).1≠2)
  (ln : ∀ i,L.dn t i=true↔i<n /\ ¬ pend (thr P t) h i) (lb : ∀ t,L.bf t=[]) : ∀ m,j+1<=m->m<=n -> ∃ L',Stps 3 P L L'/\L'.ce=fup L.ce (aAt (thr P t) j).2.1 (aAt (thr P t) j).2.2/\(∀ u,L'.bf u=[]) /\
   (∀ u,u≠t->L'.dn u=L.dn u/\L'.rd u=L.rd u)/\(∀ x,L'.dn t x=true↔x<n/\((x<m /\ ¬ pend (thr P t) (j+1) x)\/(m<=x /\ ¬ pend (thr P t) h x))) /\
   (∀ x,(aAt (thr P t) x).1=1->(x<m->pend (thr P t) h x -> ¬ pend (thr P t) (j+1) x->L'.rd t x=(aAt (thr P t) j).2.2)/\(¬ (x<m/\pend (thr P t) h x /\ ¬ pend (thr P t) (j+1) x)->L'.rd t x=L.rd t x)):=by
 have up : ∀ {x},pend (thr P t) (j+1) x->pend (thr P t) h x:=fun {x} ⟨p1,q,q1,q2⟩=>⟨p1,q,by omega,q2⟩
 have low : ∀ {x},x<j+1 -> ¬ pend (thr P t) (j+1) x:=fun {x} hx ⟨_,q,q1,q2,_⟩=>by omega
 have lowh : ∀ {x},x<j -> ¬ pend (thr P t) h x:=fun {x} hx ⟨_,q,q1,q2,q3,_⟩=>hno q q1 (by omega) q3
 have pj:pend (thr P t) h j:=⟨by rw [hst];decide,j,hhj,Nat.le_refl _,hst,rfl⟩
 intro m hm
 induction m with
 | zero=>omega
 | succ m ih =>
   intro hmn
   by_cases hmj:m=j
   ·subst hmj
    have hmay:mayT 3 (thr P t) (L.t t) m:=by
     refine ⟨?_,fun q hq _=>(ln q).2 ⟨by omega,lowh hq⟩,fun hk=>by cases hk⟩
     cases hd:(L.t t).1 m with
     | false=>rfl
     | true=>exact absurd pj ((ln m).1 hd).2
    have h1:(aAt (thr P t) m).1≠1:=by rw [hst];decide
    refine ⟨doA 3 P L t m,Stps.one (.act t m ht (by omega) hmay),?_,?_,?_,?_,?_⟩
    ·unfold doA;simp [hst]
    ·intro u;unfold doA;simp [lb u]
    ·intro u hu;unfold doA;simp [hst,up_ne _ _ _ hu]
    ·intro x
     unfold doA
     dsimp only
     rw [up_same]
     by_cases hx:x=m
     ·subst hx
      rw [up_same]
      simp [hjn,low (Nat.lt_succ_self x)]
     ·rw [up_ne _ _ _ hx,ln x]
      refine and_congr_right fun _ => ?_
      constructor
      ·intro hp
       by_cases hlt:x<m+1
       ·exact .inl ⟨hlt,low hlt⟩
       ·exact .inr ⟨by omega,hp⟩
      ·rintro (⟨a,b⟩ | ⟨a,b⟩)
       ·exact lowh (by omega)
       ·exact b
    ·intro x hx
     refine ⟨fun a b c => ?_,fun _=>by unfold doA;simp [hst]⟩
     have:x≠m:=fun hh=>h1 (hh▸hx)
     exact absurd b (lowh (by omega))
   ·obtain ⟨L',s1,s2,s3,s4,s5,s6⟩:=ih (by omega) (by omega)
    by_cases hp:pend (thr P t) h m /\ ¬ pend (thr P t) (j+1) m
    ·have hns:(aAt (thr P t) m).1≠2:=fun ha=>hp.2 ⟨hp.1.1,m,by omega,Nat.le_refl _,ha,rfl⟩
     have hc:(aAt (thr P t) m).2.1=(aAt (thr P t) j).2.1:=by
      obtain ⟨⟨p1,q,q1,q2,q3,q4⟩,hp2⟩:=hp
      rcases Nat.lt_trichotomy q j with h' | h' | h'
      ·exact absurd q3 (hno q q1 h')
      ·subst h';exact q4.symm
      ·exact absurd ⟨p1,q,h',q2,q3,q4⟩ hp2
     have hmay:mayT 3 (thr P t) (L'.t t) m:=by
      refine ⟨?_,fun q hq hmu=>(s5 q).2 ⟨by omega,.inl ⟨hq,fun hpq => ?_⟩⟩,fun hk=>by cases hk⟩
      ·cases hd:(L'.t t).1 m with
       | false=>rfl
       | true =>
         rcases ((s5 m).1 hd).2 with ⟨a,_⟩ | ⟨_,b⟩
         ·omega
         ·exact absurd hp.1 b
      ·obtain ⟨p1,r,r1,r2,r3,r4⟩:=hpq
       rcases hmu with hk | h3 | h3 | h3
       ·exact absurd rfl hk
       ·exact hp.1.1 h3
       ·exact p1 h3
       ·exact hp.2 ⟨hp.1.1,r,r1,by omega,r3,by rw [r4,h3]⟩
     refine ⟨doA 3 P L' t m,s1.tail (.act t m ht (by omega) hmay),?_,?_,?_,?_,?_⟩
     ·unfold doA;simp only [hns,false_and,if_false];exact s2
     ·intro u;unfold doA;simp only [hns,false_and,if_false];exact s3 u
     ·intro u hu
      unfold doA
      dsimp only
      rw [up_ne _ _ _ hu]
      refine ⟨(s4 u hu).1,?_⟩
      split
      ·rw [up_ne _ _ _ hu];exact (s4 u hu).2
      ·exact (s4 u hu).2
     ·intro x
      unfold doA
      dsimp only
      rw [up_same]
      by_cases hx:x=m
      ·subst hx;rw [up_same]
       simp [hp.2];omega
      ·rw [up_ne _ _ _ hx,s5 x]
       refine and_congr_right fun _ => ?_
       constructor
       ·rintro (⟨a,b⟩ | ⟨a,b⟩)
        ·exact .inl ⟨by omega,b⟩
        ·exact .inr ⟨by omega,b⟩
       ·rintro (⟨a,b⟩ | ⟨a,b⟩)
        ·exact .inl ⟨by omega,b⟩
        ·exact .inr ⟨by omega,b⟩
     ·intro x hx
      by_cases hxm:x=m
      ·subst hxm
       refine ⟨fun _ _ _ => ?_,fun hh=>absurd ⟨by omega,hp.1,hp.2⟩ hh⟩
       unfold doA
       dsimp only
       rw [if_pos hx,up_same,up_same]
       unfold sn
       rw [s3 t,s2,hc,up_same];rfl
      ·have e:(doA 3 P L' t m).rd t x=L'.rd t x:=by
        unfold doA
        dsimp only
        split
        ·rw [up_same,up_ne _ _ _ hxm]
        ·rfl
       rw [e]
       exact ⟨fun a b c=>(s6 x hx).1 (by omega) b c,fun hh=>(s6 x hx).2 fun ⟨a,b,c⟩=>hh ⟨by omega,b,c⟩⟩
    ·refine ⟨L',s1,s2,s3,s4,?_,?_⟩
     ·intro x
      rw [s5 x]
      refine and_congr_right fun _ => ?_
      by_cases hx:x=m
      ·subst hx
       constructor
       ·rintro (⟨a,b⟩ | ⟨a,b⟩)
        ·omega
        ·exact .inl ⟨by omega,fun hh=>b (up hh)⟩
       ·rintro (⟨a,b⟩ | ⟨a,b⟩)
        ·exact .inr ⟨Nat.le_refl _,fun hh=>hp ⟨hh,b⟩⟩
        ·omega
      ·constructor
       ·rintro (⟨a,b⟩ | ⟨a,b⟩)
        ·exact .inl ⟨by omega,b⟩
        ·exact .inr ⟨by omega,b⟩
       ·rintro (⟨a,b⟩ | ⟨a,b⟩)
        ·exact .inl ⟨by omega,b⟩
        ·exact .inr ⟨by omega,b⟩
     ·intro x hx
      by_cases hxm:x=m
      ·subst hxm
       refine ⟨fun _ b c=>absurd ⟨b,c⟩ hp,fun _=>(s6 x hx).2 fun ⟨a,_⟩=>by omega⟩
      ·exact ⟨fun a b c=>(s6 x hx).1 (by omega) b c,fun hh=>(s6 x hx).2 fun ⟨a,b,c⟩=>hh ⟨by omega,b,c⟩⟩
theorem RelL.out {P:Pg} {T L:AS} {n h:Nat->Nat} (hR:RelL P T L n h) {t:Nat} (ht:t<P.length) (hb:T.bf t≠[]) :
  ∃ L' h',Stps 3 P L L'/\RelL P (outB T t) L' n h':=by
 obtain ⟨g1,g2⟩:=hR.hn t
 cases hbt:T.bf t with
 | nil=>exact absurd hbt hb
 | cons e r =>
   have hbt':=hbt
   rw [hR.bf t] at hbt'
   obtain ⟨j,j1,j2,j3,j4,j5,j6⟩:=sts_head hbt'
   obtain ⟨L',s1,s2,s3,s4,s5,s6⟩:=drain ht j2 g2 j1 j3 j6 (hR.ln t) hR.lb (n t) (by omega) (Nat.le_refl _)
   have eO:outB T t={ T with bf:=fup T.bf t r,ce:=fup T.ce e.1 e.2 }:=by
    unfold outB;rw [hbt]
   rw [eO]
   refine ⟨L',fup h t (j+1),s1,?_,hR.dn,?_,?_,s3,?_,?_⟩
   ·intro u
    by_cases hu:u=t
    ·subst hu;rw [up_same];omega
    ·rw [up_ne _ _ _ hu];exact hR.hn u
   ·intro u
    dsimp only
    by_cases hu:u=t
    ·subst hu;rw [up_same,up_same];exact j5
    ·rw [up_ne _ _ _ hu,up_ne _ _ _ hu];exact hR.bf u
   ·intro u i
    by_cases hu:u=t
    ·subst hu
     rw [up_same,s5 i]
     refine and_congr_right fun hi => ?_
     constructor
     ·rintro (⟨_,b⟩ | ⟨a,_⟩)
      ·exact b
      ·omega
     ·intro b;exact .inl ⟨hi,b⟩
    ·rw [up_ne _ _ _ hu,(s4 u hu).1];exact hR.ln u i
   ·dsimp only
    rw [s2,hR.ce,j4]
   ·intro u i hi h1
    dsimp only
    by_cases hu:u=t
    ·subst hu
     rw [up_same]
     have old:=hR.rd u i hi h1
     have h6:=s6 i h1
     refine ⟨fun hnp => ?_,fun hp => ?_⟩
     ·by_cases hp:pend (thr P u) (h u) i
      ·rw [h6.1 hi hp hnp]
       obtain ⟨q,q1,q2,q3,q4,q5,q6⟩:=old.2 hp
       rw [q6]
       rcases Nat.lt_trichotomy q j with h' | h' | h'
       ·exact absurd q3 (j6 q q1 h')
       ·subst h';rfl
       ·exact absurd ⟨by rw [h1];decide,q,h',by omega,q3,q4⟩ hnp
      ·rw [h6.2 (fun hh=>hp hh.2.1)];exact old.1 hp
     ·have hp0:pend (thr P u) (h u) i:=by
       obtain ⟨p1,q,q1,q2⟩:=hp
       exact ⟨p1,q,by omega,q2⟩
      obtain ⟨q,q1,q2,q3,q4,q5,q6⟩:=old.2 hp0
      refine ⟨q,?_,q2,q3,q4,q5,q6⟩
      rcases Nat.lt_trichotomy q j with h' | h' | h'
      ·exact absurd q3 (j6 q q1 h')
      ·subst h'
       obtain ⟨p1,r,r1,r2,r3,r4⟩:=hp
       have:r≠i:=fun hh=>by subst hh;rw [h1] at r3;cases r3
       exact absurd r4 (q5 r r1 (by omega) r3)
      ·exact h'
    ·rw [up_ne _ _ _ hu,(s4 u hu).2];exact hR.rd u i hi h1
theorem buf_loose {P:Pg} {T:AS} (h:Stps 2 P AS.init T) : ∃ L n h,Stps 3 P AS.init L/\RelL P T L n h:=by
 induction h with
 | refl=>exact ⟨AS.init,_,_,.refl _,RelL.init P⟩
 | @tail u v h h' ih =>
   obtain ⟨L,n,hh,i1,i2⟩:=ih
   cases h' with
   | act t i ht hi hm =>
     obtain ⟨L',s1,s2⟩:=i2.act ht hi hm
     exact ⟨L',_,_,i1.trans s1,s2⟩
   | out t ht hk hb =>
     obtain ⟨L',h',s1,s2⟩:=i2.out ht hb
     exact ⟨L',_,_,i1.trans s1,s2⟩
theorem Can.loose {P:Pg} {o:List Int} (h:Can 2 P o):Can 3 P o:=by
 obtain ⟨T,h1,h2,rfl⟩:=h
 obtain ⟨L,n,hh,i1,i2⟩:=buf_loose h1
 have hnp : ∀ t,t<P.length -> ∀ i,i<n t -> ¬ pend (thr P t) (hh t) i:=fun t ht i hi ⟨_,q,q1,q2,q3,_⟩=>by
  have:=(h2 t ht).2
  rw [i2.bf t] at this
  exact sts_nil this q q1 (by omega) q3
 have hlt : ∀ t,t<P.length -> ∀ i,i<(thr P t).length->i<n t:=fun t ht i hi=>(i2.dn t i).1 ((h2 t ht).1 i hi)
 refine ⟨L,i1,fun t ht=>⟨fun i hi=>(i2.ln t i).2 ⟨hlt t ht i hi,hnp t ht i (hlt t ht i hi)⟩,i2.lb t⟩,?_⟩
 unfold outc
 rw [i2.ce]
 congr 1
 have fc : ∀ (l:List Nat) (f g:Nat->List Int),(∀ x∈l,f x=g x)->l.flatMap f=l.flatMap g:=fun l f g hh=>by
  unfold List.flatMap
  rw [List.map_congr_left hh]
 refine fc _ _ _ fun t ht => ?_
 rw [List.mem_range] at ht
 unfold reads
 have fm : ∀ (l:List Nat) (f g:Nat->Option Int),(∀ x∈l,f x=g x)->l.filterMap f=l.filterMap g:=by
  intro l f g
  induction l with
  | nil=>intro _;rfl
  | cons x l ih =>
    intro hh
    rw [List.filterMap_cons,List.filterMap_cons,hh x (List.mem_cons_self ..),ih fun y hy=>hh y (List.mem_cons_of_mem _ hy)]
 refine fm _ _ _ fun i hi => ?_
 rw [List.mem_range] at hi
 by_cases h1:(aAt (thr P t) i).1=1
 ·rw [if_pos h1,if_pos h1,(i2.rd t i (hlt t ht i hi) h1).1 (hnp t ht i (hlt t ht i hi))]
 ·rw [if_neg h1,if_neg h1]
end Go.Am

namespace Go.Am
open Go
theorem live {k:Nat} (hK:Kind k) {P:Pg} (hv:VP P) : ∀ (n:Nat) (s:Sta),mu P s<n->Reach (scs k P) s0 s -> ∃ u,Reach (scs k P) s0 u/\Fini P (vw P u):=by
 intro n
 induction n with
 | zero=>intro _ h;omega
 | succ n ih =>
   intro s hn hs
   have hk:=(reach_wf hK hv hs).1
   by_cases h : ∃ u,StpS k P s u
   ·obtain ⟨u,hu⟩:=h
    exact ih u (by have:=StpS.mu hK hv hk hu;omega) (.step hs ((mem_scs hK hv hk).2 hu))
   ·have hno : ∀ a,¬ Stp k P (vw P s) a:=fun a ha=>by
     obtain ⟨u,hu,_⟩:=stp_StpS hK hv hk ha
     exact h ⟨u,hu⟩
    refine ⟨s,hs,stuck_fin (k:=k) (fun t i ht hi hm=>hno _ (.act t i ht hi hm)) fun t ht => ?_⟩
    by_cases h2:k=2
    ·cases hb:(vw P s).bf t with
     | nil=>rfl
     | cons e r=>exact absurd (Stp.out t ht h2 (by rw [hb];simp)) (hno _)
    ·rw [vw_bf hv hk ht]
     exact (buf_nil hv hk ht).2 (hk.nb h2 t (lt3 hv ht))
theorem can_some {k:Nat} (hK:Kind k) {P:Pg} (hv:VP P) : ∃ o,Can k P o:=by
 obtain ⟨u,h1,h2⟩:=live hK hv _ s0 (Nat.lt_succ_self _) .init
 exact ⟨_,_,(reach_wf hK hv h1).2,h2,rfl⟩
theorem IsO.ne {k:Nat} (hK:Kind k) {P:Pg} (hv:VP P) {O:List (List Int)} (h:IsO k P O):O≠[]:=by
 obtain ⟨o,ho⟩:=can_some hK hv
 intro e
 have:=(h.mem o).2 ho
 rw [e] at this;cases this
def P0:Pg:=[[(2,0,1),(1,1,0)],[(2,1,1),(1,0,0)]]
theorem P0_buf:Can 2 P0 [0,0,1,1,0]:=by
 have s1:Stps 2 P0 AS.init (doA 2 P0 AS.init 0 0):=Stps.one (.act 0 0 (by decide) (by decide) ⟨rfl,fun j hj=>by omega,fun _ h=>absurd h (by decide)⟩)
 have s2:=s1.tail (Stp.act 1 0 (by decide) (by decide) ⟨rfl,fun j hj=>by omega,fun _ h=>absurd h (by decide)⟩)
 have s3:=s2.tail (Stp.act 0 1 (by decide) (by decide) ⟨rfl,fun j hj _=>(by cases j with
  | zero=>rfl
  | succ j=>omega),fun _ h=>absurd h (by decide)⟩)
 have s4:=s3.tail (Stp.act 1 1 (by decide) (by decide) ⟨rfl,fun j hj _=>(by cases j with
  | zero=>rfl
  | succ j=>omega),fun _ h=>absurd h (by decide)⟩)
 have s5:=s4.tail (Stp.out 0 (by decide) rfl (by intro h;cases h))
 have s6:=s5.tail (Stp.out 1 (by decide) rfl (by intro h;cases h))
 refine ⟨_,s6,?_,rfl⟩
 intro t ht
 have ht2:t<2:=ht
 have:t=0\/t=1:=by omega
 rcases this with rfl | rfl
 ·refine ⟨fun i hi => ?_,rfl⟩
  have hi2:i<2:=hi
  have:i=0\/i=1:=by omega
  rcases this with rfl | rfl <;> rfl
 ·refine ⟨fun i hi => ?_,rfl⟩
  have hi2:i<2:=hi
  have:i=0\/i=1:=by omega
  rcases this with rfl | rfl <;> rfl
structure Inv0 (s:AS):Prop where
 b : ∀ t,s.bf t=[]
 a0:s.dn 0 0=true->s.ce 0=1
 a1:s.dn 1 0=true->s.ce 1=1
 c0:s.dn 0 1=true->s.dn 0 0=true
 c1:s.dn 1 1=true->s.dn 1 0=true
 r:s.dn 0 1=true->s.dn 1 1=true->s.rd 0 1=1\/s.rd 1 1=1
theorem inv0 {s:AS} (h:Stps 1 P0 AS.init s):Inv0 s:=by
 induction h with
 | refl=>exact ⟨fun _=>rfl,fun h=>absurd h (by decide),fun h=>absurd h (by decide),fun h=>absurd h (by decide),fun h=>absurd h (by decide),fun h=>absurd h (by decide)⟩
 | @tail u v h h' ih =>
   cases h' with
   | out t ht hk=>cases hk
   | act t i ht hi hm =>
     have ht2:t<2:=ht
     have:t=0\/t=1:=by omega
     rcases this with rfl | rfl
     ·have hi2:i<2:=hi
      have:i=0\/i=1:=by omega
      rcases this with rfl | rfl
      ·exact ⟨ih.b,fun _=>rfl,fun h=>ih.a1 h,fun _=>rfl,fun h=>ih.c1 h,fun h1 h2=>ih.r h1 h2⟩
      ·have hd:u.dn 0 0=true:=hm.2.1 0 (by omega) (.inl (by decide))
       refine ⟨ih.b,fun h=>ih.a0 h,fun h=>ih.a1 h,fun _=>hd,fun h=>ih.c1 h,fun _ h2 => .inl ?_⟩
       show sn u 0 1=1
       unfold sn
       rw [ih.b 0]
       exact ih.a1 (ih.c1 h2)
     ·have hi2:i<2:=hi
      have:i=0\/i=1:=by omega
      rcases this with rfl | rfl
      ·exact ⟨ih.b,fun h=>ih.a0 h,fun _=>rfl,fun h=>ih.c0 h,fun _=>rfl,fun h1 h2=>ih.r h1 h2⟩
      ·have hd:u.dn 1 0=true:=hm.2.1 0 (by omega) (.inl (by decide))
       refine ⟨ih.b,fun h=>ih.a0 h,fun h=>ih.a1 h,fun h=>ih.c0 h,fun _=>hd,fun h1 _ => .inr ?_⟩
       show sn u 1 0=1
       unfold sn
       rw [ih.b 1]
       exact ih.a0 (ih.c0 h1)
theorem P0_strict : ¬ Can 1 P0 [0,0,1,1,0]:=by
 rintro ⟨s,h1,h2,h3⟩
 have inv:=inv0 h1
 have d0:=(h2 0 (by decide)).1 1 (by decide)
 have d1:=(h2 1 (by decide)).1 1 (by decide)
 have e:outc P0 s=[s.rd 0 1,s.rd 1 1,s.ce 0,s.ce 1,s.ce 2]:=rfl
 rw [e] at h3
 simp only [List.cons.injEq] at h3
 rcases inv.r d0 d1 with h | h
 ·rw [h3.1] at h;cases h
 ·rw [h3.2.1] at h;cases h
theorem P0_v:vPrg P0=true:=by decide
theorem P0_short:ShortP P0:=VP.short (VP.of P0_v)
open Classical in
theorem M18_eq:M18 Ar.std=some true:=by
 have hx:GH [0,0,1,1,0]:=by show 5<_;omega
 have e1:M21 Ar.std (eP P0) 1 (eInts [0,0,1,1,0])=some (false,0):=by
  rcases M21_eq P0_short 1 hx with ⟨h,_⟩ | ⟨_,h,_⟩ | ⟨_,_,e⟩
  ·rw [P0_v] at h;cases h
  ·cases h
  ·rw [e]
   exact congrArg (fun b=>some (b,(0:Int))) (decide_eq_false P0_strict)
 have e2:M21 Ar.std (eP P0) 2 (eInts [0,0,1,1,0])=some (true,0):=by
  rcases M21_eq P0_short 2 hx with ⟨h,_⟩ | ⟨_,h,_⟩ | ⟨_,_,e⟩
  ·rw [P0_v] at h;cases h
  ·cases h
  ·rw [e]
   exact congrArg (fun b=>some (b,(0:Int))) (decide_eq_true P0_buf)
 unfold M18
 exact bt e1 (bt e2 rfl)
end Go.Am

namespace Go.Am
open Go
theorem M66_eq (a b c:Int):M66 Ar.std a b c=some (btw a b c):=M65_eq a b c
theorem M67_eq (a:Ac):M67 Ar.std a.1 a.2.1 a.2.2=some (vAct a):=by
 obtain ⟨x,y,z⟩:=a
 unfold M67 vAct
 simp only [M66_eq,std_zeq]
 by_cases h1:x=1
 ·simp only [h1,decide_true,cond_true,Option.bind_some]
  by_cases h2:btw 0 y 2=true
  ·simp [h2]
  ·simp [h2]
 ·by_cases h2:x=2
  ·subst h2
   simp only [decide_true,cond_true,Option.bind_some]
   by_cases h3:btw 0 y 2=true
   ·simp [h3]
   ·simp [h3]
  ·simp only [h1,h2,decide_false,cond_false]
   by_cases h3:x=3
   ·by_cases h4:y=0
    ·simp [h3,h4]
    ·simp [h3,h4]
   ·simp [h3]
theorem allW_le {P:Pg} (hP:ShortP P) (i:Nat):allW (P.take i)<=100:=by
 have : ∀ (Q:Pg),(∀ t∈Q,t.length<=20)->allW Q<=20*Q.length:=by
  intro Q
  induction Q with
  | nil=>intro _;simp [allW]
  | cons t Q ih =>
    intro hQ
    have h1:=ih (fun t ht=>hQ t (by simp [ht]))
    have h2:nWk t<=20:=Nat.le_trans (List.countP_le_length) (hQ t (by simp))
    simp only [allW,List.map_cons,List.sum_cons,List.length_cons] at h1 ⊢
    omega
 have h1:=this (P.take i) (fun t ht=>hP.2 t (List.mem_of_mem_take ht))
 have h2:=hP.1
 simp only [List.length_take] at h1
 omega
theorem M24L0_eq {t:List Ac} (ht:t.length<=20):iter (M24L0 Ar.std (eT t)) (0,0)=some (bif t.all vAct then .inl (nWk t:Int) else .inr ()):=by
 have key:=iter_relE (step:=M24L0 Ar.std (eT t)) t.length (fun (s:Int) i=>(s,(i:Int))) (fun i s=>s=(nWk (t.take i):Int)/\(t.take i).all vAct=true) (fun i x=>x = .inr ()/\t.all vAct=false) (fun s => .inl s)
  (fun i s hi hR=>by
   obtain ⟨rfl,hall⟩:=hR
   have ha:=zp1 hi
   generalize t[i]=a at ha
   have hb:nWk (t.take i)<=i:=by unfold nWk;exact Nat.le_trans (List.countP_le_length) (by simp;omega)
   cases hv:vAct a with
   | true =>
     refine .inl ⟨(nWk (t.take (i+1)):Int),⟨rfl,?_⟩,?_⟩
     ·rw [take_succ_get ha,List.all_append,hall];simp [hv]
     ·unfold M24L0
      rw [len_enc]
      refine cnT (by simp [hi]) (bt (gt_enc ha) (bt (M67_eq a) ?_))
      rw [hv]
      refine cnT rfl (bt (v:=(nWk (t.take (i+1)):Int)) ?_ ?_)
      ·rw [take_succ_get ha]
       unfold nWk at hb ⊢
       rw [List.countP_append,List.countP_singleton]
       simp only [std_wrp,std_zadd,show wk a = !decide (a.1=3) from rfl]
       rw [i64w _ (by omega) (by omega)]
       show (bif decide (a.1=3) then _ else _)=_
       cases decide (a.1=3) <;> simp
      ·simp only [std_wrp,std_zadd]
       rw [wrap1 hi (by omega)]
   | false =>
     refine .inr ⟨.inr (),⟨rfl,?_⟩,?_⟩
     ·rw [Bool.eq_false_iff]
      intro h
      rw [List.all_eq_true] at h
      rw [h a (List.mem_of_getElem? ha)] at hv;cases hv
     ·unfold M24L0
      rw [len_enc]
      refine cnT (by simp [hi]) (bt (gt_enc ha) (bt (M67_eq a) ?_))
      rw [hv];rfl)
  (fun s _=>by
   unfold M24L0
   rw [len_enc]
   exact cnF (by simp) rfl) 0 ⟨by simp [nWk],by simp⟩
 rcases key with ⟨s,⟨rfl,hall⟩,h⟩ | ⟨i,x,_,⟨rfl,hall⟩,h⟩
 ·rw [List.take_length] at hall h
  rw [hall];exact h
 ·rw [hall];exact h
theorem M24_eq {P:Pg} (hP:ShortP P):M24 Ar.std (eP P)=some (vPrg P):=by
 unfold M24
 have e:btw 1 (Ar.std.len (eP P)) 3=(decide (1<=P.length)&&decide (P.length<=3)):=by
  unfold btw
  simp
  congr 1
  ·rw [decide_eq_decide];omega
  ·rw [decide_eq_decide];omega
 refine bt (M66_eq _ _ _) ?_
 rw [e]
 cases hl:(decide (1<=P.length)&&decide (P.length<=3)) with
 | false=>unfold vPrg;rw [hl];simp
 | true =>
   refine cnT rfl ?_
   have key:=iter_relE (step:=M24L1 Ar.std (eP P)) P.length (fun (s:Int) i=>(s,(i:Int))) (fun i s=>s=(allW (P.take i):Int)/\(P.take i).all vThr=true) (fun i x=>x = .inr ()/\P.all vThr=false) (fun s => .inl s)
    (fun i s hi hR=>by
     obtain ⟨rfl,hall⟩:=hR
     have ha:=zp1 hi
     generalize hr:P[i]=r at ha
     have hrm:r∈P:=List.mem_of_getElem? ha
     have hl:=hP.2 r hrm
     have hb:=allW_le hP i
     have hn:nWk r<=20:=Nat.le_trans (List.countP_le_length) hl
     have hstep:M24L1 Ar.std (eP P) ((allW (P.take i):Int),(i:Int))=some (bif vThr r then .inl ((allW (P.take i)+nWk r:Nat),((i+1:Nat):Int)) else .inr (.inr ())):=by
      unfold M24L1
      refine cnT (by simp [hi]) (bt (gt_eP ha) ?_)
      rw [len_enc]
      unfold vThr
      by_cases h7:r.length<=7
      ·refine cnF (by simp;omega) (bt (M24L0_eq hl) ?_)
       rw [decide_eq_true h7,Bool.true_and]
       cases r.all vAct with
       | false=>rfl
       | true =>
         simp only [cond_true,Sum.elim_inl,Bool.true_and]
         by_cases h4:nWk r<=4
         ·rw [decide_eq_true h4]
          refine cnF (by simp;omega) ?_
          simp only [std_wrp,std_zadd]
          rw [i64w _ (by omega) (by omega),i64w _ (by have:=hP.1;omega) (by have:=hP.1;omega)]
          simp
         ·rw [decide_eq_false h4]
          exact cnT (by simp;omega) rfl
      ·rw [decide_eq_false h7]
       exact cnT (by simp;omega) rfl
     cases hv:vThr r with
     | true =>
       rw [hv] at hstep
       refine .inl ⟨_,⟨?_,?_⟩,hstep⟩
       ·rw [take_succ_get ha];simp [allW,List.map_append]
       ·rw [take_succ_get ha,List.all_append,hall];simp [hv]
     | false =>
       rw [hv] at hstep
       refine .inr ⟨_,⟨rfl,?_⟩,hstep⟩
       rw [Bool.eq_false_iff]
       intro h
       rw [List.all_eq_true] at h
       rw [h r hrm] at hv;cases hv)
    (fun s hs=>by
     unfold M24L1
     exact cnF (by simp) rfl) 0 ⟨by simp [allW],by simp⟩
   unfold vPrg
   rcases key with ⟨s,⟨rfl,hall⟩,h⟩ | ⟨i,x,_,⟨rfl,hall⟩,h⟩
   ·rw [List.take_length] at hall h
    rw [hall,hl]
    refine bt (v := .inl (allW P:Int)) h ?_
    simp only [Sum.elim_inl,std_zle,Bool.true_and,zp3]
    rw [decide_eq_decide];omega
   ·rw [hall]
    exact bt (v := .inr ()) h rfl
theorem IsO.sm {k:Nat} (hK:Kind k) {P:Pg} (hv:VP P) {O:List (List Int)} (h:IsO k P O) : ∀ x∈O,SmL x:=fun x hx=>by
 obtain ⟨h1,h2⟩:=Can.len hK hv ((h.mem x).1 hx)
 exact ⟨by omega,fun y hy=>by have:=h2 y hy;omega⟩
theorem SS.nodup {O:List (List Int)} (h:SS O):O.Nodup:=by
 unfold SS at h
 exact h.imp fun {a b} hab e=>by subst e;exact ltL_irr a hab
end Go.Am
