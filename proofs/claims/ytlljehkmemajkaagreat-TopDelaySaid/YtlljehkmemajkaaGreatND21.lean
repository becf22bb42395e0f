import Derived.Test.YtlljehkmemajkaaGreatNL35
set_option maxRecDepth 100000
set_option maxHeartbeats 2000000
set_option linter.unusedVariables false
set_option linter.unusedSimpArgs false
set_option linter.unusedSectionVars false
namespace Go.Am
open Go
theorem wS {i:Nat} (h:i<=1000):Ar.std.wrp .i64 (Ar.std.zadd (i:Int) 1)=((i+1:Nat):Int):=by
 simp only [a0j,a0u];rw [a2W _ (by omega) (by omega)];rfl
abbrev Ax:=List (List (Int×Bool))
abbrev cAc:Cod (Int×Bool):=cG (lc (cI .i64) (l1 cB))
abbrev eAs (l:List (Int×Bool)):List D:=enc cAc l
def eA (x:Ax):List D:=enc (cL 2) (x.map (enc cAc))
@[simp] theorem c1h (x:Ax):(eA x).length=x.length:=by simp [eA]
theorem a2R {x:Ax} {i:Nat} {r:List (Int×Bool)} (h:x[i]?=some r):gt Ar.std (cL 2) (eA x) (i:Int)=some (eAs r):=a2q h
def thX (x:Ax) (t:Nat):List (Int×Bool):=x.getD t []
def acX (x:Ax) (t a:Nat):Int×Bool:=(thX x t).getD a (0,false)
theorem a0S {x:Ax} {t:Nat} (h:t<x.length):x[t]?=some (thX x t):=by
 unfold thX;rw [List.getD_eq_getElem?_getD,zp1 h];rfl
theorem a3X {x:Ax} {t a:Nat} (h:a<(thX x t).length):(thX x t)[a]?=some (acX x t a):=by
 unfold acX;rw [List.getD_eq_getElem?_getD,zp1 h];rfl
def a7L (a:Int×Bool):Bool:=btw 0 a.1 2
def a8O (l:List (Int×Bool)):Bool:=decide (l.length<=4)&&l.all a7L
def vX (x:Ax):Bool:=(decide (1<=x.length)&&decide (x.length<=3))&&x.all a8O
structure VX (x:Ax):Prop where
 n1:1<=x.length
 n3:x.length<=3
 l4 : ∀ t,(thX x t).length<=4
 acc : ∀ t a,a<(thX x t).length->0<=(acX x t a).1/\(acX x t a).1<=2
theorem VX.of {x:Ax} (h:vX x=true):VX x:=by
 unfold vX at h;simp only [zp4,decide_eq_true_eq,List.all_eq_true] at h;obtain ⟨⟨h1,h3⟩,h4⟩:=h;have hv : ∀ t,t<x.length->(thX x t).length<=4 /\ ∀ a∈thX x t,a7L a=true:=by
  intro t ht;have:=h4 _ (List.mem_of_getElem? (a0S ht));unfold a8O at this;simpa [zp4,List.all_eq_true] using this
 have hn : ∀ t,¬ t<x.length->thX x t=[]:=fun t ht=>by unfold thX;rw [List.getD_eq_getElem?_getD,List.getElem?_eq_none (by omega)];rfl
 refine ⟨h1,h3,fun t => ?_,fun t a ha => ?_⟩
 ·by_cases ht:t<x.length
  ·exact (hv t ht).1
  rw [hn t ht];simp
 by_cases ht:t<x.length
 ·have:=(hv t ht).2 _ (List.mem_of_getElem? (a3X ha));unfold a7L btw at this;simpa using this
 rw [hn t ht] at ha;simp at ha
def a2S (x:Ax):Prop:=x.length<=20 /\ ∀ l∈x,l.length<=20
theorem c1i (x:Ax) (hP:x.length<9223372036854775808) (hl : ∀ t∈x,t.length<9223372036854775808) : ∃ b,N21 Ar.std (eA x)=some b/\(b=false->a2S x):=by
 unfold N21;have key:=a1T (step:=b2o Ar.std (eA x)) x (fun t=>decide (20<t.length)) (.inr ()) (.inl ()) (fun i a ha hi=>by
  unfold b2o;refine cnT (by simp [hi]) (bt (a2R ha) ?_);rw [a0K];simp only [a0R,a0j,a0u];rw [a5g hi (by omega)];by_cases h:20<a.length
  ·rw [decide_eq_true h];exact cnT (by simp;omega) rfl
  ·rw [decide_eq_false h];exact cnF (by simp;omega) rfl) (by
  unfold b2o;exact cnF (by simp) rfl)
 cases hb:x.any (fun t=>decide (20<t.length)) with
 | true =>
   rw [hb] at key;exact ⟨true,bt key rfl,fun h=>by cases h⟩
 | false =>
   rw [hb] at key;refine ⟨decide (20<x.length),bt key (by simp;omega),fun h=>⟨by simpa using h,fun t ht => ?_⟩⟩;rw [List.any_eq_false] at hb;have:=hb t ht;simpa using this
theorem b6d {l:List (Int×Bool)} (hl:l.length<=20):iter (b2p Ar.std (eAs l)) 0=some (bif l.any (fun a => !a7L a) then .inr () else .inl ()):=by
 refine a1T l (fun a => !a7L a) (Sum.inr ()) (Sum.inl ()) (fun i a ha hi => ?_) ?_
 ·unfold b2p;refine cnT (by simp [hi]) (bt (a0B ha) (bt (v := !a7L a) ?_ ?_))
  ·show (bif decide (a.1<0) then _ else _)=_
   unfold a7L btw;by_cases h0:a.1<0
   ·exact cnT (by simp [h0]) (by simp;omega)
   refine cnF (by simp [h0]) ?_;simp only [a1X];rw [decide_eq_true (show 0<=a.1 by omega),Bool.true_and];by_cases h3:3<=a.1
   ·rw [decide_eq_true h3,decide_eq_false (by omega)];rfl
   rw [decide_eq_false h3,decide_eq_true (by omega)];rfl
  cases a7L a with
  | true=>exact cnF rfl (by rw [wS (by omega)];rfl)
  | false=>rfl
 unfold b2p;exact cnF (by simp) rfl
theorem b4r {x:Ax} (hx:a2S x):N22 Ar.std (eA x)=some (vX x):=by
 have h20:=hx.1;have key:iter (b2q Ar.std (eA x)) 0=some (bif x.any (fun l => !a8O l) then .inr () else .inl ()):=by
  refine a1T x (fun l => !a8O l) (Sum.inr ()) (Sum.inl ()) (fun i l hl hi => ?_) ?_
  ·have hl20:=hx.2 l (List.mem_of_getElem? hl);unfold b2q;refine cnT (by simp [hi]) (bt (a2R hl) ?_);unfold a8O;by_cases h4:4<l.length
   ·refine cnT (by simp;omega) ?_;rw [decide_eq_false (by omega)];rfl
   refine cnF (by simp;omega) (bt (b6d hl20) ?_);rw [decide_eq_true (by omega)];have:l.any (fun a => !a7L a) = !l.all a7L:=by rw [List.all_eq_not_any_not];simp
   rw [this];cases l.all a7L with
   | true=>simp only [Bool.not_true,cond_false,Sum.elim_inl,Bool.and_true,Bool.true_and];rw [wS (by omega)]
   | false=>rfl
  unfold b2q;exact cnF (by simp) rfl
 have hn:x.any (fun l => !a8O l) = !x.all a8O:=by rw [List.all_eq_not_any_not];simp
 rw [hn] at key;unfold N22;refine bt key ?_;unfold vX;cases x.all a8O with
 | false=>simp
 | true =>
   simp only [Bool.not_true,cond_false,Sum.elim_inl,Bool.and_true];refine bt (v:=decide (1<=x.length)&&decide (x.length<=3)) ?_ rfl;by_cases h1:1<=x.length
   ·refine cnT (by simp;omega) ?_;rw [decide_eq_true h1];simp;omega
   refine cnF (by simp;omega) ?_;rw [decide_eq_false h1];simp
theorem a8P (a b c:Int):N72 Ar.std a b c=some (btw a b c):=by
 unfold N72 btw;simp only [a1X];by_cases h:a<=b <;> simp [h]
theorem a3K {α:Type} {l:List α} {p:α->Bool}:(l.findIdx? p).isSome=l.any p:=by
 rw [List.findIdx?_isSome]
theorem c1j {l:List (Int×Bool)} (hl:l.length<=20):N75 Ar.std (eAs l)=some (l.any fun a => !a7L a):=by
 have key:=a2f (step:=a7M Ar.std (eAs l)) l (fun a => !a7L a) (fun i=>(Sum.inr (i:Int):Unit⊕Int)) (Sum.inl ()) (fun i a ha hi=>by
   unfold a7M;refine cnT (by simp [hi]) (bt (a0B ha) (bt (v := !a7L a) (by unfold N76;exact bt (a8P _ _ _) rfl) ?_));cases a7L a with
   | true=>exact cnF rfl (by rw [wS (by omega)];rfl)
   | false=>rfl) (by
   unfold a7M;exact cnF (by simp) rfl)
 unfold N75 c1Q;rw [<-a3K (l:=l) (p:=fun a => !a7L a)];cases hf:l.findIdx? (fun a => !a7L a) with
 | none=>rw [hf] at key;exact bt (v := -1) (bt key rfl) rfl
 | some i=>rw [hf] at key;exact bt (v:=(i:Int)) (bt key rfl) (by simp)
theorem b0K {x:Ax} (hx:a2S x):N39 Ar.std (eA x)=some (vX x):=by
 have h20:=hx.1;have h74 : ∀ l∈x,N74 Ar.std (eAs l)=some (!a8O l):=by
  intro l hl;have:=hx.2 l hl;unfold N74 a8O;by_cases h4:4<l.length
  ·refine bt (v:=true) (cnT (by simp;omega) rfl) ?_;rw [decide_eq_false (by omega)];rfl
  refine bt (v:=l.any fun a => !a7L a) (cnF (by simp;omega) (bt (c1j this) rfl)) ?_;rw [decide_eq_true (by omega),List.all_eq_not_any_not];simp
 have h73:N73 Ar.std (eA x)=some (!x.all a8O):=by
  have key:=a2f (step:=a7N Ar.std (eA x)) x (fun l => !a8O l) (fun i=>(Sum.inr (i:Int):Unit⊕Int)) (Sum.inl ()) (fun i l hl hi=>by
    unfold a7N;refine cnT (by simp [hi]) (bt (a2R hl) (bt (h74 l (List.mem_of_getElem? hl)) ?_));cases a8O l with
    | true=>exact cnF rfl (by rw [wS (by omega)];rfl)
    | false=>rfl) (by
    unfold a7N;exact cnF (by simp) rfl)
  unfold N73 c1R;have hn:(!x.all a8O)=x.any (fun l => !a8O l):=by rw [List.all_eq_not_any_not];simp
  rw [hn,<-a3K (l:=x) (p:=fun l => !a8O l)];cases hf:x.findIdx? (fun l => !a8O l) with
  | none=>rw [hf] at key;exact bt (v := -1) (bt key rfl) rfl
  | some i=>rw [hf] at key;exact bt (v:=(i:Int)) (bt key rfl) (by simp)
 unfold N39;refine bt (v:=vX x) (bt (a8P _ _ _) ?_) rfl;have hl:Ar.std.len (eA x)=(x.length:Int):=by simp
 rw [hl];unfold vX;have hb:btw 1 (x.length:Int) 3=(decide (1<=x.length)&&decide (x.length<=3)):=by
  unfold btw;by_cases h1:1<=x.length <;> by_cases h3:x.length<=3 <;> simp [h1,h3] <;> omega
 rw [hb];cases (decide (1<=x.length)&&decide (x.length<=3)) with
 | false=>rfl
 | true=>exact cnT rfl (bt h73 (by simp))
def allX (x:Ax):Nat:=(x.map List.length).sum
theorem c3E {x:Ax} (hP:x.length<9223372036854775808) (hl : ∀ t∈x,t.length<9223372036854775808) : ∃ b,N5 Ar.std (eA x) 6=some b/\(b=true->a2S x/\vX x=true/\allX x<=6):=by
 obtain ⟨q,e,hq⟩:=c1i x hP hl;unfold N5;cases q with
 | true=>exact ⟨false,bt (v:=true) (bt e rfl) (cnT rfl rfl),fun h=>by cases h⟩
 | false =>
   have hS:=hq rfl;have e2:=b4r hS;cases hv:vX x with
   | false =>
     rw [hv] at e2;exact ⟨false,bt (v:=true) (bt e (cnF rfl (bt e2 rfl))) (cnT rfl rfl),fun h=>by cases h⟩
   | true =>
     rw [hv] at e2;have hV:=VX.of hv;have hn3:=hV.n3;have hsum : ∀ i,((x.take i).map List.length).sum<=4*i:=by
      intro i
      induction i with
      | zero=>simp
      | succ i ih =>
        by_cases hi:i<x.length
        ·rw [a0g (a0S hi)];have:=hV.l4 i;simp only [List.map_append,List.map_cons,List.map_nil,List.sum_append,List.sum_cons,List.sum_nil];omega
        rw [List.take_of_length_le (by omega)];rw [List.take_of_length_le (by omega)] at ih;omega
     have key:=a0x (step:=b9p Ar.std (eA x)) x.length (fun (_:Unit) (i:Nat)=>((((x.take i).map List.length).sum:Int),(i:Int))) (fun _ _=>True) (fun _=>((allX x:Nat):Int))
      (fun i _ hi _=>by
       refine ⟨(),trivial,?_⟩;unfold b9p;dsimp only;have hs:=hsum i;have h4:=hV.l4 i;refine cnT (by simp [hi]) (bt (a2R (a0S hi)) ?_);rw [wS (by omega)];have ew:Ar.std.wrp .i64 (Ar.std.zadd (((x.take i).map List.length).sum:Int) (Ar.std.len (eAs (thX x i))))=(((x.take (i+1)).map List.length).sum:Int):=by
        rw [a0K];simp only [a0j,a0u];rw [a2W _ (by omega) (by omega),a0g (a0S hi)];simp only [List.map_append,List.map_cons,List.map_nil,List.sum_append,List.sum_cons,List.sum_nil];omega
       rw [ew])
      (fun _ _=>by
       unfold b9p;dsimp only;refine cnF (by simp) ?_;rw [List.take_length];rfl) () trivial
     obtain ⟨_,_,h⟩:=key;refine ⟨decide (allX x<=6),bt (v:=false) (bt e (cnF rfl (bt e2 rfl))) (cnF rfl (bt (show iter (b9p Ar.std (eA x)) (0,0)=_ from by simpa using h) ?_)),fun h=>⟨hS,rfl,by simpa using h⟩⟩;simp only [a1X];congr 1;simp;omega
abbrev S3:=Nat×Nat×Nat
def sI (s:S3):Int×Int×Int:=((s.1:Int),(s.2.1:Int),(s.2.2:Int))
abbrev eSt (l:List S3):List D:=enc cA3 (l.map sI)
def a8Q (x:Ax) (t a:Nat):Prop:=t<x.length/\a<(thX x t).length
def cfX (x:Ax) (t a u b:Nat):Bool := !decide (t=u)&&(decide ((acX x t a).1=(acX x u b).1)&&((acX x t a).2||(acX x u b).2))
theorem a7x {x:Ax} {t a:Nat} (h:a8Q x t a):b6D Ar.std (eA x) (t:Int) (a:Int)=some ((acX x t a).1,(acX x t a).2):=by
 unfold b6D;exact bt (a2R (a0S h.1)) (bt (a0B (a3X h.2)) rfl)
theorem a9I {x:Ax} {t a u b:Nat} (h:a8Q x t a) (h':a8Q x u b):b4S Ar.std (eA x) (t:Int) (a:Int) (u:Int) (b:Int)=some (cfX x t a u b):=by
 unfold b4S;refine bt (a7x h) (bt (a7x h') (bt (v:=cfX x t a u b) ?_ rfl));unfold cfX;show (bif decide ((t:Int)=(u:Int)) then _ else bif decide ((acX x t a).1=(acX x u b).1) then _ else _)=_
 by_cases htu:t=u
 ·refine cnT (by simp [htu]) ?_;simp [htu]
 refine cnF (by simp;omega) ?_;by_cases hv:(acX x t a).1=(acX x u b).1
 ·refine cnT (by simp [hv]) ?_;cases (acX x t a).2 <;> simp [htu,hv]
 refine cnF (by simp [hv]) ?_;simp [htu,hv]
def a4J (x:Ax) (s:S3):Prop:=a8Q x s.1 s.2.1/\a8Q x s.1 s.2.2/\(s.2.1=s.2.2\/(s.2.1<s.2.2/\(acX x s.1 s.2.1).1≠(acX x s.1 s.2.2).1))
def prB (x:Ax) (s:S3):Bool:=decide (s.2.1<s.2.2) && !decide ((acX x s.1 s.2.1).1=(acX x s.1 s.2.2).1)
theorem b4s {x:Ax} (hv:VX x) {t a:Nat} (h:a8Q x t a):b9q Ar.std (eA x) (t:Int) (a:Int)=some true:=by
 have hn3:=hv.n3;have h4:=hv.l4 t;have hl:Ar.std.len (eA x)=(x.length:Int):=by simp
 obtain ⟨h1,h2⟩:=h;unfold b9q;have e1:Ar.std.wrp .i64 (Ar.std.zsub (Ar.std.len (eA x)) 1)=((x.length-1:Nat):Int):=by
  rw [hl];simp only [a0j,a0A];rw [a2W _ (by omega) (by omega)];omega
 have e2:Ar.std.wrp .i64 (Ar.std.zsub (Ar.std.len (eAs (thX x t))) 1)=(((thX x t).length-1:Nat):Int):=by
  rw [a0K];simp only [a0j,a0A];rw [a2W _ (by omega) (by omega)];omega
 have b1:btw 0 (t:Int) ((x.length-1:Nat):Int)=true:=by unfold btw;simp;omega
 have b2:btw 0 (a:Int) (((thX x t).length-1:Nat):Int)=true:=by unfold btw;simp;omega
 refine bt (v:=true) ?_ rfl;rw [e1];refine bt (a8P _ _ _) ?_;rw [b1];refine cnT rfl (bt (a2R (a0S h1)) ?_);rw [e2];refine bt (a8P _ _ _) ?_;rw [b2]
theorem b4t {x:Ax} (hv:VX x) {s:S3} (h:a8Q x s.1 s.2.1) (h':a8Q x s.1 s.2.2):N91 Ar.std (eA x) (s.1:Int) (s.2.1:Int) (s.2.2:Int)=some (prB x s):=by
 unfold N91;refine bt (v:=prB x s) ?_ rfl;unfold prB;by_cases hlt:s.2.1<s.2.2
 ·refine cnT (by simp;omega) ?_;refine bt rfl (bt (b4s hv h) (cnT rfl (bt rfl (bt (b4s hv h') (cnT rfl (bt rfl (bt (a7x h) (bt rfl (bt (a7x h') ?_)))))))));simp [hlt,Ar.std]
 refine cnF (by simp;omega) ?_;simp [hlt]
theorem a8R {L:List S3} (s:S3) (h:L.length<4294967295):ap Ar.std (eSt L) [.agg [.int .i64 (s.1:Int),.int .i64 (s.2.1:Int),.int .i64 (s.2.2:Int)]]=some (eSt (L++[s])):=by
 have:=a5V (c:=cA3) (l:=L.map sI) (a:=sI s) (d := .agg [.int .i64 (s.1:Int),.int .i64 (s.2.1:Int),.int .i64 (s.2.2:Int)]) rfl (by simpa using h);rw [this];simp [eSt]
theorem b7t {x:Ax} {t a b:Nat} (h:a8Q x t a) (h':a8Q x t b) (hab:a<=b):a4J x (t,a,b)↔(decide (a=b)||prB x (t,a,b))=true:=by
 unfold a4J prB;simp only [Bool.or_eq_true,zp4,decide_eq_true_eq,Bool.not_eq_true',decide_eq_false_iff_not];constructor
 ·rintro ⟨_,_,h3⟩;exact h3
 intro h3;exact ⟨h,h',h3⟩
def stA (x:Ax) (t a n:Nat):List S3:=((List.range n).filter fun j=>decide (a=a+j)||prB x (t,a,a+j)).map fun j=>(t,a,a+j)
def stT (x:Ax) (t n:Nat):List S3:=(List.range n).flatMap fun a=>stA x t a ((thX x t).length-a)
def stX (x:Ax) (n:Nat):List S3:=(List.range n).flatMap fun t=>stT x t (thX x t).length
theorem a9J (x:Ax) (t a n:Nat):(stA x t a n).length<=n:=by
 unfold stA;rw [List.length_map];have:=List.length_filter_le (fun j=>decide (a=a+j)||prB x (t,a,a+j)) (List.range n);simpa using this
theorem b6e {x:Ax} (hv:VX x) {t a:Nat} (ht:t<x.length) (ha:a<(thX x t).length) {L:List S3} (hL:L.length<=1000) :
  iter (b1l Ar.std (eA x) (t:Int) (eAs (thX x t)) (a:Int)) (eSt L,(a:Int))=some (eSt (L++stA x t a ((thX x t).length-a))):=by
 have h4:=hv.l4 t;have key:=a0x (step:=b1l Ar.std (eA x) (t:Int) (eAs (thX x t)) (a:Int)) ((thX x t).length-a) (fun (_:Unit) (i:Nat)=>(eSt (L++stA x t a i),((a+i:Nat):Int))) (fun _ _=>True) (fun _=>eSt (L++stA x t a ((thX x t).length-a)))
  (fun i _ hi _=>by
   refine ⟨(),trivial,?_⟩;have hb:a+i<(thX x t).length:=by omega
   have e91:=b4t hv (s:=(t,a,a+i)) ⟨ht,ha⟩ ⟨ht,hb⟩;have ew:Ar.std.wrp .i64 (Ar.std.zadd ((a+i:Nat):Int) 1)=((a+(i+1):Nat):Int):=by rw [wS (by omega)];rfl
   have hq:(bif Ar.std.zeq (a:Int) ((a+i:Nat):Int) then some true else (N91 Ar.std (eA x) (t:Int) (a:Int) ((a+i:Nat):Int)).bind fun r118=>some r118)=some (decide (a=a+i)||prB x (t,a,a+i)):=by
    by_cases h:a=a+i
    ·exact cnT (by simp;omega) (by rw [decide_eq_true h];rfl)
    exact cnF (by simp;omega) (bt e91 (by rw [decide_eq_false h];rfl))
   have hs:stA x t a (i+1)=stA x t a i++(bif (decide (a=a+i)||prB x (t,a,a+i)) then [(t,a,a+i)] else []):=by
    unfold stA;rw [List.range_succ,List.filter_append,List.map_append];congr 1;cases h:(decide (a=a+i)||prB x (t,a,a+i)) <;> simp only [List.filter_cons,List.filter_nil,h] <;> rfl
   have hl:=a9J x t a i;unfold b1l;refine cnT (by simp;omega) (bt hq (bt (v:=eSt (L++stA x t a (i+1))) ?_ (by rw [ew])));rw [hs];cases hc:(decide (a=a+i)||prB x (t,a,a+i)) with
   | true=>exact cnT rfl (bt (a8R (t,a,a+i) (by simp;omega)) (by simp))
   | false=>exact cnF rfl (by simp))
  (fun _ _=>by
   unfold b1l;exact cnF (by simp;omega) rfl) () trivial
 obtain ⟨_,_,h⟩:=key;have e0:stA x t a 0=[]:=rfl;rw [e0,List.append_nil] at h;exact h
theorem a9K {x:Ax} (hv:VX x) (t n:Nat) (hn:n<=4):(stT x t n).length<=4*n:=by
 have h4:=hv.l4 t
 induction n with
 | zero=>simp [stT]
 | succ n ih =>
   have:=ih (by omega);have hl:=a9J x t n ((thX x t).length-n);unfold stT at *;rw [List.range_succ,List.flatMap_append,List.length_append];simp only [List.flatMap_cons,List.flatMap_nil,List.append_nil];omega
theorem b6f {x:Ax} (hv:VX x) {t:Nat} (ht:t<x.length) {L:List S3} (hL:L.length<=500):iter (b1m Ar.std (eA x) (t:Int) (eAs (thX x t))) (eSt L,0)=some (eSt (L++stT x t (thX x t).length)):=by
 have h4:=hv.l4 t;have key:=a0x (step:=b1m Ar.std (eA x) (t:Int) (eAs (thX x t))) (thX x t).length (fun (_:Unit) (i:Nat)=>(eSt (L++stT x t i),(i:Int))) (fun _ _=>True) (fun _=>eSt (L++stT x t (thX x t).length))
  (fun i _ hi _=>by
   refine ⟨(),trivial,?_⟩;have hl:=a9K hv t i (by omega);unfold b1m;refine cnT (by simp;omega) (bt (b6e hv ht hi (L:=L++stT x t i) (by simp;omega)) ?_);have hs:stT x t (i+1)=stT x t i++stA x t i ((thX x t).length-i):=by
    unfold stT;rw [List.range_succ,List.flatMap_append];simp
   rw [wS (by omega),hs,List.append_assoc])
  (fun _ _=>by
   unfold b1m;exact cnF (by simp) rfl) () trivial
 obtain ⟨_,_,h⟩:=key;have e0:stT x t 0=[]:=rfl;rw [e0,List.append_nil] at h;exact h
theorem a7y {x:Ax} (hv:VX x) : ∀ i,(stX x i).length<=16*i:=by
 intro i
 induction i with
 | zero=>simp [stX]
 | succ i ih =>
   have hl:=a9K hv i (thX x i).length (hv.l4 i);have h4:=hv.l4 i;unfold stX at *;rw [List.range_succ,List.flatMap_append,List.length_append];simp only [List.flatMap_cons,List.flatMap_nil,List.append_nil];omega
theorem b4u {x:Ax} (hv:VX x):N80 Ar.std (eA x)=some (eSt (stX x x.length)):=by
 have hn3:=hv.n3;have hlen:=a7y hv;have key:=a0x (step:=b1n Ar.std (eA x)) x.length (fun (_:Unit) (i:Nat)=>(eSt (stX x i),(i:Int))) (fun _ _=>True) (fun _=>eSt (stX x x.length))
  (fun i _ hi _=>by
   refine ⟨(),trivial,?_⟩;have hl:=hlen i;unfold b1n;refine cnT (by simp;omega) (bt (a2R (a0S hi)) (bt (b6f hv hi (L:=stX x i) (by omega)) ?_));have hs:stX x (i+1)=stX x i++stT x i (thX x i).length:=by
    unfold stX;rw [List.range_succ,List.flatMap_append];simp
   rw [wS (by omega),hs])
  (fun _ _=>by
   unfold b1n;exact cnF (by simp) rfl) () trivial
 obtain ⟨_,_,h⟩:=key;unfold N80;exact bt (show iter (b1n Ar.std (eA x)) ([],0)=_ from h) rfl
abbrev a3o (x:Ax):List S3:=stX x x.length
theorem a2p {x:Ax} (hv:VX x):(a3o x).length<=48:=by
 have h:(a3o x).length<=16*x.length:=a7y hv x.length;have:=hv.n3;omega
theorem a1m {x:Ax} {s:S3}:s∈a3o x↔a4J x s:=by
 obtain ⟨t,a,b⟩:=s;unfold a3o stX stT stA;simp only [List.mem_flatMap,List.mem_map,List.mem_filter,List.mem_range];constructor
 ·rintro ⟨u,hu,c,hc,j,⟨hj,hp⟩,e⟩;cases e;exact (b7t ⟨hu,hc⟩ ⟨hu,by omega⟩ (by omega)).2 hp
 intro h;have hab:a<=b:=by
  have:=h.2.2;dsimp only at this;omega
 have h1:=h.1;have h2:=h.2.1;dsimp only at h1 h2;refine ⟨t,h1.1,a,h1.2,b-a,⟨by have:=h2.2;omega,?_⟩,by rw [show a+(b-a)=b by omega]⟩;rw [show a+(b-a)=b by omega];exact (b7t h1 h2 hab).1 h
noncomputable def b0L (A:Ar) (pred:Int->Int->Int->Option Bool) (x1:Int) (x2:Int) (x4:List D):Int->Option ((Int)⊕((Unit)⊕(Int))):=fun v18 =>
 bif (A.zlt v18 x2) then
  (ck (A.zle 0 v18)).bind fun _ =>
  (ck (A.zlt v18 x2)).bind fun _ =>
  (gc A (cG (lc (cI .i64) (lc (cI .i64) (l1 (cI .i64))))) x4 (A.nat (A.zadd x1 v18))).bind fun (a24,a25,a26) =>
  (pred a24 a25 a26).bind fun r30 =>
  bif r30 then
   some (.inr (.inr v18))
  else
   some (.inl (A.wrp .i64 (A.zadd v18 1)))
 else
  some (.inr (.inl ()))
noncomputable def c3F (A:Ar) (pred:Int->Int->Int->Option Bool) (x1:Int) (x2:Int) (x4:List D):Option (Int) :=
 (iter (b0L A pred x1 x2 x4) 0).bind (Sum.elim (fun _ =>
  some (-1)) (fun v32 =>
  some v32))
noncomputable def a8S (A:Ar) (pred:Int->Int->Int->Option Bool) (x1:Int) (x2:Int):(Int×Int×List D)->Option ((Int×Int×List D)⊕(Int×List D)):=fun (v33,v34,v35) =>
 bif (A.zlt v34 x2) then
  (ck (A.zle 0 v34)).bind fun _ =>
  (ck (A.zlt v34 x2)).bind fun _ =>
  (gc A (cG (lc (cI .i64) (lc (cI .i64) (l1 (cI .i64))))) v35 (A.nat (A.zadd x1 v34))).bind fun (a41,a42,a43) =>
  (pred a41 a42 a43).bind fun r47 =>
  ((
   bif r47 then
    some (v33,v35)
   else
    (ck (A.zle 0 v33)).bind fun _ =>
    (ck (A.zlt v33 x2)).bind fun _ =>
    (gc A (cG (lc (cI .i64) (lc (cI .i64) (l1 (cI .i64))))) v35 (A.nat (A.zadd x1 v33))).bind fun (a53,a54,a55) =>
    some ((A.wrp .i64 (A.zadd v33 1)),(A.lset v35 (A.nat (A.zadd x1 v33)) (.agg [(.int .i64 a41),(.int .i64 a42),(.int .i64 a43)]))):Option (Int×List D))).bind fun (v58,v59) =>
  some (.inl (v58,(A.wrp .i64 (A.zadd v34 1)),v59))
 else
  some (.inr (v33,v35))
noncomputable def c4g (A:Ar) (pred:Int->Int->Int->Option Bool) (x1:Int) (x2:Int) (x4:List D):Option (Int×Int×List D) :=
 (c3F A pred x1 x2 x4).bind fun r6 =>
 bif (A.zeq r6 (-1)) then
  some (x1,x2,x4)
 else
  (iter (a8S A pred x1 x2) (r6,(A.wrp .i64 (A.zadd r6 1)),x4)).bind (fun (v61,v62) =>
  (ck (A.zle 0 v61)).bind fun _ =>
  (ck (A.zle v61 x2)).bind fun _ =>
  (ck (A.zle x2 x2)).bind fun _ =>
  (ck (A.zle (A.zadd (A.zadd x1 v61) (A.zsub x2 v61)) (A.len v62))).bind fun _ =>
  (ck (A.zle 0 0)).bind fun _ =>
  (ck (A.zle 0 v61)).bind fun _ =>
  (ck (A.zle v61 x2)).bind fun _ =>
  some ((A.zadd x1 0),(A.zsub v61 0),(A.fill v62 (A.zadd x1 v61) (A.zsub x2 v61) (.agg [(.int .i64 0),(.int .i64 0),(.int .i64 0)]))))
theorem c3G (l:List Ac) {i:Nat} (h:i<l.length) (x:Ac) {z:Nat} (hz:z=i):Ar.std.lset (eT l) z (.agg [.int .i64 x.1,.int .i64 x.2.1,.int .i64 x.2.2])=eT (l.set i x):=by
 subst hz;show (eT l).set z _=_;unfold eT enc;rw [List.map_set];rfl
theorem gcT {l:List Ac} {i:Nat} {x:Ac} (h:l[i]?=some x) {z:Nat} (hz:z=i):gc Ar.std cA3 (eT l) z=some x:=by
 subst hz;have h2:(eT l)[z]?=some (cA3.en x):=by
  unfold eT enc;rw [List.getElem?_map,h];rfl
 unfold gc;have:Ar.std.lget (eT l) z=some (cA3.en x):=h2;rw [this];rfl
theorem a9L {l:List Ac} {p:Ac->Bool} {i:Nat} {x:Ac} (h:l[i]?=some x):(l.take (i+1)).filter p=bif p x then (l.take i).filter p++[x] else (l.take i).filter p:=by
 rw [a0g h,List.filter_append];cases hp:p x <;> simp [hp]
theorem b4v {X:List Ac} {n:Nat} (hn:n<=X.length) (hl:n<=500) {pred:Int->Int->Int->Option Bool} {keep:Ac->Bool} (hp : ∀ (i:Nat) (a:Ac),i<n->X[i]?=some a->pred a.1 a.2.1 a.2.2=some (!keep a)) :
  ∃ X':List Ac,c4g Ar.std pred 0 (n:Int) (eT X)=some (0,(((X.take n).filter keep).length:Int),eT X')/\X'.take ((X.take n).filter keep).length=(X.take n).filter keep/\((X.take n).filter keep).length<=X'.length:=by
 have ez : ∀ i:Nat,Ar.std.nat (Ar.std.zadd 0 (i:Int))=i:=fun i=>by simp
 have hlen:(X.take n).length=n:=by simp;omega
 have get : ∀ i,i<n->(X.take n)[i]?=X[i]?:=fun i hi=>List.getElem?_take_of_lt hi;generalize hl0:X.take n=l at *;have hln:l.length=n:=hlen;have e0:c3F Ar.std pred 0 (n:Int) (eT X)=some ((l.findIdx? fun x => !keep x).elim (-1) (fun i=>(i:Int))):=by
  have key:=a2f (step:=b0L Ar.std pred 0 (n:Int) (eT X)) l (fun x => !keep x) (fun i=>(Sum.inr (i:Int):Unit⊕Int)) (Sum.inl ()) (fun i a ha hi=>by
   have hx:X[i]?=some a:=by rw [<-get i (by omega)];exact ha
   unfold b0L;refine cnT (by simp;omega) (bck (by simp) (bck (by simp;omega) ?_));rw [ez];refine bt (gcT hx rfl) (bt (hp i a (by omega) hx) ?_);rw [wS (by omega)];cases keep a <;> rfl) (by
   unfold b0L;exact cnF (by simp;omega) rfl)
  unfold c3F;refine bt key ?_;cases l.findIdx? (fun x => !keep x) <;> rfl
 unfold c4g;have hself:(l.take l.length).filter keep=l.filter keep:=by rw [List.take_length]
 cases hf:l.findIdx? fun x => !keep x with
 | none =>
   rw [hf] at e0;rw [List.findIdx?_eq_none_iff] at hf;have e:l.filter keep=l:=by
    rw [List.filter_eq_self];intro x hx;have:=hf x hx;simpa using this
   rw [e,hln];exact ⟨X,bt e0 (cnT (by simp) rfl),hl0,by omega⟩
 | some q =>
   rw [hf] at e0;obtain ⟨hq,hq1,hq2⟩:=List.findIdx?_eq_some_iff_getElem.1 hf;simp only [Option.elim_some] at e0;have hkq : ∀ i,i<=q->(l.take i).filter keep=l.take i:=by
    intro i
    induction i with
    | zero=>intro _;rfl
    | succ i ih =>
      intro hi;have hx:l[i]?=some l[i]:=zp1 (by omega);have h2:=hq2 i (by omega);have h3:keep l[i]=true:=by simpa using h2
      rw [a9L hx,ih (by omega),h3,cond_true,a0g hx]
   have hxq:l[q]?=some l[q]:=zp1 hq;have hkq1:(l.take (q+1)).filter keep=l.take q:=by
    have h3:keep l[q]=false:=by simpa using hq1
    rw [a9L hxq,h3,cond_false,hkq q (Nat.le_refl _)]
   obtain ⟨⟨w,m⟩,⟨h1,h2,h3,h4,h5⟩,e⟩:=a0x (step:=a8S Ar.std pred 0 (n:Int)) (l.length-q-1) (fun (s:Nat×List Ac) (i:Nat)=>((s.1:Int),((q+1+i:Nat):Int),eT s.2))
    (fun i s=>s.1=((l.take (q+1+i)).filter keep).length/\s.2.take s.1=(l.take (q+1+i)).filter keep/\s.2.length=X.length/\(∀ j,q+1+i<=j->s.2[j]?=X[j]?)/\s.1<=q+i) (fun s=>((s.1:Int),eT s.2))
    (fun i s hi hR=>by
     obtain ⟨w,m⟩:=s;obtain ⟨g1,g2,g3,g4,g5⟩:=hR;simp only at g1 g2 g3 g4 g5;have hx:l[q+1+i]?=some l[q+1+i]:=zp1 (by omega);have hX:X[q+1+i]?=some l[q+1+i]:=by rw [<-get _ (by omega)];exact hx
     have mx:m[q+1+i]?=some l[q+1+i]:=by rw [g4 _ (Nat.le_refl _),hX]
     have hsucc:=a9L (p:=keep) hx;rw [show q+1+i+1=q+1+(i+1) by omega] at hsucc;have hpr:=hp _ _ (by omega) hX;cases hd:keep l[q+1+i] with
     | false =>
       rw [hd,cond_false] at hsucc;refine ⟨(w,m),⟨by rw [hsucc];exact g1,by rw [hsucc];exact g2,g3,fun j hj=>g4 j (by omega),by simp only;omega⟩,?_⟩;unfold a8S;dsimp only;rw [ez];refine cnT (by simp;omega) (bck (by simp;omega) (bck (by simp;omega) (bt (gcT mx rfl) (bt hpr ?_))));rw [hd,wS (i:=q+1+i) (by omega)];rfl
     | true =>
       rw [hd,cond_true] at hsucc;have htk:(m.set w l[q+1+i]).take (w+1)=(l.take (q+1+i)).filter keep++[l[q+1+i]]:=by
        have:(m.set w l[q+1+i])[w]?=some l[q+1+i]:=List.getElem?_set_self (by omega);rw [a0g this,List.take_set_of_le (Nat.le_refl _),g2]
       refine ⟨(w+1,m.set w l[q+1+i]),⟨by rw [hsucc,List.length_append,<-g1];rfl,by rw [hsucc];exact htk,by simp only [List.length_set];exact g3,fun j hj => ?_,by simp only;omega⟩,?_⟩
       ·simp only;rw [List.getElem?_set_ne (by omega)];exact g4 j (by omega)
       unfold a8S;dsimp only;rw [ez,ez];refine cnT (by simp;omega) (bck (by simp;omega) (bck (by simp;omega) (bt (gcT mx rfl) (bt hpr ?_))));rw [hd,wS (i:=q+1+i) (by omega)];refine bt (v:=(((w+1:Nat):Int),eT (m.set w l[q+1+i]))) ?_ rfl;have hmw:m[w]?=some m[w]:=zp1 (by omega);refine cnF rfl (bck (by simp) (bck (by simp;omega) (bt (gcT hmw rfl) ?_)));rw [c3G m (i:=w) (by omega) _ rfl,wS (i:=w) (by omega)])
    (fun s _=>by
     unfold a8S;exact cnF (by simp;omega) rfl) (q,X) ⟨by rw [Nat.add_zero,hkq1,List.length_take];omega,by
      rw [Nat.add_zero,hkq1,<-hl0,List.take_take,Nat.min_eq_left (by omega)],rfl,fun _ _=>rfl,by simp⟩
   have hqn2:q+1+(l.length-q-1)=l.length:=by omega
   rw [hqn2,hself] at h1 h2;simp only at h1 h2 h3 h5 e;rw [<-h1];have hwn:w<=n:=by rw [h1,<-hln];exact List.length_filter_le _ _
   refine ⟨m.take w++List.replicate (n-w) (0,0,0)++m.drop n,?_,?_,?_⟩
   ·refine bt e0 (cnF (by simp) ?_);rw [wS (i:=q) (by omega)];rw [Nat.add_zero] at e;refine bt e ?_;dsimp only;have hml:Ar.std.len (eT m)=(X.length:Int):=by rw [<-h3];simp
    refine bck (by simp) (bck (by simp;omega) (bck (by simp) (bck (by rw [hml];simp;omega) (bck (by simp) (bck (by simp) (bck (by simp;omega) ?_))))));have hfl:Ar.std.fill (eT m) (Ar.std.zadd 0 (w:Int)) (Ar.std.zsub (n:Int) (w:Int)) (.agg [.int .i64 0,.int .i64 0,.int .i64 0])=eT (m.take w++List.replicate (n-w) (0,0,0)++m.drop n):=by
     have a1:Ar.std.zadd 0 (w:Int)=(w:Int):=by simp
     have a2:Ar.std.zsub (n:Int) (w:Int)=((n-w:Nat):Int):=by simp;omega
     rw [a1,a2,b0w];unfold a1p eT enc;rw [Int.toNat_natCast,Int.toNat_natCast,List.map_append,List.map_append,List.map_take,List.map_drop,List.map_replicate,show w+(n-w)=n by omega];rfl
    rw [hfl];simp
   ·rw [List.append_assoc,List.take_append_of_le_length (by simp;omega),List.take_take,Nat.min_self];exact h2
   simp;omega
theorem a1y {L:List S3} {i:Nat} {s:S3} (h:L[i]?=some s):gt Ar.std cA3 (eSt L) (i:Int)=some ((s.1:Int),(s.2.1:Int),(s.2.2:Int)):=a2q (g:=sI) h
theorem a0v (L:List S3):Ar.std.len (eSt L)=(L.length:Int):=by rw [a0K];simp
theorem b6g {L:List S3} (h:0<L.length):Ar.std.zeq (Ar.std.len (eSt L)) 0=false:=by
 rw [a0v];show decide ((L.length:Int)=0)=false;rw [decide_eq_false_iff_not];omega
theorem a8T {L:List S3} {i:Nat} (h:i<=L.length):sl Ar.std (eSt L) 0 (i:Int)=some (eSt (L.take i)):=by
 have:=a7r (c:=cA3) (l:=L.map sI) (i:=i) (by simpa using h);rw [this,<-List.map_take]
def a3h (l:List S3) (s:S3):Bool:=l.any fun u=>decide (u.1=s.1)
theorem b8S {l:List S3} (hl:l.length<=100) (s:S3):b9r Ar.std (eSt l) (s.1:Int) (s.2.1:Int) (s.2.2:Int)=some (a3h l s):=by
 have key:=a2f (step:=a7O Ar.std (eSt l) (s.1:Int) (s.2.1:Int) (s.2.2:Int)) l (fun u=>decide (u.1=s.1)) (fun i=>(Sum.inr (i:Int):Unit⊕Int)) (Sum.inl ()) (fun i a ha hi=>by
   unfold a7O;refine cnT (by rw [a0v];simp;omega) (bt (a1y ha) (bt (v:=decide (a.1=s.1)) ?_ ?_))
   ·show some (decide ((a.1:Int)=(s.1:Int)))=_;congr 1;rw [decide_eq_decide];omega
   ·cases decide (a.1=s.1) with
    | true=>rfl
    | false=>exact cnF rfl (by rw [wS (by omega)];rfl)) (by
   unfold a7O;exact cnF (by rw [a0v];simp) rfl)
 unfold b9r c1S a3h;rw [<-a3K (l:=l) (p:=fun u=>decide (u.1=s.1))];cases hf:l.findIdx? (fun u=>decide (u.1=s.1)) with
 | none=>rw [hf] at key;exact bt (v := -1) (bt key rfl) rfl
 | some i=>rw [hf] at key;exact bt (v:=(i:Int)) (bt key rfl) (by simp)
def a3l (x:Ax) (l:List S3) (i:Nat):Bool :=
 match l[i]?,l[(i+1)%l.length]? with
 | some s,some u=>cfX x s.1 s.2.2 u.1 u.2.1 && !a3h (l.take i) s
 | _,_=>false
def a1z (x:Ax) (l:List S3):Bool:=(List.range l.length).all (a3l x l)&&l.any (prB x)
theorem a9M {x:Ax} (hv:VX x) {l:List S3} (hl:l.length<=3) (hs : ∀ s∈l,a4J x s):b6E Ar.std (eA x) (eSt l)=some (a1z x l):=by
 have key:=a2g (step:=a5r Ar.std (eA x) (eSt l)) l.length (fun (b:Bool) i=>(b,(i:Int))) (fun i b=>b=(l.take i).any (prB x)/\(List.range i).all (a3l x l)=true) (fun i r=>(∃ m,r = .inr m)/\(List.range l.length).all (a3l x l)=false) (fun b => .inl b)
  (fun i b hi hR=>by
   obtain ⟨rfl,hg⟩:=hR;have hz:=zp1 hi;generalize l[i]=s at hz;have hj:(i+1)%l.length<l.length:=Nat.mod_lt _ (by omega);have hw:=zp1 hj;generalize l[(i+1)%l.length]=u at hw;have hsO:=hs s (List.mem_of_getElem? hz);have huO:=hs u (List.mem_of_getElem? hw);have er:Ar.std.rem (Ar.std.wrp .i64 (Ar.std.zadd (i:Int) 1)) (Ar.std.len (eSt l))=(((i+1)%l.length:Nat):Int):=by
    rw [wS (by omega),a0v];rfl
   have hright:a3l x l i=(cfX x s.1 s.2.2 u.1 u.2.1 && !a3h (l.take i) s):=by unfold a3l;rw [hz,hw]
   have e1:((N84 Ar.std (s.1:Int) (s.2.1:Int) (s.2.2:Int)).bind fun (r58,r59) =>
    (N85 Ar.std (u.1:Int) (u.2.1:Int) (u.2.2:Int)).bind fun (r61,r62) =>
    (b4S Ar.std (eA x) r58 r59 r61 r62).bind fun r64 =>
    bif r64 then
     (sl Ar.std (eSt l) 0 (i:Int)).bind fun l66 =>
     (b9r Ar.std l66 (s.1:Int) (s.2.1:Int) (s.2.2:Int)).bind fun r73 =>
     some r73
    else
     some true)=some (!a3l x l i):=by
    refine bt rfl (bt rfl (bt (a9I hsO.2.1 huO.1) ?_));rw [hright];cases cfX x s.1 s.2.2 u.1 u.2.1 with
    | false=>rfl
    | true=>exact cnT rfl (bt (a8T (by omega)) (bt (b8S (by simp;omega) s) (by simp)))
   unfold a5r;dsimp only;cases hb:a3l x l i with
   | false =>
     rw [hb] at e1;refine .inr ⟨.inr ((s.1:Int),(s.2.1:Int),(s.2.2:Int)),⟨⟨_,rfl⟩,?_⟩,cnT (by rw [a0v];simp;omega) (bt (a1y hz) (bnk (b6g (by omega)) ?_))⟩
     ·rw [Bool.eq_false_iff];intro h;rw [List.all_eq_true] at h;have:=h i (by simpa using hi);rw [hb] at this;cases this
     rw [er];exact bt (a1y hw) (bt e1 (cnT rfl rfl))
   | true =>
     rw [hb] at e1;refine .inl ⟨(l.take (i+1)).any (prB x),⟨rfl,?_⟩,cnT (by rw [a0v];simp;omega) (bt (a1y hz) (bnk (b6g (by omega)) ?_))⟩
     ·rw [List.range_succ,List.all_append,hg];simp [hb]
     rw [er];refine bt (a1y hw) (bt e1 (cnF rfl (bt (v:=(l.take (i+1)).any (prB x)) ?_ (by rw [wS (by omega)]))));rw [a0g hz,List.any_append];cases (l.take i).any (prB x) with
     | true=>rfl
     | false=>exact cnF rfl (bt (b4t hv hsO.1 hsO.2.1) (by simp)))
  (fun b hb=>by
   unfold a5r;dsimp only;exact cnF (by rw [a0v];simp) rfl) false ⟨by simp,by simp⟩
 unfold b6E a1z;rcases key with ⟨b,⟨rfl,hg⟩,h⟩ | ⟨i,r,_,⟨⟨m,rfl⟩,hg⟩,h⟩
 ·rw [List.take_length] at h;rw [hg,Bool.true_and];exact bt (show iter (a5r Ar.std (eA x) (eSt l)) (false,0)=_ from h) rfl
 rw [hg,Bool.false_and];exact bt (show iter (a5r Ar.std (eA x) (eSt l)) (false,0)=_ from h) rfl
def kS (s:S3):D := .agg [.int .i64 (s.1:Int),.int .i64 (s.2.1:Int),.int .i64 (s.2.2:Int)]
theorem b7u {s u:S3} (h:kS s=kS u):s=u:=by
 unfold kS at h;simp only [D.agg.injEq,List.cons.injEq,D.int.injEq,true_and,and_true] at h;obtain ⟨h1,h2,h3⟩:=h;obtain ⟨a,b,c⟩:=s;obtain ⟨a',b',c'⟩:=u;simp only [Prod.mk.injEq] at *;omega
def mK (l:List S3):List (D×D):=l.map fun s=>(kS s,.bool true)
open Classical in
noncomputable def b8T (l:List S3) (s:S3):List S3:=if s∈l then l else l++[s]
theorem b8U (l:List S3) (s:S3):Am.mput (mK l) (kS s) (.bool true)=mK (b8T l s):=by
 induction l with
 | nil=>simp [mK,Am.mput,b8T]
 | cons u l ih =>
   unfold mK at ih ⊢;simp only [List.map_cons,Am.mput];by_cases h:kS u=kS s
   ·rw [if_pos h];have:=b7u h;subst this;simp [b8T]
   rw [if_neg h,ih];have hus:s≠u:=by rintro rfl;exact h rfl
   unfold b8T;by_cases hm:s∈l
   ·simp [hm]
   simp [hm,hus]
theorem b8V (l:List S3) (s:S3):Am.mget (mK l) (kS s)=if s∈l then some (.bool true) else none:=by
 induction l with
 | nil=>rfl
 | cons u l ih =>
   unfold mK at ih ⊢;simp only [List.map_cons,Am.mget];by_cases h:kS u=kS s
   ·rw [if_pos h];have:=b7u h;subst this;simp
   rw [if_neg h,ih];have hus:s≠u:=by rintro rfl;exact h rfl
   by_cases hm:s∈l <;> simp [hm,hus]
theorem b6h {l:List S3} {s u:S3}:u∈b8T l s↔u∈l\/u=s:=by
 unfold b8T;split
 ·rename_i h;constructor
  ·exact .inl
  rintro (h' | rfl)
  ·exact h'
  exact h
 simp
theorem b0M {l:List S3} (hl:l.length<=3) (f:List S3) : ∃ f':List S3,(∀ u,u∈f'↔u∈f\/u∈l)/\iter (a2X Ar.std (eSt l)) (0,mK f)=some (mK f'):=by
 have key:=a0x (step:=a2X Ar.std (eSt l)) l.length (fun (f':List S3) (i:Nat)=>((i:Int),mK f')) (fun i f' => ∀ u,u∈f'↔u∈f\/u∈l.take i) (fun f'=>mK f')
  (fun i f' hi hR=>by
   have hz:=zp1 hi;generalize l[i]=s at hz;refine ⟨b8T f' s,fun u => ?_,?_⟩
   ·rw [b6h,hR,a0g hz];simp only [List.mem_append,List.mem_singleton];exact or_assoc
   unfold a2X;dsimp only;refine cnT (by rw [a0v];simp;omega) (bt (a1y hz) ?_);rw [wS (by omega)];have:=b8U f' s;show some (Sum.inl (_,Am.mput (mK f') (kS s) (.bool true)))=_;rw [this])
  (fun f' hR=>by
   unfold a2X;exact cnF (by rw [a0v];simp) rfl) f (fun u=>by simp)
 obtain ⟨f',h1,h2⟩:=key;rw [List.take_length] at h1;exact ⟨f',h1,h2⟩
theorem a6d {x:Ax} {l:List S3} (h:a1z x l=true) {i:Nat} {s u:S3} (hs:l[i]?=some s) (hu:l[i+1]?=some u):cfX x s.1 s.2.2 u.1 u.2.1=true:=by
 have hi:i+1<l.length:=(zp2.1 hu).1;unfold a1z at h;rw [zp4,List.all_eq_true] at h;have:=h.1 i (by simp;omega);unfold a3l at this;rw [hs,Nat.mod_eq_of_lt hi,hu] at this;rw [zp4] at this;exact this.1
def Found (x:Ax) (l f:List S3):Prop := ∀ r:List S3,(∀ s∈r,a4J x s)->2<=(l++r).length->(l++r).length<=3->a1z x (l++r)=true -> ∀ s∈l++r,s∈f
theorem Found.mono {x:Ax} {l f f':List S3} (h:Found x l f) (hs : ∀ s∈f,s∈f'):Found x l f':=fun r h1 h2 h3 h4 s hm=>hs s (h r h1 h2 h3 h4 s hm)
def inC (x:Ax) (s:S3):Prop := ∃ l:List S3,(∀ u∈l,a4J x u)/\2<=l.length/\l.length<=3/\a1z x l=true/\s∈l
theorem b6i {x:Ax} (hv:VX x) {St:List S3} (hSt : ∀ s,s∈St↔a4J x s) (hSl:St.length<=48) :
  ∀ (k n:Nat) (l f:List S3),l.length+k=3->(∀ s∈l,a4J x s) -> ∃ f':List S3,((∀ s∈f,s∈f') /\ ∀ s∈f',s∈f\/inC x s)/\Found x l f'/\a6n Ar.std (n+k+1) (eSt l) (mK f) (eA x) (eSt St)=some (true,mK f'):=by
 intro k
 induction k with
 | zero =>
   intro n l f hk hl;have e3:l.length=3:=by omega
   show ∃ f',_/\_/\a7Q Ar.std (a6n Ar.std n) (eSt l) (mK f) (eA x) (eSt St)=_;obtain ⟨f1,g1,g2⟩:=b0M (l:=l) (by omega) f;have e82:=a9M hv (l:=l) (by omega) hl;have el:Ar.std.len (eSt l)=3:=by rw [a0v,e3];rfl
   cases hc:a1z x l with
   | true =>
     rw [hc] at e82;refine ⟨f1,⟨fun s hs=>(g1 s).2 (.inl hs),fun s hs=>((g1 s).1 hs).imp id fun h=>⟨l,hl,by omega,by omega,hc,h⟩⟩,fun r h1 h2 h3 h4 s hm => ?_,?_⟩
     ·have hr:r=[]:=List.eq_nil_of_length_eq_zero (by simp at h3;omega);subst hr;simp at hm;exact (g1 s).2 (.inr hm)
     unfold a7Q;refine bt (v:=mK f1) (cnT (by rw [el];rfl) (bt e82 (cnT rfl (bt (bt g2 rfl) rfl)))) (cnT (by rw [el];rfl) rfl)
   | false =>
     rw [hc] at e82;refine ⟨f,⟨fun s hs=>hs,fun s hs => .inl hs⟩,fun r h1 h2 h3 h4 s hm => ?_,?_⟩
     ·have hr:r=[]:=List.eq_nil_of_length_eq_zero (by simp at h3;omega);subst hr;simp at h4;rw [hc] at h4;cases h4
     unfold a7Q;refine bt (v:=mK f) (cnT (by rw [el];rfl) (bt e82 (cnF rfl rfl))) (cnT (by rw [el];rfl) rfl)
 | succ k ih =>
   intro n l f hk hl;have hlen:l.length<=2:=by omega
   have el:Ar.std.len (eSt l)=(l.length:Int):=a0v l;show ∃ f',_/\_/\a7Q Ar.std (a6n Ar.std (n+k+1)) (eSt l) (mK f) (eA x) (eSt St)=_

   obtain ⟨f1,⟨h1,h1'⟩,h2,h3⟩ : ∃ f1:List S3,((∀ s∈f,s∈f1) /\ ∀ s∈f1,s∈f\/inC x s)/\(2<=l.length->a1z x l=true -> ∀ s∈l,s∈f1) /\
     ((bif (Ar.std.zle 2 (Ar.std.len (eSt l))) then
       (b6E Ar.std (eA x) (eSt l)).bind fun r7 =>
       bif r7 then
        (
         (iter (a2X Ar.std (eSt l)) (0,mK f)).bind (fun v26 =>
         some v26)).bind (fun v29 =>
        some v29)
       else
        some (mK f)
     else
      some (mK f):Option (List (D×D))))=some (mK f1):=by
    by_cases hl2:2<=l.length
    ·obtain ⟨f1,g1,g2⟩:=b0M (l:=l) (by omega) f;have e82:=a9M hv (l:=l) (by omega) hl;cases hc:a1z x l with
     | true =>
       rw [hc] at e82;exact ⟨f1,⟨fun s hs=>(g1 s).2 (.inl hs),fun s hs=>((g1 s).1 hs).imp id fun h=>⟨l,hl,hl2,by omega,hc,h⟩⟩,fun _ _ s hs=>(g1 s).2 (.inr hs),cnT (by rw [el];simp;omega) (bt e82 (cnT rfl (bt (bt g2 rfl) rfl)))⟩
     | false =>
       rw [hc] at e82;exact ⟨f,⟨fun s hs=>hs,fun s hs => .inl hs⟩,(fun _ h=>by cases h),cnT (by rw [el];simp;omega) (bt e82 (cnF rfl rfl))⟩
    exact ⟨f,⟨fun s hs=>hs,fun s hs => .inl hs⟩,fun h=>absurd h hl2,cnF (by rw [el];simp;omega) rfl⟩

   have key:=a0x (step:=a5s Ar.std (eSt l) (eA x) (eSt St) (a6n Ar.std (n+k+1))) St.length (fun (g:List S3) (i:Nat)=>((i:Int),mK g))
    (fun i g=>((∀ s∈f1,s∈g) /\ ∀ s∈g,s∈f\/inC x s) /\ ∀ s∈St.take i,(∀ u,l.getLast?=some u->cfX x u.1 u.2.2 s.1 s.2.1=true)->Found x (l++[s]) g) (fun g=>(Sum.inl (mK g):List (D×D)⊕List (D×D)))
    (fun i g hi hR=>by
     obtain ⟨⟨hR1,hR1'⟩,hR2⟩:=hR;have hz:=zp1 hi;generalize St[i]=s at hz;have hsO:a4J x s:=(hSt s).1 (List.mem_of_getElem? hz)

     have hpass : ∃ b:Bool,((bif (Ar.std.zlt 0 (Ar.std.len (eSt l))) then
       (gt Ar.std (cG (lc (cI .i64) (lc (cI .i64) (l1 (cI .i64))))) (eSt l) (Ar.std.wrp .i64 (Ar.std.zsub (Ar.std.len (eSt l)) 1))).bind fun (a88,a89,a90) =>
       (N84 Ar.std a88 a89 a90).bind fun (r95,r96) =>
       (N85 Ar.std (s.1:Int) (s.2.1:Int) (s.2.2:Int)).bind fun (r98,r99) =>
       (b4S Ar.std (eA x) r95 r96 r98 r99).bind fun r101 =>
       some (!r101)
      else
       some false:Option (Bool)))=some b/\(b=false ↔ ∀ u,l.getLast?=some u->cfX x u.1 u.2.2 s.1 s.2.1=true):=by
      by_cases hl0:0<l.length
      ·have hlast:l[l.length-1]?=some (l[l.length-1]'(by omega)):=zp1 _;have hgl:l.getLast?=some (l[l.length-1]'(by omega)):=by rw [List.getLast?_eq_getElem?];exact hlast
       generalize l[l.length-1]'(by omega)=u at hlast hgl;have huO:=hl u (List.mem_of_getElem? hlast);refine ⟨!cfX x u.1 u.2.2 s.1 s.2.1,cnT (by rw [el];simp;omega) ?_,?_⟩
       ·have ei:Ar.std.wrp .i64 (Ar.std.zsub (Ar.std.len (eSt l)) 1)=((l.length-1:Nat):Int):=by
         rw [el];simp only [a0j,a0A];rw [a2W _ (by omega) (by omega)];omega
        rw [ei];exact bt (a1y hlast) (bt rfl (bt rfl (bt (a9I huO.2.1 hsO.1) rfl)))
       rw [hgl];simp
      have hln:l=[]:=List.eq_nil_of_length_eq_zero (by omega);subst hln;exact ⟨false,cnF (by rw [el];simp) rfl,by simp⟩
     obtain ⟨b,hb1,hb2⟩:=hpass
     have start : ∀ {r},(bif b then (fun (v121:List (D×D))=>some (Sum.inl ((Ar.std.wrp .i64 (Ar.std.zadd (i:Int) 1)),v121):(Int×List (D×D))⊕(List (D×D)⊕List (D×D)))) (mK g)
      else
       (sl Ar.std (eSt l) 0 (Ar.std.len (eSt l))).bind fun l105 =>
       (ck (Ar.std.zeq (Ar.std.len (eSt l)) (Ar.std.len (eSt l)))).bind fun _ =>
       (ap Ar.std l105 [(.agg [(.int .i64 (s.1:Int)),(.int .i64 (s.2.1:Int)),(.int .i64 (s.2.2:Int))])]).bind fun l113 =>
       (a6n Ar.std (n+k+1) l113 (mK g) (eA x) (eSt St)).bind fun (r118,r119) =>
       bif r118 then
        (fun (v121:List (D×D))=>some (Sum.inl ((Ar.std.wrp .i64 (Ar.std.zadd (i:Int) 1)),v121):(Int×List (D×D))⊕(List (D×D)⊕List (D×D)))) r119
       else
        some (.inr (.inr r119)))=r->a5s Ar.std (eSt l) (eA x) (eSt St) (a6n Ar.std (n+k+1)) ((i:Int),mK g)=r:=by
      intro r hr;unfold a5s jn;exact cnT (by rw [a0v];simp;omega) (bt (a1y hz) (bt hb1 hr))
     cases b with
     | true =>
       refine ⟨g,⟨⟨hR1,hR1'⟩,fun s' hs' hc => ?_⟩,start (cnT rfl (by rw [wS (by omega)]))⟩;rw [a0g hz] at hs';rcases List.mem_append.1 hs' with h | h
       ·exact hR2 s' h hc
       simp at h;subst h;have:=hb2.2 hc;cases this
     | false =>
       obtain ⟨g',⟨q1,q1'⟩,q2,q3⟩:=ih n (l++[s]) g (by simp;omega) (fun u hu=>by
        rcases List.mem_append.1 hu with h | h
        ·exact hl u h
        simp at h;subst h;exact hsO)
       refine ⟨g',⟨⟨fun u hu=>q1 u (hR1 u hu),fun u hu=>(q1' u hu).elim (hR1' u) .inr⟩,fun s' hs' hc => ?_⟩,start (cnF rfl ?_)⟩
       ·rw [a0g hz] at hs';rcases List.mem_append.1 hs' with h | h
        ·exact (hR2 s' h hc).mono q1
        simp at h;subst h;exact q2
       have e1:sl Ar.std (eSt l) 0 (Ar.std.len (eSt l))=some (eSt l):=by
        rw [el,a8T (Nat.le_refl _),List.take_length]
       refine bt e1 (bck (by simp) (bt (a8R s (by omega)) (bt q3 (cnT rfl ?_))));rw [wS (by omega)])
    (fun g hR=>by
     unfold a5s;exact cnF (by rw [a0v];simp) rfl) f1 ⟨⟨fun s hs=>hs,h1'⟩,fun s hs=>by simp at hs⟩
   obtain ⟨g,⟨⟨hg1,hg1'⟩,hg2⟩,hit⟩:=key;rw [List.take_length] at hg2;refine ⟨g,⟨fun s hs=>hg1 s (h1 s hs),hg1'⟩,fun r hr1 hr2 hr3 hr4 => ?_,?_⟩
   ·cases r with
    | nil =>
      simp only [List.append_nil] at hr2 hr4 ⊢;intro s hs;exact hg1 s (h2 hr2 hr4 s hs)
    | cons s r =>
      have hsS:s∈St:=(hSt s).2 (hr1 s (by simp));have e2:l++s::r=(l++[s])++r:=by simp
      rw [e2] at hr2 hr3 hr4 ⊢;refine hg2 s hsS (fun u hu => ?_) r (fun s' hs'=>hr1 s' (by simp [hs'])) hr2 hr3 hr4;rw [List.getLast?_eq_getElem?] at hu;have hl1:0<l.length:=by
       rcases Nat.eq_zero_or_pos l.length with h | h
       ·rw [List.getElem?_eq_none (by omega)] at hu;cases hu
       exact h
      refine a6d hr4 (i:=l.length-1) ?_ ?_
      ·rw [List.append_assoc,zp7 (by omega)];exact hu
      rw [show l.length-1+1=l.length by omega,List.append_assoc,zp8 (Nat.le_refl _)];simp
   unfold a7Q;refine bt h3 (cnF ?_ (bt (show iter (a5s Ar.std (eSt l) (eA x) (eSt St) (a6n Ar.std (n+k+1))) (0,mK f1)=_ from hit) rfl));rw [el];show decide ((l.length:Int)=3)=false;rw [decide_eq_false_iff_not];omega
theorem b8W {x:Ax} (hv:VX x) : ∃ f:List S3,(∀ s,s∈f↔inC x s)/\b9D Ar.std (eA x) []=some (mK f):=by
 obtain ⟨f,⟨_,h1⟩,h2,h3⟩:=b6i hv (St:=a3o x) (fun s=>a1m) (a2p hv) 3 999996 [] [] rfl (by simp);refine ⟨f,fun s=>⟨fun h=>(h1 s h).resolve_left (by simp),fun ⟨l,a,b,c,d,e⟩=>h2 l a (by simpa using b) (by simpa using c) (by simpa using d) s (by simpa using e)⟩,?_⟩;unfold b9D;refine bt (b4u hv) (bt (v:=(true,mK f)) ?_ rfl);unfold c2y;rw [b3G];exact h3
def iS (a:Ac):S3:=(a.1.toNat,a.2.1.toNat,a.2.2.toNat)
theorem b8X (s:S3):iS (sI s)=s:=by unfold iS sI;simp
theorem c3H (l:List Ac):scalars (eT l)=true:=by
 unfold scalars eT enc;rw [List.all_eq_true];intro x hx;obtain ⟨y,_,rfl⟩:=List.mem_map.1 hx
 rfl
theorem c1k (l:List Ac) {n:Nat} (h:n<=l.length):fz Ar.std (eT l) 0 (n:Int)=some (eT (l.take n)):=by
 unfold fz;have hz:Ar.std.zle (Ar.std.zadd 0 (n:Int)) (Ar.std.len (eT l))=true:=by simp;omega
 rw [hz,cond_true];simp only [a0u,b3J,Int.zero_add,Int.toNat_zero,List.drop_zero,Nat.sub_zero,Int.toNat_natCast];unfold eT enc;rw [<-List.map_take]
theorem b0N (L:List S3) (p:S3->Bool):(L.map sI).filter (fun a=>p (iS a))=(L.filter p).map sI:=by
 rw [List.filter_map];have:((fun a=>p (iS a))∘sI)=p:=by funext s;simp [b8X]
 rw [this]
theorem c1l (f:List S3) (s:S3):N54 Ar.std (s.1:Int) (s.2.1:Int) (s.2.2:Int) (mK f)=some (!decide (s∈f)):=by
 have e:lk Ar.std cB (mK f) (.agg [.int .i64 (s.1:Int),.int .i64 (s.2.1:Int),.int .i64 (s.2.2:Int)])=some (if s∈f then some true else none):=by
  have:Ar.std.mget (mK f) (kS s)=if s∈f then some (.bool true) else none:=b8V f s
  unfold lk;rw [show (D.agg [.int .i64 (s.1:Int),.int .i64 (s.2.1:Int),.int .i64 (s.2.2:Int)])=kS s from rfl,this];by_cases h:s∈f
  ·rw [if_pos h,if_pos h];rfl
  rw [if_neg h,if_neg h];rfl
 unfold N54;by_cases h:s∈f
 ·rw [if_pos h] at e;exact bt (v:=false) (bt e rfl) (by simp [h])
 rw [if_neg h] at e;exact bt (v:=true) (bt e rfl) (by simp [h])
theorem b8Y {x:Ax} (hv:VX x) (m:List (D×D)) :
  (∃ (X:List Ac),((a3o x).filter (prB x)).length<=X.length/\X.take ((a3o x).filter (prB x)).length=((a3o x).filter (prB x)).map sI/\b4W Ar.std (eA x) m=some (.inl (0,(((a3o x).filter (prB x)).length:Int),eT X))) \/
  ((a3o x).filter (prB x)=[]/\b4W Ar.std (eA x) m=some (.inr [])):=by
 have e:N80 Ar.std (eA x)=some (eSt (a3o x)):=b4u hv;have hL:=a2p hv;have hm : ∀ s,s∈a3o x↔a4J x s:=fun s=>a1m;generalize a3o x=L at e hL hm;by_cases h0:0<L.length
 ·left;have hX:(L.map sI).length=L.length:=by simp
  obtain ⟨X',q1,q2,q3⟩:=b4v (X:=L.map sI) (n:=L.length) (by simp) (by omega) (pred:=fun a b c=>b4V Ar.std a b c m (eA x)) (keep:=fun a=>prB x (iS a)) (fun i a hi ha=>by
   rw [List.getElem?_map] at ha;obtain ⟨s,hs,rfl⟩:=Option.map_eq_some_iff.1 ha;have hsO:=(hm s).1 (List.mem_of_getElem? hs);simp only [b8X];show b4V Ar.std (s.1:Int) (s.2.1:Int) (s.2.2:Int) m (eA x)=_;unfold b4V;exact bt (b4t hv hsO.1 hsO.2.1) rfl)
  have htk:(L.map sI).take L.length=L.map sI:=List.take_of_length_le (by simp);rw [htk,b0N] at q1 q2 q3;rw [List.length_map] at q1 q2 q3;refine ⟨X',q3,q2,?_⟩;unfold b4W;refine bt e (cnT (by rw [a0v];simp;omega) (bck (c3H _) ?_));rw [a0v];exact bt (show c1V Ar.std 0 (L.length:Int) m (eA x) (eSt L)=_ from q1) rfl
 right;have hL0:L=[]:=List.eq_nil_of_length_eq_zero (by omega);subst hL0;refine ⟨rfl,?_⟩;unfold b4W;refine bt e (cnF rfl (bt (v:=[]) ?_ rfl));unfold c1X c1W;refine bt (v := -1) (bt (v := .inl ()) (a0w ?_) rfl) rfl;unfold b2s;exact cnF rfl rfl
open Classical in
noncomputable def a1u (x:Ax):List S3:=((a3o x).filter (prB x)).filter fun s=>decide (inC x s)
theorem b4w {x:Ax} (hv:VX x):(a1u x).length<=48:=Nat.le_trans (List.length_filter_le _ _) (Nat.le_trans (List.length_filter_le _ _) (a2p hv))
open Classical in
theorem a6e {x:Ax} {s:S3}:s∈a1u x↔a4J x s/\prB x s=true/\inC x s:=by
 unfold a1u;rw [List.mem_filter,List.mem_filter,a1m,decide_eq_true_eq,and_assoc]
open Classical in
theorem b0O {x:Ax} (hv:VX x):N26 Ar.std (eA x)=some (eSt (a1u x)):=by
 obtain ⟨f,hf,e⟩:=b8W hv;have hl48:((a3o x).filter (prB x)).length<=48:=Nat.le_trans (List.length_filter_le _ _) (a2p hv);have hfl:((a3o x).filter (prB x)).filter (fun s=>decide (s∈f))=a1u x:=by
  unfold a1u;exact List.filter_congr fun s _=>decide_eq_decide.2 (hf s)
 rcases b8Y hv (mK f) with ⟨X,hlX,htk,e2⟩ | ⟨hno,e2⟩
 ·generalize (a3o x).filter (prB x)=L at *;have hget : ∀ (i:Nat) (a:Ac),i<L.length->X[i]?=some a -> ∃ s,s∈L/\a=sI s:=by
   intro i a hi ha;have h:(X.take L.length)[i]?=some a:=by rw [List.getElem?_take_of_lt hi];exact ha
   rw [htk,List.getElem?_map] at h;obtain ⟨s,hs,rfl⟩:=Option.map_eq_some_iff.1 h;exact ⟨s,List.mem_of_getElem? hs,rfl⟩
  obtain ⟨X',q1,q2,q3⟩:=b4v (X:=X) (n:=L.length) hlX (by omega) (pred:=fun a b c=>N54 Ar.std a b c (mK f)) (keep:=fun a=>decide (iS a∈f)) (fun i a hi ha=>by
   obtain ⟨s,hs,rfl⟩:=hget i a hi ha;simp only [b8X];exact c1l f s)
  rw [htk,b0N L (fun s=>decide (s∈f)),hfl] at q1 q2 q3;rw [List.length_map] at q1 q2 q3;unfold N26;refine bt e (bt e2 ?_);rw [Sum.elim_inl];refine bt (show c1Y Ar.std 0 (L.length:Int) (mK f) (eT X)=_ from q1) (bt (c1k X' q3) ?_);rw [q2]
 rw [hno] at hfl;rw [<-hfl];unfold N26;refine bt e (bt e2 ?_);rw [Sum.elim_inr];refine bt (v:=[]) ?_ rfl;unfold c2a c1Z;refine bt (v := -1) (bt (v := .inl ()) (a0w ?_) rfl) rfl;unfold b2t;exact cnF rfl rfl
def wv (q:Nat->Bool):Nat->List Ac->List Ac
 | _,[]=>[]
 | i,a::l=>a::(if q i then fnc::wv q (i+1) l else wv q (i+1) l)
def psW (q:Nat->Bool) (i:Nat):Nat->Nat
 | 0=>0
 | b+1=>psW q i b+1+(if q (i+b) then 1 else 0)
theorem a6O {q:Nat->Bool} {i b c:Nat} (h:b<c):psW q i b<psW q i c:=by
 induction c with
 | zero=>omega
 | succ c ih =>
   have e:psW q i (c+1)=psW q i c+1+(if q (i+c) then 1 else 0):=rfl
   rcases Nat.lt_or_ge b c with hb | hb
   ·have:=ih hb;omega
   have:b=c:=by omega
   subst this;omega
theorem b8Z {q:Nat->Bool} {i b c:Nat} (h:psW q i b=psW q i c):b=c:=by
 rcases Nat.lt_trichotomy b c with hb | hb | hb
 ·have:=a6O (q:=q) (i:=i) hb;omega
 ·exact hb
 have:=a6O (q:=q) (i:=i) hb;omega
theorem a4p (q:Nat->Bool) (i b:Nat):psW q i (b+1)=1+(if q i then 1 else 0)+psW q (i+1) b:=by
 induction b with
 | zero=>simp [psW]
 | succ b ih =>
   rw [show psW q i (b+1+1)=psW q i (b+1)+1+(if q (i+(b+1)) then 1 else 0) from rfl,ih]
   rw [show psW q (i+1) (b+1)=psW q (i+1) b+1+(if q (i+1+b) then 1 else 0) from rfl]
   rw [show i+(b+1)=i+1+b by omega];omega
theorem b9a (q:Nat->Bool) : ∀ (l:List Ac) (i b:Nat),b<l.length->(wv q i l)[psW q i b]?=l[b]?/\(q (i+b)=true->(wv q i l)[psW q i b+1]?=some fnc)
 | [],_,_,h=>by simp at h
 | a::l,i,0,_=>by
   refine ⟨by simp [psW,wv],fun h => ?_⟩;rw [Nat.add_zero] at h;simp [psW,wv,h]
 | a::l,i,b+1,h=>by
   obtain ⟨h1,h2⟩:=b9a q l (i+1) b (by simpa using h);rw [a4p,show i+(b+1)=i+1+b by omega];cases hq:q i with
   | true =>
     simp only [if_true,wv,hq];rw [show 1+1+psW q (i+1) b=psW q (i+1) b+1+1 by omega];simp only [List.getElem?_cons_succ];exact ⟨h1,h2⟩
   | false =>
     simp only [wv,hq,Bool.false_eq_true,if_false];rw [show 1+0+psW q (i+1) b=psW q (i+1) b+1 by omega];simp only [List.getElem?_cons_succ];exact ⟨h1,h2⟩
theorem b4x (q:Nat->Bool) : ∀ (l:List Ac) (i j:Nat) (x:Ac),(wv q i l)[j]?=some x->x.1≠3 -> ∃ b,b<l.length/\j=psW q i b
 | [],_,_,_,h,_=>by simp [wv] at h
 | a::l,i,0,x,h,_=>⟨0,by simp,rfl⟩
 | a::l,i,j+1,x,h,hx=>by
   cases hq:q i with
   | true =>
     simp only [wv,hq,if_true,List.getElem?_cons_succ] at h;cases j with
     | zero=>simp at h;subst h;exact absurd rfl hx
     | succ j =>
       simp only [List.getElem?_cons_succ] at h;obtain ⟨b,h1,h2⟩:=b4x q l (i+1) j x h hx;exact ⟨b+1,by simpa using h1,by rw [a4p,hq];simp;omega⟩
   | false =>
     simp only [wv,hq,Bool.false_eq_true,if_false,List.getElem?_cons_succ] at h;obtain ⟨b,h1,h2⟩:=b4x q l (i+1) j x h hx;exact ⟨b+1,by simpa using h1,by rw [a4p,hq];simp;omega⟩
def c1m (u:Nat) (a:Int×Bool):Ac:=if a.2 then (2,a.1,((u%3+1:Nat):Int)) else (1,a.1,0)
def nwr (l:List (Int×Bool)):Nat:=l.countP fun a=>a.2
def a7z:Nat->List (Int×Bool)->List Ac
 | _,[]=>[]
 | u,a::l=>c1m u a::a7z (if a.2 then u+1 else u) l
theorem a6P (a:Int×Bool) : ∀ (l:List (Int×Bool)) (u:Nat),a7z u (l++[a])=a7z u l++[c1m (u+nwr l) a]
 | [],u=>rfl
 | b::l,u=>by
   show c1m u b::a7z _ (l++[a])=_;rw [a6P a l];have:(if b.2=true then u+1 else u)+nwr l=u+nwr (b::l):=by
    unfold nwr;rw [List.countP_cons];split <;> omega
   rw [this];rfl
theorem a7A : ∀ (l:List (Int×Bool)) (u:Nat),∀ c∈a7z u l,wk c=true
 | [],u,c,h=>by cases h
 | b::l,u,c,h=>by
   rcases List.mem_cons.1 h with rfl | h
   ·unfold c1m wk;split <;> rfl
   exact a7A l _ c h
theorem a6f (q:Nat->Bool) : ∀ (l:List Ac) (i:Nat),(∀ c∈l,wk c=true)->(wv q i l).filter wk=l
 | [],i,_=>rfl
 | a::l,i,h=>by
   have h1:=h a (by simp);have h2:=a6f q l (i+1) (fun c hc=>h c (by simp [hc]));unfold wv;rw [List.filter_cons_of_pos h1];split
   ·rw [List.filter_cons_of_neg (by decide),h2]
   rw [h2]
def wrs (x:Ax) (t:Nat):Nat:=((x.take t).map nwr).sum
structure Mk (x:Ax) (q:Nat->Nat->Bool) (P:Pg):Prop where
 len:P.length=x.length
 ac : ∀ t,t<x.length->thr P t=wv (q t) 0 (a7z (wrs x t) (thX x t))
 thd : ∀ t,t<x.length -> ∃ A:List Ac,A.length=(thX x t).length/\thr P t=wv (q t) 0 A /\ ∀ (a:Nat) (c:Ac),A[a]?=some c->c.1=(if (acX x t a).2 then 2 else 1)/\c.2.1=(acX x t a).1/\a6m c=true
theorem Mk.nf {x:Ax} {q q':Nat->Nat->Bool} {P P':Pg} (h:Mk x q P) (h':Mk x q' P'):nfP P=nfP P':=by
 unfold nfP;apply List.ext_getElem?;intro t;rw [List.getElem?_map,List.getElem?_map];by_cases ht:t<x.length
 ·rw [a1U (by rw [h.len];exact ht),a1U (by rw [h'.len];exact ht),h.ac t ht,h'.ac t ht];simp only [Option.map_some];rw [a6f _ _ _ (a7A _ _),a6f _ _ _ (a7A _ _)]
 rw [List.getElem?_eq_none (by rw [h.len];omega),List.getElem?_eq_none (by rw [h'.len];omega)]
section
variable {x:Ax} {q:Nat->Nat->Bool} {P:Pg} (hM:Mk x q P)
include hM
theorem Mk.acc {t j:Nat} (h:inP P (t,j)) (h3:(acA P (t,j)).1≠3) : ∃ a,a8Q x t a/\j=psW (q t) 0 a/\(acA P (t,j)).1=(if (acX x t a).2 then 2 else 1)/\(acA P (t,j)).2.1=(acX x t a).1:=by
 obtain ⟨h1,h2⟩:=h;dsimp only at h1 h2;rw [hM.len] at h1;obtain ⟨A,e1,e2,e3⟩:=hM.thd t h1;have hx:(thr P t)[j]?=some (aAt (thr P t) j):=a3z h2;rw [e2] at hx;obtain ⟨a,ha,rfl⟩:=b4x (q t) A 0 j _ hx (by rw [<-e2];exact h3);have hw:=(b9a (q t) A 0 a ha).1;rw [hw] at hx;obtain ⟨g1,g2,_⟩:=e3 a _ hx;refine ⟨a,⟨h1,by omega⟩,rfl,?_,?_⟩
 ·show (aAt (thr P t) _).1=_;rw [e2];exact g1
 show (aAt (thr P t) _).2.1=_;rw [e2];exact g2
theorem Mk.stn {t a b:Nat} (h:stn P t a b) : ∃ α β,a4J x (t,α,β)/\a=psW (q t) 0 α/\b=psW (q t) 0 β/\(a<b->prB x (t,α,β)=true) /\
  (acA P (t,a)).1=(if (acX x t α).2 then 2 else 1)/\(acA P (t,a)).2.1=(acX x t α).1/\(acA P (t,b)).1=(if (acX x t β).2 then 2 else 1)/\(acA P (t,b)).2.1=(acX x t β).1:=by
 obtain ⟨h1,h2,h3,h4,h5⟩:=h;obtain ⟨α,o1,p1,k1,v1⟩:=hM.acc h1 h3;obtain ⟨β,o2,p2,k2,v2⟩:=hM.acc h2 h4;refine ⟨α,β,⟨o1,o2,?_⟩,p1,p2,fun hlt => ?_,k1,v1,k2,v2⟩
 ·rcases h5 with h5 | ⟨h5,h6⟩
  ·left;show α=β;rw [p1,p2] at h5;exact b8Z h5
  right;show α<β/\_;refine ⟨?_,by rw [<-v1,<-v2];exact h6⟩;rcases Nat.lt_trichotomy α β with g | g | g
  ·exact g
  ·subst g;omega
  have:=a6O (q:=q t) (i:=0) g;omega
 rcases h5 with h5 | ⟨_,h6⟩
 ·omega
 unfold prB;have hab:α<β:=by
  rcases Nat.lt_trichotomy α β with g | g | g
  ·exact g
  ·subst g;omega
  have:=a6O (q:=q t) (i:=0) g;omega
 have hne:(acX x t α).1≠(acX x t β).1:=by rw [<-v1,<-v2];exact h6
 simp [hab,hne]
theorem Mk.held {t α β g:Nat} (ht:t<x.length) (hβ:β<(thX x t).length) (h1:α<=g) (h2:g<β) (hq:q t g=true):a8N P t (psW (q t) 0 α) (psW (q t) 0 β):=by
 obtain ⟨A,e1,e2,_⟩:=hM.thd t ht;have hw:=(b9a (q t) A 0 g (by omega)).2 (by rw [Nat.zero_add];exact hq);refine ⟨psW (q t) 0 g+1,?_,?_,?_⟩
 ·rcases Nat.lt_or_ge α g with h | h
  ·have:=a6O (q:=q t) (i:=0) h;omega
  have:α=g:=by omega
  subst this;omega
 ·have e:psW (q t) 0 (g+1)=psW (q t) 0 g+1+(if q t (0+g) then 1 else 0):=rfl
  rw [Nat.zero_add,hq] at e;simp at e;rcases Nat.lt_or_ge (g+1) β with h | h
  ·have:=a6O (q:=q t) (i:=0) h;omega
  have:g+1=β:=by omega
  rw [<-this];omega
 show (aAt (Go.Am.thr P t) _).1=3;rw [e2];have:aAt (wv (q t) 0 A) (psW (q t) 0 g+1)=fnc:=by
  unfold aAt;rw [List.getD_eq_getElem?_getD,hw];rfl
 rw [this];rfl
omit hM in
theorem a8U {t b u c β γ:Nat} (h:cfl P (t,b) (u,c)) (k1:(acA P (t,b)).1=(if (acX x t β).2 then 2 else 1)) (v1:(acA P (t,b)).2.1=(acX x t β).1) (k2:(acA P (u,c)).1=(if (acX x u γ).2 then 2 else 1)) (v2:(acA P (u,c)).2.1=(acX x u γ).1) :
  cfX x t β u γ=true/\t≠u:=by
 obtain ⟨h1,h2⟩:=h;have htu:t≠u:=h1;refine ⟨?_,htu⟩;unfold a1I at h2;simp only [not_or,not_and] at h2;obtain ⟨_,_,h3,h4⟩:=h2;have hv:(acX x t β).1=(acX x u γ).1:=by
  rw [<-v1,<-v2];exact Classical.byContradiction h3
 unfold cfX;have hw:((acX x t β).2||(acX x u γ).2)=true:=by
  cases e1:(acX x t β).2 with
  | true=>rfl
  | false =>
    cases e2:(acX x u γ).2 with
    | true=>rfl
    | false =>
      rw [e1] at k1;rw [e2] at k2;simp at k1 k2;exact absurd (h4 (by rw [k1];decide)) (by rw [k2];decide)
 rw [hw];simp [htu,hv]
omit hM in
theorem c3I {s u:S3} (h1:cfX x s.1 s.2.2 u.1 u.2.1=true) (h2:cfX x u.1 u.2.2 s.1 s.2.1=true) (hne:s.1≠u.1) (hp:prB x s=true\/prB x u=true):a1z x [s,u]=true:=by
 have e1:a3h [] s=false:=rfl;have e2:a3h [s] u=false:=by unfold a3h;simp [hne]
 unfold a1z;rw [show (List.range [s,u].length)=[0,1] from rfl];simp only [List.all_cons,List.all_nil,Bool.and_true,zp4];refine ⟨⟨?_,?_⟩,?_⟩
 ·show (cfX x s.1 s.2.2 u.1 u.2.1 && !a3h [] s)=true;rw [h1,e1];rfl
 ·simp [a3l,h2,e2]
 rcases hp with h | h <;> simp [h]
omit hM in
theorem c3J {s u w:S3} (h1:cfX x s.1 s.2.2 u.1 u.2.1=true) (h2:cfX x u.1 u.2.2 w.1 w.2.1=true) (h3:cfX x w.1 w.2.2 s.1 s.2.1=true) (n1:s.1≠u.1) (n2:u.1≠w.1) (n3:s.1≠w.1) (hp:prB x s=true\/prB x u=true\/prB x w=true):a1z x [s,u,w]=true:=by
 have e1:a3h [] s=false:=rfl;have e2:a3h [s] u=false:=by unfold a3h;simp [n1]
 have e3:a3h [s,u] w=false:=by unfold a3h;simp [n2,n3]
 unfold a1z;rw [show (List.range [s,u,w].length)=[0,1,2] from rfl];simp only [List.all_cons,List.all_nil,Bool.and_true,zp4];refine ⟨⟨?_,?_,?_⟩,?_⟩
 ·show (cfX x s.1 s.2.2 u.1 u.2.1 && !a3h [] s)=true;rw [h1,e1];rfl
 ·show (cfX x u.1 u.2.2 w.1 w.2.1 && !a3h [s] u)=true;rw [h2,e2];rfl
 ·simp [a3l,h3,e3]
 rcases hp with h | h | h <;> simp [h]
theorem Mk.nc (hh : ∀ (l:List S3) (s:S3),(∀ u∈l,a4J x u)->2<=l.length->l.length<=3->a1z x l=true->s∈l->prB x s=true -> ∃ g,s.2.1<=g/\g<s.2.2/\q s.1 g=true):NC P:=by
 have hold : ∀ (l:List S3) (t α β:Nat),(∀ u∈l,a4J x u)->2<=l.length->l.length<=3->a1z x l=true->(t,α,β)∈l->prB x (t,α,β)=true->a8N P t (psW (q t) 0 α) (psW (q t) 0 β):=by
  intro l t α β h1 h2 h3 h4 h5 h6;obtain ⟨g,g1,g2,g3⟩:=hh l _ h1 h2 h3 h4 h5 h6;have hO:=h1 _ h5;exact hM.held hO.1.1 hO.2.1.2 g1 g2 g3
 constructor
 ·intro t a b u c d s1 s2 c1 c2;obtain ⟨α,β,o1,rfl,rfl,pr1,ka,va,kb,vb⟩:=hM.stn s1;obtain ⟨γ,δ,o2,rfl,rfl,pr2,kc,vc,kd,vd⟩:=hM.stn s2;obtain ⟨f1,n1⟩:=a8U (x:=x) c1 kb vb kc vc;obtain ⟨f2,_⟩:=a8U (x:=x) c2 kd vd ka va;have hall : ∀ v∈[(t,α,β),(u,γ,δ)],a4J x v:=by
   intro v hv;simp only [List.mem_cons,List.not_mem_nil,or_false] at hv;rcases hv with rfl | rfl
   ·exact o1
   exact o2
  have hc:prB x (t,α,β)=true\/prB x (u,γ,δ)=true->a1z x [(t,α,β),(u,γ,δ)]=true:=c3I f1 f2 n1;exact ⟨fun h=>hold _ t α β hall (by simp) (by simp) (hc (.inl (pr1 h))) (by simp) (pr1 h),fun h=>hold _ u γ δ hall (by simp) (by simp) (hc (.inr (pr2 h))) (by simp) (pr2 h)⟩
 intro t a b u c d v e f htv s1 s2 s3 c1 c2 c3;obtain ⟨α,β,o1,rfl,rfl,pr1,ka,va,kb,vb⟩:=hM.stn s1;obtain ⟨γ,δ,o2,rfl,rfl,pr2,kc,vc,kd,vd⟩:=hM.stn s2;obtain ⟨ε,φ,o3,rfl,rfl,pr3,ke,ve,kf,vf⟩:=hM.stn s3;obtain ⟨f1,n1⟩:=a8U (x:=x) c1 kb vb kc vc;obtain ⟨f2,n2⟩:=a8U (x:=x) c2 kd vd ke ve;obtain ⟨f3,n3⟩:=a8U (x:=x) c3 kf vf ka va;have hall : ∀ w∈[(t,α,β),(u,γ,δ),(v,ε,φ)],a4J x w:=by
  intro w hw;simp only [List.mem_cons,List.not_mem_nil,or_false] at hw;rcases hw with rfl | rfl | rfl
  ·exact o1
  ·exact o2
  exact o3
 have hc:prB x (t,α,β)=true\/prB x (u,γ,δ)=true\/prB x (v,ε,φ)=true->a1z x [(t,α,β),(u,γ,δ),(v,ε,φ)]=true:=c3J f1 f2 f3 n1 n2 htv
 exact ⟨fun h=>hold _ t α β hall (by simp) (by simp) (hc (.inl (pr1 h))) (by simp) (pr1 h),fun h=>hold _ u γ δ hall (by simp) (by simp) (hc (.inr (.inl (pr2 h)))) (by simp) (pr2 h),
  fun h=>hold _ v ε φ hall (by simp) (by simp) (hc (.inr (.inr (pr3 h)))) (by simp) (pr3 h)⟩
end
abbrev cFe:Cod (Int×Int):=cG (lc (cI .i64) (l1 (cI .i64)))
abbrev eF (y:List (Int×Int)):List D:=enc cFe y
theorem a1s (y:List (Int×Int)):Ar.std.len (eF y)=(y.length:Int):=by rw [a0K]
theorem b4y {y:List (Int×Int)} (f:Int×Int) (h:y.length<4294967295):ap Ar.std (eF y) [.agg [.int .i64 f.1,.int .i64 f.2]]=some (eF (y++[f])):=a5V (c:=cFe) (a:=f) rfl h
theorem b7v {y:List (Int×Int)} (hy:y.length<=200) (a b:Int):N28 Ar.std (eF y) a b=some (decide ((a,b)∈y)):=by
 have key:=a2f (step:=b2A Ar.std (eF y) a b) y (fun f=>decide ((a,b)=f)) (fun i=>(Sum.inr (i:Int):Unit⊕Int)) (Sum.inl ()) (fun i f hf hi=>by
   obtain ⟨f1,f2⟩:=f;unfold b2A;refine cnT (by rw [a1s];simp;omega) (bt (a0B hf) ?_);have hd:Ar.std.deq [(.int .i64 a),(.int .i64 b)] [(.int .i64 f1),(.int .i64 f2)]=decide ((a,b)=(f1,f2)):=by
    by_cases h:a=f1/\b=f2
    ·obtain ⟨rfl,rfl⟩:=h;simp
    have h1 : ¬ ((a,b)=(f1,f2)):=by simpa [Prod.ext_iff] using h
    rw [decide_eq_false h1];simp [Prod.ext_iff] at h ⊢;exact h
   simp only [hd];cases decide ((a,b)=(f1,f2)) with
   | true=>rfl
   | false=>exact cnF rfl (by rw [wS (by omega)];rfl)) (by
   unfold b2A;exact cnF (by rw [a1s];simp) rfl)
 unfold N28 N55;have hm:decide ((a,b)∈y)=y.any (fun f=>decide ((a,b)=f)):=by
  rw [Bool.eq_iff_iff];simp
 rw [hm,<-a3K (l:=y) (p:=fun f=>decide ((a,b)=f))];cases hf:y.findIdx? (fun f=>decide ((a,b)=f)) with
 | none=>rw [hf] at key;exact bt (v := -1) (bt key rfl) rfl
 | some i=>rw [hf] at key;exact bt (v:=(i:Int)) (bt key rfl) (by simp)
def okF (x:Ax) (f:Int×Int):Prop:=0<=f.1/\f.1<(x.length:Int)/\0<=f.2/\f.2+1<((thX x f.1.toNat).length:Int)
def a8V (y:List (Int×Int)) (s:S3):Bool:=y.any fun f=>decide (f.1=(s.1:Int))&&(decide ((s.2.1:Int)<=f.2)&&decide (f.2<(s.2.2:Int)))
theorem c1n {y:List (Int×Int)} (hy:y.length<=200) (s:S3):N51 Ar.std (eF y) (s.1:Int) (s.2.1:Int) (s.2.2:Int)=some (a8V y s):=by
 let p:Int×Int->Bool:=fun f=>decide (f.1=(s.1:Int))&&(decide ((s.2.1:Int)<=f.2)&&decide (f.2<(s.2.2:Int)));have key:=a2f (step:=a7T Ar.std (eF y) (s.1:Int) (s.2.1:Int) (s.2.2:Int)) y p (fun i=>(Sum.inr (i:Int):Unit⊕Int)) (Sum.inl ()) (fun i f hf hi=>by
   unfold a7T;refine cnT (by rw [a1s];simp;omega) (bt (a0B hf) (bt (v:=p f) ?_ ?_))
   ·unfold N88 N89;refine bt (bt (v:=p f) ?_ rfl) rfl;show (bif decide (f.1=(s.1:Int)) then bif decide ((s.2.1:Int)<=f.2) then some (decide (f.2<(s.2.2:Int))) else some false else some false)=some (decide (f.1=(s.1:Int))&&(decide ((s.2.1:Int)<=f.2)&&decide (f.2<(s.2.2:Int))))
    cases decide (f.1=(s.1:Int)) <;> cases decide ((s.2.1:Int)<=f.2) <;> rfl
   ·cases p f with
    | true=>rfl
    | false=>exact cnF rfl (by rw [wS (by omega)];rfl)) (by
   unfold a7T;exact cnF (by rw [a1s];simp) rfl)
 unfold N51 N87 c2b;show _=some (y.any p);rw [<-a3K (l:=y) (p:=p)];cases hf:y.findIdx? p with
 | none=>rw [hf] at key;exact bt (bt (v := -1) (bt key rfl) rfl) rfl
 | some i=>rw [hf] at key;exact bt (v:=true) (bt (v:=(i:Int)) (bt key rfl) (by simp)) rfl
theorem c1o {y:List (Int×Int)} (hy:y.length<=200) {R:List S3} (hR:R.length<=100):N25 Ar.std (eF y) (eSt R)=some (R.all (a8V y)):=by
 have key:=a2f (step:=a7U Ar.std (eSt R) (eF y)) R (fun s => !a8V y s) (fun i=>(Sum.inr (i:Int):Unit⊕Int)) (Sum.inl ()) (fun i s hs hi=>by
   unfold a7U;refine cnT (by rw [a0v];simp;omega) (bt (a1y hs) (bt (v := !a8V y s) (by unfold N50;exact bt (c1n hy s) rfl) ?_));cases a8V y s with
   | true=>exact cnF rfl (by rw [wS (by omega)];rfl)
   | false=>rfl) (by
   unfold a7U;exact cnF (by rw [a0v];simp) rfl)
 have hn:R.all (a8V y) = !R.any (fun s => !a8V y s):=by rw [List.all_eq_not_any_not]
 unfold N25 c2d c2c;rw [hn,<-a3K (l:=R) (p:=fun s => !a8V y s)];cases hf:R.findIdx? (fun s => !a8V y s) with
 | none=>rw [hf] at key;exact bt (v:=false) (bt (v := -1) (bt key rfl) rfl) rfl
 | some i=>rw [hf] at key;exact bt (v:=true) (bt (v:=(i:Int)) (bt key rfl) (by simp)) rfl
theorem b4z (q:Nat->Bool) : ∀ (l:List Ac) (i:Nat) (a:Ac),wv q i (l++[a])=wv q i l++(a::if q (i+l.length) then [fnc] else [])
 | [],i,a=>by cases h:q i <;> simp [wv,h]
 | b::l,i,a=>by
   have ih:=b4z q l (i+1) a;have e:i+(b::l).length=i+1+l.length:=by simp;omega
   rw [e];cases h:q i <;> simp [wv,h,ih]
theorem b4A (q:Nat->Bool) : ∀ (l:List Ac) (i:Nat),(wv q i l).length=psW q i l.length
 | [],_=>rfl
 | a::l,i=>by
   have ih:=b4A q l (i+1);rw [List.length_cons,a4p];cases h:q i <;> simp [wv,h,ih] <;> omega
theorem b4B (q:Nat->Bool) : ∀ (l:List Ac) (i:Nat) {c:Ac},c∈wv q i l->c∈l\/c=fnc
 | [],_,c,h=>by simp [wv] at h
 | a::l,i,c,h=>by
   cases hq:q i with
   | true =>
     simp only [wv,hq,if_true,List.mem_cons] at h;rcases h with rfl | rfl | h
     ·simp
     ·exact .inr rfl
     rcases b4B q l (i+1) h with h | h
     ·exact .inl (by simp [h])
     exact .inr h
   | false =>
     simp only [wv,hq,Bool.false_eq_true,if_false,List.mem_cons] at h;rcases h with rfl | h
     ·simp
     rcases b4B q l (i+1) h with h | h
     ·exact .inl (by simp [h])
     exact .inr h
theorem c1p (q:Nat->Bool) : ∀ (l:List Ac) (i:Nat),nWk (wv q i l)=nWk l
 | [],_=>rfl
 | a::l,i=>by
   have ih:=c1p q l (i+1);unfold nWk at *;cases hq:q i <;> simp [wv,hq,List.countP_cons,ih,wk,fnc]
theorem b7w (q:Nat->Bool) (i b:Nat):psW q i b<=2*b:=by
 induction b with
 | zero=>simp [psW]
 | succ b ih =>
   rw [show psW q i (b+1)=psW q i b+1+(if q (i+b) then 1 else 0) from rfl]
   split <;> omega
def okA (x:Ax) (t:Nat) (A:List Ac):Prop := ∀ (a:Nat) (c:Ac),A[a]?=some c->c.1=(if (acX x t a).2 then 2 else 1)/\c.2.1=(acX x t a).1/\a6m c=true
def qF (y:List (Int×Int)) (t a:Nat):Bool:=decide (((t:Int),(a:Int))∈y)
theorem b9b {l:List Ac} (c:Ac) (h:l.length<4294967295):ap Ar.std (eT l) [.agg [.int .i64 c.1,.int .i64 c.2.1,.int .i64 c.2.2]]=some (eT (l++[c])):=a5V (c:=cA3) (a:=c) rfl h
theorem b9c {x:Ax} (hv:VX x) {y:List (Int×Int)} (hy:y.length<=200) {t:Nat} (ht:t<x.length) {w:Nat} (hw:w<=100) :
  ∃ A:List Ac,A=a7z w (thX x t)/\A.length=(thX x t).length/\okA x t A/\iter (b7L Ar.std (eF y) (t:Int) (eAs (thX x t))) ((w:Int),[],0)=some (((w+nwr (thX x t):Nat):Int),eT (wv (qF y t) 0 A)):=by
 have h4:=hv.l4 t;have key:=a0x (step:=b7L Ar.std (eF y) (t:Int) (eAs (thX x t))) (thX x t).length (fun (s:Nat×List Ac) (i:Nat)=>((s.1:Int),eT (wv (qF y t) 0 s.2),(i:Int)))
  (fun i s=>(s.1=w+nwr ((thX x t).take i)/\s.1<=w+i/\s.2=a7z w ((thX x t).take i))/\s.2.length=i/\okA x t s.2) (fun s=>((s.1:Int),eT (wv (qF y t) 0 s.2)))
  (fun i s hi hR=>by
   obtain ⟨u,A⟩:=s;obtain ⟨⟨r0,r1,r4⟩,r2,r3⟩:=hR;dsimp only at r0 r1 r2 r3 r4;have hx:(thX x t)[i]?=some (acX x t i):=a3X hi;have hva:=hv.acc t i hi;have hle:(wv (qF y t) 0 A).length<=8:=by rw [b4A];have:=b7w (qF y t) 0 A.length;omega
   have e28:=b7v (y:=y) hy (t:Int) (i:Int)

   obtain ⟨u',c,⟨hu',hcx,hux⟩,hc1,hc2,hc3,hact⟩ : ∃ (u':Nat) (c:Ac),(u'<=u+1/\c=c1m u (acX x t i)/\u'=u+nwr [acX x t i])/\c.1=(if (acX x t i).2 then 2 else 1)/\c.2.1=(acX x t i).1/\a6m c=true /\
     (bif (acX x t i).2 then
      (nk (Ar.std.zeq 3 0)).bind fun _ =>
      some ((Ar.std.wrp .i64 (Ar.std.zadd (u:Int) 1)),2,(Ar.std.wrp .i64 (Ar.std.zadd (Ar.std.rem (u:Int) 3) 1)))
     else
      some ((u:Int),1,0):Option (Int×Int×Int))=some ((u':Int),c.1,c.2.2):=by
    generalize acX x t i=ac at hva;obtain ⟨v,wr⟩:=ac;dsimp only at hva ⊢;cases wr with
    | true =>
      have er:Ar.std.rem (u:Int) 3=((u%3:Nat):Int):=rfl;refine ⟨u+1,(2,v,((u%3+1:Nat):Int)),⟨Nat.le_refl _,rfl,rfl⟩,rfl,rfl,?_,?_⟩
      ·have h3:u%3<3:=Nat.mod_lt _ (by decide);unfold a6m btw;simp;omega
      refine cnT rfl (bnk rfl ?_);rw [er,wS (by omega),wS (by have:=Nat.mod_lt u (show 0<3 by decide);omega)]
    | false =>
      refine ⟨u,(1,v,0),⟨by omega,rfl,rfl⟩,rfl,rfl,?_,cnF rfl rfl⟩;unfold a6m btw;simp;omega
   refine ⟨(u',A++[c]),⟨⟨?_,by dsimp only;omega,?_⟩,by simp [r2],fun a d had => ?_⟩,?_⟩
   ·dsimp only;rw [hux,r0,a0g hx];unfold nwr;rw [List.countP_append];omega
   ·dsimp only;rw [a0g hx,a6P,<-r4,hcx,r0]
   ·dsimp only at had;rcases Nat.lt_or_ge a A.length with h | h
    ·rw [zp7 h] at had;exact r3 a d had
    rw [zp8 h] at had;have ha:a=i:=by
     have:=(zp2.1 had).1;simp at this;omega
    subst ha;rw [show a-A.length=0 by omega] at had;simp at had;subst had;exact ⟨hc1,hc2,hc3⟩
   have es:=b4z (qF y t) A 0 c;rw [Nat.zero_add,r2] at es
   have key2 : ∀ {r},((ap Ar.std (eT (wv (qF y t) 0 A)) [(.agg [(.int .i64 c.1),(.int .i64 (acX x t i).1),(.int .i64 c.2.2)])]).bind fun l132 =>
     (N28 Ar.std (eF y) (t:Int) (i:Int)).bind fun r137 =>
     ((
      bif r137 then
       (ap Ar.std l132 [(.agg [(.int .i64 3),(.int .i64 0),(.int .i64 0)])]).bind fun l139 =>
       some l139
      else
       some l132:Option (List D))).bind fun v143 =>
     some (Sum.inl ((u':Int),v143,(Ar.std.wrp .i64 (Ar.std.zadd (i:Int) 1))):(Int×List D×Int)⊕(Int×List D)))=r->b7L Ar.std (eF y) (t:Int) (eAs (thX x t)) ((u:Int),eT (wv (qF y t) 0 A),(i:Int))=r:=by
    intro r hr;unfold b7L;dsimp only;refine cnT (by simp;omega) (bt (a0B hx) (bt hact hr))
   refine key2 ?_;rw [<-hc2];refine bt (b9b c (by omega)) (bt e28 (bt (v:=eT (wv (qF y t) 0 (A++[c]))) ?_ (by rw [wS (by omega)])));rw [es];show (bif qF y t i then _ else _)=_
   cases hq:qF y t i with
   | true =>
     refine cnT rfl (bt (b9b fnc (by simp;omega)) ?_);simp
   | false =>
     refine cnF rfl ?_;simp)
  (fun s hR=>by
   unfold b7L;dsimp only;exact cnF (by simp) rfl) (w,[]) ⟨⟨rfl,by simp,rfl⟩,rfl,fun a c h=>by simp at h⟩
 obtain ⟨⟨w',A⟩,⟨⟨h0,_,h1⟩,h2,h3⟩,h⟩:=key;dsimp only at h0 h1;rw [List.take_of_length_le (Nat.le_refl _)] at h0 h1;subst h0;exact ⟨A,h1,h2,h3,h⟩
theorem b9d {x:Ax} (hv:VX x) {y:List (Int×Int)} (hy:y.length<=200) : ∃ P:Pg,Mk x (qF y) P/\iter (b9u Ar.std (eA x) (eF y)) (0,[],0)=some (eP P):=by
 have hn3:=hv.n3;have key:=a0x (step:=b9u Ar.std (eA x) (eF y)) x.length (fun (s:Nat×Pg) (i:Nat)=>((s.1:Int),eP s.2,(i:Int)))
  (fun i s=>(s.1=wrs x i/\s.1<=4*i)/\s.2.length=i /\ ∀ t,t<i -> ∃ A:List Ac,(A=a7z (wrs x t) (thX x t)/\A.length=(thX x t).length)/\thr s.2 t=wv (qF y t) 0 A/\okA x t A) (fun s=>eP s.2)
  (fun i s hi hR=>by
   obtain ⟨u,Q⟩:=s;obtain ⟨⟨r0,r1⟩,r2,r3⟩:=hR;dsimp only at r0 r1 r2 r3;have hw:nwr (thX x i)<=4:=Nat.le_trans List.countP_le_length (hv.l4 i);have hws:wrs x (i+1)=wrs x i+nwr (thX x i):=by unfold wrs;rw [a0g (a0S hi),List.map_append,List.sum_append];simp
   obtain ⟨A,q1,q2,q3,q4⟩:=b9c hv hy hi (w:=u) (by omega);rw [r0] at q1;have ea:ap Ar.std (eP Q) [D.list 3 (eT (wv (qF y i) 0 A))]=some (eP (Q++[wv (qF y i) 0 A])):=by
    rw [b6W (by simp;omega)];unfold eP enc;rw [List.map_append,List.map_append];rfl
   refine ⟨(u+nwr (thX x i),Q++[wv (qF y i) 0 A]),⟨⟨by dsimp only;omega,by dsimp only;omega⟩,by simp [r2],fun t ht => ?_⟩,?_⟩
   ·dsimp only;by_cases h:t<i
    ·obtain ⟨B,b1,b2,b3⟩:=r3 t h;refine ⟨B,b1,?_,b3⟩;rw [<-b2];unfold thr;rw [List.getD_eq_getElem?_getD,List.getD_eq_getElem?_getD,zp7 (by omega)]
    have:t=i:=by omega
    subst this;refine ⟨A,⟨q1,q2⟩,?_,q3⟩;unfold thr;rw [List.getD_eq_getElem?_getD,zp8 (by omega),r2,Nat.sub_self];rfl
   unfold b9u;dsimp only;refine cnT (by simp;omega) (bt (a2R (a0S hi)) (bt q4 (bt ea ?_)));rw [wS (by omega)])
  (fun s hR=>by
   unfold b9u;dsimp only;exact cnF (by simp) rfl) (0,[]) ⟨⟨rfl,by simp⟩,rfl,fun t ht=>by omega⟩
 obtain ⟨⟨w',P⟩,⟨_,h2,h3⟩,h⟩:=key;refine ⟨P,⟨h2,fun t ht => ?_,fun t ht => ?_⟩,h⟩
 ·obtain ⟨A,⟨a1,a2⟩,a3,a4⟩:=h3 t ht;rw [<-a1];exact a3
 obtain ⟨A,⟨a1,a2⟩,a3,a4⟩:=h3 t ht;exact ⟨A,a2,a3,a4⟩
theorem Mk.valid {x:Ax} (hv:VX x) (h6:allX x<=6) {y:List (Int×Int)} (hok : ∀ f∈y,okF x f) {P:Pg} (hM:Mk x (qF y) P):b3O P=true:=by
 have hwk : ∀ t,t<x.length->nWk (Go.Am.thr P t)=(thX x t).length:=by
  intro t ht;obtain ⟨A,e1,e2,e3⟩:=hM.thd t ht;rw [e2,c1p];unfold nWk;rw [<-e1,List.countP_eq_length];intro c hc;obtain ⟨i,hi,rfl⟩:=List.mem_iff_getElem.1 hc;have:=(e3 i _ (zp1 hi)).1;unfold wk;rw [this];split <;> simp
 have hget : ∀ t,t<x.length->P[t]?=some (Go.Am.thr P t):=fun t ht=>a1U (by rw [hM.len];exact ht);have hsum:allW P=allX x:=by
  unfold allW allX;congr 1;apply List.ext_getElem?;intro t;rw [List.getElem?_map,List.getElem?_map];by_cases ht:t<x.length
  ·rw [hget t ht,a0S ht];simp only [Option.map_some];rw [hwk t ht]
  rw [List.getElem?_eq_none (by rw [hM.len];omega),List.getElem?_eq_none (by omega)];rfl
 unfold b3O;simp only [zp4,decide_eq_true_eq,List.all_eq_true];refine ⟨⟨fun l hl => ?_,by rw [hM.len];exact ⟨hv.n1,hv.n3⟩⟩,by rw [hsum];omega⟩;obtain ⟨t,ht,rfl⟩:=List.mem_iff_getElem.1 hl;have htx:t<x.length:=by rw [<-hM.len];exact ht
 have el:P[t]=Go.Am.thr P t:=by have:=hget t htx;rw [zp1 ht] at this;exact Option.some.inj this
 rw [el];obtain ⟨A,e1,e2,e3⟩:=hM.thd t htx;have h4:=hv.l4 t;unfold b2m;simp only [zp4,decide_eq_true_eq,List.all_eq_true];refine ⟨⟨?_,fun c hc => ?_⟩,by rw [hwk t htx];exact h4⟩
 ·rw [e2,b4A,e1];cases hb:(thX x t).length with
  | zero=>simp [psW]
  | succ b =>
    have hq:qF y t (0+b)=false:=by
     unfold qF;rw [decide_eq_false_iff_not];intro h;have:=(hok _ h).2.2.2;simp at this;omega
    rw [show psW (qF y t) 0 (b+1)=psW (qF y t) 0 b+1+(if qF y t (0+b) then 1 else 0) from rfl,hq]
    have:=b7w (qF y t) 0 b;simp;omega
 rw [e2] at hc;rcases b4B (qF y t) A 0 hc with h | rfl
 ·obtain ⟨i,hi,rfl⟩:=List.mem_iff_getElem.1 h;exact (e3 i _ (zp1 hi)).2.2
 rfl
theorem c1q {x:Ax} (hv:VX x) : ∃ r:List (Int×Int),r.length=allX x/\N27 Ar.std (eA x)=some (eF r):=by
 have hn3:=hv.n3;have inner : ∀ (t:Nat) (z:List (Int×Int)),z.length<=100 -> ∃ z':List (Int×Int),z'.length=z.length+(thX x t).length/\iter (b1G Ar.std (t:Int) (eAs (thX x t))) (eF z,0)=some (eF z'):=by
  intro t z hz;have h4:=hv.l4 t;have key:=a0x (step:=b1G Ar.std (t:Int) (eAs (thX x t))) (thX x t).length (fun (u:List (Int×Int)) (i:Nat)=>(eF u,(i:Int))) (fun i u=>u.length=z.length+i) (fun u=>eF u)
   (fun i u hi hR=>by
    refine ⟨u++[((t:Int),(i:Int))],by simp;omega,?_⟩;unfold b1G;refine cnT (by simp;omega) (bt (b4y ((t:Int),(i:Int)) (by omega)) ?_);rw [wS (by omega)])
   (fun u _=>by
    unfold b1G;exact cnF (by simp) rfl) z (by simp)
  exact key
 have key:=a0x (step:=b1H Ar.std (eA x)) x.length (fun (u:List (Int×Int)) (i:Nat)=>(eF u,(i:Int))) (fun i u=>u.length=((x.take i).map List.length).sum/\u.length<=4*i) (fun u=>eF u)
  (fun i u hi hR=>by
   obtain ⟨z',h1,h2⟩:=inner i u (by omega);have h4:=hv.l4 i;refine ⟨z',⟨?_,by omega⟩,?_⟩
   ·rw [a0g (a0S hi)];simp only [List.map_append,List.map_cons,List.map_nil,List.sum_append,List.sum_cons,List.sum_nil];omega
   unfold b1H;refine cnT (by simp;omega) (bt (a2R (a0S hi)) (bt h2 ?_));rw [wS (by omega)])
  (fun u _=>by
   unfold b1H;exact cnF (by simp) rfl) [] ⟨by simp,by simp⟩
 obtain ⟨r,⟨h1,_⟩,h⟩:=key;rw [List.take_length] at h1;exact ⟨r,h1,by unfold N27;exact bt (show iter (b1H Ar.std (eA x)) ([],0)=_ from h) rfl⟩
def okN (x:Ax) (l:List S3) (s:S3):Bool:=match l.getLast? with | some u=>cfX x u.1 u.2.2 s.1 s.2.1 | none=>true
def a6v (x:Ax) (l:List S3):Nat:=if (decide (2<=l.length)&&a1z x l)=true then 1 else 0
def b9e (x:Ax) (St:List S3):Nat->List S3->Nat
 | 0,l=>a6v x l
 | k+1,l=>a6v x l+(St.map fun s=>if okN x l s=true then b9e x St k (l++[s]) else 0).sum
theorem wB {i:Nat} (h:i<=1000000):Ar.std.wrp .i64 (Ar.std.zadd (i:Int) 1)=((i+1:Nat):Int):=by
 simp only [a0j,a0u];rw [a2W _ (by omega) (by omega)];rfl
theorem b9f {x:Ax} (hv:VX x) {St:List S3} (hSt : ∀ s∈St,a4J x s) (hSl:St.length<=48) :
  ∀ (k n:Nat) (l:List S3) (c:Nat),l.length+k=3->(∀ s∈l,a4J x s)->c+b9e x St k l<=1000000->b6F Ar.std (n+k+1) (eSt l) (c:Int) (eA x) (eSt St)=some (true,((c+b9e x St k l:Nat):Int)):=by
 have hself : ∀ (l:List S3) (c:Nat),l.length<=3->(∀ s∈l,a4J x s)->c<=1000000 ->
   ((bif (Ar.std.zle 2 (Ar.std.len (eSt l))) then
     (b6E Ar.std (eA x) (eSt l)).bind fun r7 =>
     bif r7 then
      (
       some (Ar.std.wrp .i64 (Ar.std.zadd (c:Int) 1))).bind (fun v11 =>
      some v11)
     else
      some (c:Int)
   else
    some (c:Int):Option (Int)))=some ((c+a6v x l:Nat):Int):=by
  intro l c hl hs hc;have el:Ar.std.len (eSt l)=(l.length:Int):=a0v l;unfold a6v;by_cases h2:2<=l.length
  ·have e82:=a9M hv hl hs;cases hcb:a1z x l with
   | true =>
     rw [hcb] at e82;refine cnT (by rw [el];simp;omega) (bt e82 (cnT rfl ?_));rw [wB hc];simp [h2]
   | false =>
     rw [hcb] at e82;exact cnT (by rw [el];simp;omega) (bt e82 (cnF rfl (by simp)))
  exact cnF (by rw [el];simp;omega) (by simp [h2])
 intro k
 induction k with
 | zero =>
   intro n l c hk hl hc;have el:Ar.std.len (eSt l)=(l.length:Int):=a0v l;show b7I Ar.std (b6F Ar.std n) (eSt l) (c:Int) (eA x) (eSt St)=_;unfold b7I;refine bt (hself l c (by omega) hl (by omega)) (cnT ?_ rfl);rw [el];show decide ((l.length:Int)=3)=true;rw [decide_eq_true_eq];omega
 | succ k ih =>
   intro n l c hk hl hc;have el:Ar.std.len (eSt l)=(l.length:Int):=a0v l;show b7I Ar.std (b6F Ar.std (n+k+1)) (eSt l) (c:Int) (eA x) (eSt St)=_;let g:S3->Nat:=fun s=>if okN x l s=true then b9e x St k (l++[s]) else 0
   have hcnt:b9e x St (k+1) l=a6v x l+(St.map g).sum:=rfl;have hpre : ∀ i,((St.take i).map g).sum<=(St.map g).sum:=by
    intro i
    conv=>rhs;rw [<-List.take_append_drop i St,List.map_append,List.sum_append]
    omega
   have key:=a0x (step:=b1o Ar.std (eSt l) (eA x) (eSt St) (b6F Ar.std (n+k+1))) St.length (fun (_:Unit) (i:Nat)=>((i:Int),((c+a6v x l+((St.take i).map g).sum:Nat):Int))) (fun _ _=>True)
    (fun _=>(Sum.inl ((c+a6v x l+(St.map g).sum:Nat):Int):Int⊕Int))
    (fun i _ hi _=>by
     refine ⟨(),trivial,?_⟩;have hz:=zp1 hi;generalize St[i]=s at hz;have hsO:a4J x s:=hSt s (List.mem_of_getElem? hz);have hsum:((St.take (i+1)).map g).sum=((St.take i).map g).sum+g s:=by
      rw [a0g hz];simp
     have hle:=hpre (i+1);rw [hsum] at hle
     have hb1:((bif (Ar.std.zlt 0 (Ar.std.len (eSt l))) then
       (gt Ar.std (cG (lc (cI .i64) (lc (cI .i64) (l1 (cI .i64))))) (eSt l) (Ar.std.wrp .i64 (Ar.std.zsub (Ar.std.len (eSt l)) 1))).bind fun (a70,a71,a72) =>
       (N84 Ar.std a70 a71 a72).bind fun (r77,r78) =>
       (N85 Ar.std (s.1:Int) (s.2.1:Int) (s.2.2:Int)).bind fun (r80,r81) =>
       (b4S Ar.std (eA x) r77 r78 r80 r81).bind fun r83 =>
       some (!r83)
      else
       some false:Option (Bool)))=some (!okN x l s):=by
      unfold okN;by_cases hl0:0<l.length
      ·have hlast:l[l.length-1]?=some (l[l.length-1]'(by omega)):=zp1 _;have hgl:l.getLast?=some (l[l.length-1]'(by omega)):=by rw [List.getLast?_eq_getElem?];exact hlast
       generalize l[l.length-1]'(by omega)=u at hlast hgl;have huO:=hl u (List.mem_of_getElem? hlast);have ei:Ar.std.wrp .i64 (Ar.std.zsub (Ar.std.len (eSt l)) 1)=((l.length-1:Nat):Int):=by
        rw [el];simp only [a0j,a0A];rw [a2W _ (by omega) (by omega)];omega
       rw [hgl,ei];exact cnT (by rw [el];simp;omega) (bt (a1y hlast) (bt rfl (bt rfl (bt (a9I huO.2.1 hsO.1) rfl))))
      have hln:l=[]:=List.eq_nil_of_length_eq_zero (by omega);subst hln;exact cnF (by rw [el];simp) rfl
     unfold b1o jn;refine cnT (by rw [a0v];simp;omega) (bt (a1y hz) (bt hb1 ?_));cases hok:okN x l s with
     | false =>
       have hg:g s=0:=by simp only [g,hok];rfl
       refine cnT rfl ?_;rw [wS (by omega),hsum,hg]
       rfl
     | true =>
       have hg:g s=b9e x St k (l++[s]):=by simp only [g,hok];rfl
       have hih:=ih n (l++[s]) (c+a6v x l+((St.take i).map g).sum) (by simp;omega) (fun u hu=>by
        rcases List.mem_append.1 hu with h | h
        ·exact hl u h
        simp at h;subst h;exact hsO) (by rw [<-hg];omega)
       have e1:sl Ar.std (eSt l) 0 (Ar.std.len (eSt l))=some (eSt l):=by
        rw [el,a8T (Nat.le_refl _),List.take_length]
       refine cnF rfl (bt e1 (bck (by simp) (bt (a8R s (by omega)) (bt hih (cnT rfl ?_)))));rw [wS (by omega),hsum,hg,Nat.add_assoc])
    (fun _ _=>by
     unfold b1o;rw [List.take_length];exact cnF (by rw [a0v];simp) rfl) () trivial
   obtain ⟨_,_,hit⟩:=key;rw [List.take_zero] at hit;unfold b7I;refine bt (hself l c (by omega) hl (by omega)) (cnF ?_ (bt (show iter (b1o Ar.std (eSt l) (eA x) (eSt St) (b6F Ar.std (n+k+1))) (0,((c+a6v x l:Nat):Int))=_ from hit) ?_))
   ·rw [el];show decide ((l.length:Int)=3)=false;rw [decide_eq_false_iff_not];omega
   rw [hcnt];show some (true,((c+a6v x l+(St.map g).sum:Nat):Int))=_;rw [Nat.add_assoc]
def x0:Ax:=[[(0,true),(1,false)],[(1,true),(0,false)]]
theorem c4h:vX x0=true:=by decide
theorem c3K:stX x0 x0.length=[(0,0,0),(0,0,1),(0,1,1),(1,0,0),(1,0,1),(1,1,1)]:=by decide
theorem b7x:b9e x0 [(0,0,0),(0,0,1),(0,1,1),(1,0,0),(1,0,1),(1,1,1)] 3 []=2:=by decide +kernel
theorem b9g:N6 Ar.std=some true:=by
 have hv:=VX.of c4h;have e':=b4u hv;rw [c3K] at e';have hst : ∀ s∈([(0,0,0),(0,0,1),(0,1,1),(1,0,0),(1,0,1),(1,1,1)]:List S3),a4J x0 s:=by
  intro s hs;simp only [List.mem_cons,List.not_mem_nil,or_false] at hs;unfold a4J a8Q;rcases hs with rfl | rfl | rfl | rfl | rfl | rfl <;> decide
 have hall:=b9f hv hst (by decide) 3 999996 [] 0 rfl (by simp) (by rw [b7x];decide);rw [b7x] at hall;have hx:eA x0=[(.list 2 [(.agg [(.int .i64 0),(.bool true)]),(.agg [(.int .i64 1),(.bool false)])]),(.list 2 [(.agg [(.int .i64 1),(.bool true)]),(.agg [(.int .i64 0),(.bool false)])])]:=rfl;have hshort:a2S x0:=by
  refine ⟨by decide,fun l hl => ?_⟩;simp only [x0,List.mem_cons,List.not_mem_nil,or_false] at hl;rcases hl with rfl | rfl <;> decide
 have e39:=b0K hshort;rw [c4h] at e39;have e47:N47 Ar.std (eA x0) 0=some 2:=by
  unfold N47;refine bt e' (bt (v:=(true,2)) ?_ rfl);unfold N81;rw [b3G];exact hall
 unfold N6;rw [<-hx];refine bt (v:=(2,0)) ?_ (bt (v:=true) rfl rfl);unfold N23;exact bt e39 (cnT rfl (bt e47 rfl))
theorem a7B {x:Ax} {t a:Nat} (h:a8Q x t a):b4Z Ar.std (eA x) (t:Int) (a:Int)=some true:=by
 have hl:Ar.std.len (eA x)=(x.length:Int):=by simp
 obtain ⟨h1,h2⟩:=h;unfold b4Z;refine bt (v:=true) (cnT (by simp) (cnT (by rw [hl];simp;omega) (cnT (by simp) (bt (a2R (a0S h1)) ?_)))) rfl;rw [a0K];simp;omega
theorem b4C {x:Ax} {s:S3} (h:a8Q x s.1 s.2.1) (h':a8Q x s.1 s.2.2):b6M Ar.std (eA x) (s.1:Int) (s.2.1:Int) (s.2.2:Int)=some (prB x s):=by
 unfold b6M;refine bt (v:=prB x s) (bt (a7B h) (cnT rfl (bt (a7B h') (cnT rfl ?_)))) rfl;unfold prB;have g1:=a0B (c:=cAc) (a3X h.2);have g2:=a0B (c:=cAc) (a3X h'.2);generalize acX x s.1 s.2.1=p at g1 ⊢;generalize acX x s.1 s.2.2=q at g2 ⊢;by_cases hlt:s.2.1<s.2.2
 ·refine cnT (by simp;omega) (bt (a2R (a0S h.1)) (bt g1 (bt g2 ?_)));simp [hlt,Ar.std]
 exact cnF (by simp;omega) (by simp [hlt])
theorem a9N {x:Ax} {t a u b:Nat} (h:a8Q x t a) (h':a8Q x u b):b7K Ar.std (eA x) (t:Int) (a:Int) (u:Int) (b:Int)=some (cfX x t a u b):=by
 unfold b7K;refine bt (v:=cfX x t a u b) ?_ rfl;unfold cfX;have g1:=a0B (c:=cAc) (a3X h.2);have g2:=a0B (c:=cAc) (a3X h'.2);generalize acX x t a=p at g1 ⊢;generalize acX x u b=q at g2 ⊢;by_cases htu:t=u
 ·exact cnT (by simp [htu]) (by simp [htu])
 refine cnF (by simp;omega) (bt (a2R (a0S h.1)) (bt g1 (bt (a2R (a0S h'.1)) (bt g2 ?_))));obtain ⟨p1,p2⟩:=p;obtain ⟨q1,q2⟩:=q;dsimp only;by_cases hv:p1=q1
 ·refine cnT (by simp [hv]) ?_;cases p2 <;> simp [htu,hv]
 exact cnF (by simp [hv]) (by simp [htu,hv])
theorem b7y {x:Ax} (hv:VX x):N78 Ar.std (eA x)=some (eSt (a3o x)):=by
 have hn3:=hv.n3;have l0 : ∀ {t a:Nat} (ht:t<x.length) (ha:a<(thX x t).length) {L:List S3} (hL:L.length<=1000),
   iter (b1y Ar.std (eA x) (t:Int) (eAs (thX x t)) (a:Int)) (eSt L,0)=some (eSt (L++stA x t a ((thX x t).length-a))):=by
  intro t a ht ha L hL;have h4:=hv.l4 t;have key:=a0x (step:=b1y Ar.std (eA x) (t:Int) (eAs (thX x t)) (a:Int)) (thX x t).length (fun (_:Unit) (i:Nat)=>(eSt (L++stA x t a (i-a)),(i:Int))) (fun _ _=>True) (fun _=>eSt (L++stA x t a ((thX x t).length-a)))
   (fun i _ hi _=>by
    refine ⟨(),trivial,?_⟩;have hp:(bif Ar.std.zeq (a:Int) (i:Int) then some true else (b6M Ar.std (eA x) (t:Int) (a:Int) (i:Int)).bind fun r118=>some r118)=some (decide (a=i)||prB x (t,a,i)):=by
     by_cases h:a=i
     ·exact cnT (by simp;omega) (by rw [decide_eq_true h];rfl)
     exact cnF (by simp;omega) (bt (b4C (s:=(t,a,i)) ⟨ht,ha⟩ ⟨ht,hi⟩) (by rw [decide_eq_false h];rfl))
    have hs:stA x t a (i+1-a)=stA x t a (i-a)++(bif (decide (a=i)||prB x (t,a,i)) then [(t,a,i)] else []):=by
     by_cases hle:a<=i
     ·rw [show i+1-a=i-a+1 by omega];have e:a+(i-a)=i:=by omega
      unfold stA;rw [List.range_succ,List.filter_append,List.map_append];congr 1;simp only [List.filter_cons,List.filter_nil,e];cases h:(decide (a=i)||prB x (t,a,i)) <;> simp [e]
     rw [show i+1-a=i-a by omega];have:(decide (a=i)||prB x (t,a,i))=false:=by unfold prB;simp;omega
     rw [this];simp
    have hl:=a9J x t a (i-a);unfold b1y;refine cnT (by simp;omega) (bt hp (bt (v:=eSt (L++stA x t a (i+1-a))) ?_ (by rw [wS (by omega)])));rw [hs];cases hc:(decide (a=i)||prB x (t,a,i)) with
    | true=>exact cnT rfl (bt (a8R (t,a,i) (by simp;omega)) (by simp))
    | false=>exact cnF rfl (by simp))
   (fun _ _=>by
    unfold b1y;exact cnF (by simp) rfl) () trivial
  obtain ⟨_,_,h⟩:=key;have e0:stA x t a (0-a)=[]:=by rw [Nat.zero_sub];rfl
  rw [e0,List.append_nil] at h;exact h
 have l1 : ∀ {t:Nat} (ht:t<x.length) {L:List S3} (hL:L.length<=500),iter (b1z Ar.std (eA x) (t:Int) (eAs (thX x t))) (eSt L,0)=some (eSt (L++stT x t (thX x t).length)):=by
  intro t ht L hL;have h4:=hv.l4 t;have key:=a0x (step:=b1z Ar.std (eA x) (t:Int) (eAs (thX x t))) (thX x t).length (fun (_:Unit) (i:Nat)=>(eSt (L++stT x t i),(i:Int))) (fun _ _=>True) (fun _=>eSt (L++stT x t (thX x t).length))
   (fun i _ hi _=>by
    refine ⟨(),trivial,?_⟩;have hl:=a9K hv t i (by omega);unfold b1z;refine cnT (by simp;omega) (bt (l0 ht hi (L:=L++stT x t i) (by simp;omega)) ?_);have hs:stT x t (i+1)=stT x t i++stA x t i ((thX x t).length-i):=by
     unfold stT;rw [List.range_succ,List.flatMap_append];simp
    rw [wS (by omega),hs,List.append_assoc])
   (fun _ _=>by
    unfold b1z;exact cnF (by simp) rfl) () trivial
  obtain ⟨_,_,h⟩:=key;have e0:stT x t 0=[]:=rfl;rw [e0,List.append_nil] at h;exact h
 have key:=a0x (step:=b1A Ar.std (eA x)) x.length (fun (_:Unit) (i:Nat)=>(eSt (stX x i),(i:Int))) (fun _ _=>True) (fun _=>eSt (stX x x.length))
  (fun i _ hi _=>by
   refine ⟨(),trivial,?_⟩;have hl:=a7y hv i;unfold b1A;refine cnT (by simp;omega) (bt (a2R (a0S hi)) (bt (l1 hi (L:=stX x i) (by omega)) ?_));have hs:stX x (i+1)=stX x i++stT x i (thX x i).length:=by
    unfold stX;rw [List.range_succ,List.flatMap_append];simp
   rw [wS (by omega),hs])
  (fun _ _=>by
   unfold b1A;exact cnF (by simp) rfl) () trivial
 obtain ⟨_,_,h⟩:=key;unfold N78;exact bt (show iter (b1A Ar.std (eA x)) ([],0)=_ from h) rfl
theorem b9h {x:Ax} {s:S3} (h:a4J x s):prB x s = !decide (s.2.1=s.2.2):=by
 unfold prB;rcases h.2.2 with e | ⟨e1,e2⟩
 ·simp [e]
 simp [e1,e2];omega
def a9O (l:List S3) (i:Nat):Bool:=match l[i]? with | some s => !a3h (l.take i) s | none=>false
def a9P (x:Ax) (l:List S3) (i:Nat):Bool:=match l[i]?,l[(i+1)%l.length]? with | some s,some u=>cfX x s.1 s.2.2 u.1 u.2.1 | _,_=>false
theorem b6j (x:Ax) (l:List S3):a1z x l=((List.range l.length).all (a9O l)&&((List.range l.length).all (a9P x l)&&l.any (prB x))):=by
 have:(List.range l.length).all (a3l x l)=((List.range l.length).all (a9O l)&&(List.range l.length).all (a9P x l)):=by
  rw [Bool.eq_iff_iff,zp4];simp only [List.all_eq_true,List.mem_range];rw [<-forall_and];refine forall_congr' fun i => ?_;rw [<-imp_and];refine forall_congr' fun hi => ?_;have hz:=zp1 hi;have hw:=zp1 (show (i+1)%l.length<l.length from Nat.mod_lt _ (by omega));unfold a3l a9O a9P;rw [hz,hw,zp4,and_comm]
 unfold a1z;rw [this,Bool.and_assoc]
theorem b4D {x:Ax} {l:List S3} (h2:2<=l.length) (h3:l.length<=3) (hs : ∀ s∈l,a4J x s):b9t Ar.std (eA x) (eSt l)=some (a1z x l):=by
 have k0 : ∀ {m:List S3} (hm:m.length<=3) (s:S3),iter (a6y Ar.std (s.1:Int) (eSt m)) 0=some (bif a3h m s then .inr () else .inl ()):=by
  intro m hm s;refine a1T (step:=a6y Ar.std (s.1:Int) (eSt m)) m (fun u=>decide (u.1=s.1)) (.inr ()) (.inl ()) (fun i a ha hi => ?_) ?_
  ·unfold a6y;refine cnT (by rw [a0v];simp;omega) (bt (a1y ha) ?_);rw [wS (by omega)];have:Ar.std.zeq (a.1:Int) (s.1:Int)=decide (a.1=s.1):=by rw [a2i,decide_eq_decide];omega
   dsimp only;show (bif Ar.std.zeq (a.1:Int) (s.1:Int) then _ else _)=_
   rw [this];cases decide (a.1=s.1) <;> rfl
  unfold a6y;exact cnF (by rw [a0v];simp) rfl
 have k1:=a2g (step:=a5u Ar.std (eA x) (eSt l)) l.length (fun (b:Bool) i=>(b,(i:Int))) (fun i b=>b=(l.take i).any (prB x)/\(List.range i).all (a9O l)=true) (fun i r=>r = .inr ()/\(List.range l.length).all (a9O l)=false) (fun b => .inl b)
  (fun i b hi hR=>by
   obtain ⟨rfl,hg⟩:=hR;have hz:=zp1 hi;generalize l[i]=s at hz;have hsO:=hs s (List.mem_of_getElem? hz);have hsame:a9O l i = !a3h (l.take i) s:=by unfold a9O;rw [hz]
   have hz1:Ar.std.zeq (s.2.1:Int) (s.2.2:Int)=decide (s.2.1=s.2.2):=by rw [a2i,decide_eq_decide];omega
   have e1:((b4Z Ar.std (eA x) (s.1:Int) (s.2.1:Int)).bind fun r57 =>
    bif r57 then
     bif (Ar.std.zeq (s.2.1:Int) (s.2.2:Int)) then some false
     else (b6M Ar.std (eA x) (s.1:Int) (s.2.1:Int) (s.2.2:Int)).bind fun r61=>some (!r61)
    else some true)=some false:=by
    refine bt (a7B hsO.1) (cnT rfl ?_);rw [hz1];cases hd:decide (s.2.1=s.2.2) with
    | true=>rfl
    | false=>exact cnF rfl (bt (b4C hsO.1 hsO.2.1) (by rw [b9h hsO,hd];rfl))
   have e2:(bif (l.take i).any (prB x) then some true else some (!(Ar.std.zeq (s.2.1:Int) (s.2.2:Int))):Option Bool)=some ((l.take (i+1)).any (prB x)):=by
    rw [hz1,a0g hz,List.any_append];cases (l.take i).any (prB x) with
    | true=>rfl
    | false=>simp [b9h hsO]
   unfold a5u;dsimp only;cases hb:a3h (l.take i) s with
   | true =>
     refine .inr ⟨.inr (),⟨rfl,?_⟩,cnT (by rw [a0v];simp;omega) (bt (a1y hz) (bt e1 (cnF rfl (bt e2 (bt (a8T (by omega)) (bt (k0 (by simp;omega) s) ?_))))))⟩
     ·rw [Bool.eq_false_iff];intro h;rw [List.all_eq_true] at h;have:=h i (by simpa using hi);rw [hsame,hb] at this;cases this
     rw [hb];rfl
   | false =>
     refine .inl ⟨(l.take (i+1)).any (prB x),⟨rfl,?_⟩,cnT (by rw [a0v];simp;omega) (bt (a1y hz) (bt e1 (cnF rfl (bt e2 (bt (a8T (by omega)) (bt (k0 (by simp;omega) s) ?_))))))⟩
     ·rw [List.range_succ,List.all_append,hg];simp [hsame,hb]
     rw [hb,wS (by omega)];rfl)
  (fun b hb=>by
   unfold a5u;dsimp only;exact cnF (by rw [a0v];simp) rfl) false ⟨by simp,by simp⟩
 have k2:=a2g (step:=a5v Ar.std (eA x) (eSt l)) l.length (fun (_:Unit) i=>(i:Int)) (fun i _=>(List.range i).all (a9P x l)=true) (fun i r=>r = .inr ()/\(List.range l.length).all (a9P x l)=false) (fun _ => .inl ())
  (fun i _ hi hg=>by
   have hz:=zp1 hi;generalize l[i]=s at hz;have hj:(i+1)%l.length<l.length:=Nat.mod_lt _ (by omega);have hw:=zp1 hj;generalize l[(i+1)%l.length]=u at hw;have hsO:=hs s (List.mem_of_getElem? hz);have huO:=hs u (List.mem_of_getElem? hw);have er:Ar.std.rem (Ar.std.wrp .i64 (Ar.std.zadd (i:Int) 1)) (Ar.std.len (eSt l))=(((i+1)%l.length:Nat):Int):=by
    rw [wS (by omega),a0v];rfl
   have hn:a9P x l i=cfX x s.1 s.2.2 u.1 u.2.1:=by unfold a9P;rw [hz,hw]
   unfold a5v;cases hc:cfX x s.1 s.2.2 u.1 u.2.1 with
   | true =>
     refine .inl ⟨(),?_,cnT (by rw [a0v];simp;omega) (bt (a1y hz) (bnk (b6g (by omega)) ?_))⟩
     ·rw [List.range_succ,List.all_append,hg];simp [hn,hc]
     rw [er];refine bt (a1y hw) (bt (a9N hsO.2.1 huO.1) ?_);rw [hc,wS (by omega)];rfl
   | false =>
     refine .inr ⟨.inr (),⟨rfl,?_⟩,cnT (by rw [a0v];simp;omega) (bt (a1y hz) (bnk (b6g (by omega)) ?_))⟩
     ·rw [Bool.eq_false_iff];intro h;rw [List.all_eq_true] at h;have:=h i (by simpa using hi);rw [hn,hc] at this;cases this
     rw [er];refine bt (a1y hw) (bt (a9N hsO.2.1 huO.1) ?_);rw [hc];rfl)
  (fun _ _=>by
   unfold a5v;exact cnF (by rw [a0v];simp) rfl) () (by simp)
 rw [b6j];unfold b9t;refine bt (v:=false) (cnF (by rw [a0v];simp;omega) (by rw [a0v];simp;omega)) (cnF rfl ?_);rcases k1 with ⟨b,⟨rfl,hg⟩,h⟩ | ⟨i,r,_,⟨rfl,hg⟩,h⟩
 ·rw [List.take_length] at h;rw [hg,Bool.true_and];refine bt (show iter (a5u Ar.std (eA x) (eSt l)) (false,0)=_ from h) ?_;rw [Sum.elim_inl];rcases k2 with ⟨_,hg2,h'⟩ | ⟨i,r,_,⟨rfl,hg2⟩,h'⟩
  ·rw [hg2,Bool.true_and];exact bt (show iter (a5v Ar.std (eA x) (eSt l)) 0=_ from h') rfl
  rw [hg2,Bool.false_and];exact bt (show iter (a5v Ar.std (eA x) (eSt l)) 0=_ from h') rfl
 rw [hg,Bool.false_and];exact bt (show iter (a5u Ar.std (eA x) (eSt l)) (false,0)=_ from h) rfl
theorem a2h {α β X:Type} {step:List D×Int->Option ((List D×Int)⊕X)} (l:List α) (g:α->List β) (en:List β->List D) (K B:Nat) (fin:List D->X) (hb : ∀ a∈l,(g a).length<=B)
  (hs : ∀ (i:Nat) a M,l[i]?=some a->i<l.length->M.length<=K+B*l.length->step (en M,(i:Int))=some (.inl (en (M++g a),((i+1:Nat):Int)))) (he : ∀ m,step (m,(l.length:Int))=some (.inr (fin m))) {M:List β} (hM:M.length<=K) :
  iter step (en M,0)=some (fin (en (M++l.flatMap g))):=by
 have hlen : ∀ i,i<=l.length->((l.take i).flatMap g).length<=B*i:=by
  intro i
  induction i with
  | zero=>simp
  | succ i ih =>
    intro hi;have h:=zp1 (show i<l.length by omega);have hm:=hb _ (zp6 (show i<l.length by omega));rw [a0g h,List.flatMap_append,List.length_append,Nat.mul_succ];have:=ih (by omega);simp only [List.flatMap_cons,List.flatMap_nil,List.append_nil];omega
 have key:=a0x (step:=step) l.length (fun (_:Unit) (i:Nat)=>(en (M++(l.take i).flatMap g),(i:Int))) (fun _ _=>True) (fun _=>fin (en (M++l.flatMap g)))
  (fun i _ hi _=>by
   refine ⟨(),trivial,?_⟩;have h:=zp1 hi;have h1:=hlen i (by omega);have h2:B*i<=B*l.length:=Nat.mul_le_mul_left _ (by omega);rw [hs i _ _ h hi (by rw [List.length_append];omega),a0g h,List.flatMap_append,List.append_assoc];simp)
  (fun _ _=>by rw [he,List.take_length]) () trivial
 obtain ⟨_,_,h⟩:=key;simpa using h
theorem b4E {α:Type} (p:α->Bool) : ∀ l:List α,(l.flatMap fun a=>bif p a then [a] else [])=l.filter p
 | []=>rfl
 | a::l=>by
   rw [List.flatMap_cons,b4E p l,List.filter_cons];cases p a <;> rfl
theorem a9Q {α:Type} (p:α->Bool) : ∀ (l:List α) (v:Bool),(l.foldl (fun v a=>v||p a) v)=(v||l.any p)
 | [],v=>by simp
 | a::l,v=>by rw [List.foldl_cons,a9Q p l,List.any_cons,Bool.or_assoc]
abbrev eC (cs:List (List S3)):List D:=cs.map fun l => .list 3 (eSt l)
theorem c1r {cs:List (List S3)} (l:List S3) (h:cs.length<4294967295):ap Ar.std (eC cs) [.list 3 (eSt l)]=some (eC (cs++[l])):=by
 rw [b6W (by simp;omega)];simp [eC]
theorem c3L {cs:List (List S3)} {i:Nat} {l:List S3} (h:cs[i]?=some l):gt Ar.std (cL 3) (eC cs) (i:Int)=some (eSt l):=by
 have:eC cs=enc (cL 3) (cs.map eSt):=by unfold eC enc;rw [List.map_map];rfl
 rw [this];exact a0B (by rw [List.getElem?_map,h];rfl)
def g3 (x:Ax) (r s q:S3):List (List S3):=bif a1z x [r,s,q] then [[r,s,q]] else []
def g2 (x:Ax) (r s:S3):List (List S3):=bif cfX x r.1 r.2.2 s.1 s.2.1 then (bif a1z x [r,s] then [[r,s]] else [])++(a3o x).flatMap (g3 x r s) else []
def g1 (x:Ax) (r:S3):List (List S3):=(a3o x).flatMap (g2 x r)
def a2T (x:Ax):List (List S3):=(a3o x).flatMap (g1 x)
theorem a6g {α β:Type} {l:List α} {g:α->List β} {B n:Nat} (hl:l.length<=n) (hb : ∀ a∈l,(g a).length<=B):(l.flatMap g).length<=B*n:=by
 induction l generalizing n with
 | nil=>simp
 | cons a l ih =>
   cases n with
   | zero=>simp at hl
   | succ n =>
     rw [List.flatMap_cons,List.length_append,Nat.mul_succ];have:=ih (n:=n) (by simpa using hl) (fun b h=>hb b (by simp [h]));have:=hb a (by simp);omega
section
variable {x:Ax} (hv:VX x)
include hv
theorem b7z (r s q:S3):(g3 x r s q).length<=1:=by unfold g3;cases a1z x [r,s,q] <;> simp
theorem b7A (r s:S3):(g2 x r s).length<=49:=by
 have h:=a6g (a2p hv) (g:=g3 x r s) (B:=1) (fun q _=>b7z hv r s q);unfold g2;cases cfX x r.1 r.2.2 s.1 s.2.1 with
 | false=>simp
 | true =>
   rw [cond_true,List.length_append];have:(bif a1z x [r,s] then [[r,s]] else []:List (List S3)).length<=1:=by cases a1z x [r,s] <;> simp
   omega
theorem b7B (r:S3):(g1 x r).length<=2352:=a6g (a2p hv) (g:=g2 x r) (B:=49) (fun s _=>b7A hv r s)
theorem b4F:(a2T x).length<=112896:=a6g (a2p hv) (g:=g1 x) (B:=2352) (fun s _=>b7B hv s)
theorem c1s:N77 Ar.std (eA x)=some (eC (a2T x)):=by
 have hl:=a2p hv;have hle:Ar.std.len (eSt (a3o x))=((a3o x).length:Int):=a0v _;have en : ∀ {m:List D},True:=trivial;have l0 : ∀ {r s:S3},a4J x r->a4J x s -> ∀ {M:List (List S3)},M.length<=150000->iter (b2u Ar.std (eA x) (eSt (a3o x)) (r.1:Int) (r.2.1:Int) (r.2.2:Int) (s.1:Int) (s.2.1:Int) (s.2.2:Int)) (eC M,0)=some (eC (M++(a3o x).flatMap (g3 x r s))):=by
  intro r s hr hs M hM;refine a2h (a3o x) (g3 x r s) eC 150000 1 (fun m=>m) (fun q _=>b7z hv r s q) (fun i q M hq hi hM => ?_) (fun m => ?_) hM
  ·have hqO:=a1m.1 (List.mem_of_getElem? hq);have e:=b4D (l:=[r,s,q]) (by simp) (by simp) (by simp only [List.mem_cons,List.not_mem_nil,or_false];rintro u (rfl | rfl | rfl) <;> assumption);unfold b2u;refine cnT (by rw [hle];simp;omega) (bt (a1y hq) (bt e (bt (v:=eC (M++g3 x r s q)) ?_ (by rw [wS (by omega)]))));unfold g3;cases a1z x [r,s,q] with
   | true=>exact cnT rfl (bt (c1r [r,s,q] (by omega)) rfl)
   | false=>exact cnF rfl (by simp)
  unfold b2u;exact cnF (by rw [hle];simp) rfl
 have l1 : ∀ {r:S3},a4J x r -> ∀ {M:List (List S3)},M.length<=140000->iter (b2v Ar.std (eA x) (eSt (a3o x)) (r.1:Int) (r.2.1:Int) (r.2.2:Int)) (eC M,0)=some (eC (M++g1 x r)):=by
  intro r hr M hM;refine a2h (a3o x) (g2 x r) eC 140000 49 (fun m=>m) (fun s _=>b7A hv r s) (fun i s M hq hi hM => ?_) (fun m => ?_) hM
  ·have hsO:=a1m.1 (List.mem_of_getElem? hq);have e:=b4D (l:=[r,s]) (by simp) (by simp) (by simp only [List.mem_cons,List.not_mem_nil,or_false];rintro u (rfl | rfl) <;> assumption);have hc:(bif Ar.std.zeq (r.1:Int) (s.1:Int) then some true else (b7K Ar.std (eA x) (r.1:Int) (r.2.2:Int) (s.1:Int) (s.2.1:Int)).bind fun r191=>some (!r191))=some (!cfX x r.1 r.2.2 s.1 s.2.1):=by
    by_cases h:r.1=s.1
    ·exact cnT (by simp [h]) (by unfold cfX;simp [h])
    exact cnF (by simp;omega) (bt (a9N hr.2.1 hsO.1) rfl)
   unfold b2v;refine cnT (by rw [hle];simp;omega) (bt (v:=eC (M++g2 x r s)) (bt (a1y hq) (bt hc ?_)) (by rw [wS (by omega)]));unfold g2;cases cfX x r.1 r.2.2 s.1 s.2.1 with
   | false=>exact cnT rfl (by simp)
   | true =>
     refine cnF rfl (bt e (bt (v:=eC (M++bif a1z x [r,s] then [[r,s]] else [])) ?_ (bt (l0 hr hsO ?_) ?_)))
     ·cases a1z x [r,s] with
      | true=>exact cnT rfl (bt (c1r [r,s] (by omega)) rfl)
      | false=>exact cnF rfl (by simp)
     ·rw [List.length_append];cases a1z x [r,s] <;> simp <;> omega
     rw [List.append_assoc];rfl
  unfold b2v;exact cnF (by rw [hle];simp) rfl
 have l2:iter (b2w Ar.std (eA x) (eSt (a3o x))) (eC [],0)=some (eC ([]++a2T x)):=by
  refine a2h (a3o x) (g1 x) eC 0 2352 (fun m=>m) (fun s _=>b7B hv s) (fun i r M hq hi hM => ?_) (fun m => ?_) (Nat.le_refl _)
  ·have hrO:=a1m.1 (List.mem_of_getElem? hq);unfold b2w;refine cnT (by rw [hle];simp;omega) (bt (a1y hq) (bt (l1 hrO (by omega)) ?_));rw [wS (by omega)]
  unfold b2w;exact cnF (by rw [hle];simp) rfl
 unfold N77;exact bt (b7y hv) (bt l2 rfl)
theorem b4G {s:S3}:(∃ l∈a2T x,s∈l)↔inC x s:=by
 unfold a2T g1;constructor
 ·rintro ⟨l,hl,hs⟩;obtain ⟨r,hr,hl⟩:=List.mem_flatMap.1 hl;obtain ⟨u,hu,hl⟩:=List.mem_flatMap.1 hl;have hr:=a1m.1 hr;have hu:=a1m.1 hu;unfold g2 at hl;cases hc:cfX x r.1 r.2.2 u.1 u.2.1 with
  | false=>rw [hc] at hl;cases hl
  | true =>
    rw [hc,cond_true] at hl;rcases List.mem_append.1 hl with hl | hl
    ·cases hb:a1z x [r,u] with
     | false=>rw [hb] at hl;cases hl
     | true =>
       rw [hb,cond_true,List.mem_singleton] at hl;subst hl;exact ⟨_,by simp only [List.mem_cons,List.not_mem_nil,or_false];rintro v (rfl | rfl) <;> assumption,by simp,by simp,hb,hs⟩
    obtain ⟨q,hq,hl⟩:=List.mem_flatMap.1 hl;have hq:=a1m.1 hq;unfold g3 at hl;cases hb:a1z x [r,u,q] with
    | false=>rw [hb] at hl;cases hl
    | true =>
      rw [hb,cond_true,List.mem_singleton] at hl;subst hl;exact ⟨_,by simp only [List.mem_cons,List.not_mem_nil,or_false];rintro v (rfl | rfl | rfl) <;> assumption,by simp,by simp,hb,hs⟩
 rintro ⟨l,h1,h2,h3,h4,h5⟩
 match l,h2,h3 with
 | [r,u],_,_ =>
   have hc:=a6d h4 (i:=0) (s:=r) (u:=u) rfl rfl;refine ⟨[r,u],List.mem_flatMap.2 ⟨r,a1m.2 (h1 r (by simp)),List.mem_flatMap.2 ⟨u,a1m.2 (h1 u (by simp)),?_⟩⟩,h5⟩;unfold g2;rw [hc,h4];simp
 | [r,u,q],_,_ =>
   have hc:=a6d h4 (i:=0) (s:=r) (u:=u) rfl rfl;refine ⟨[r,u,q],List.mem_flatMap.2 ⟨r,a1m.2 (h1 r (by simp)),List.mem_flatMap.2 ⟨u,a1m.2 (h1 u (by simp)),?_⟩⟩,h5⟩;unfold g2;rw [hc,cond_true];refine List.mem_append.2 (.inr (List.mem_flatMap.2 ⟨q,a1m.2 (h1 q (by simp)),?_⟩));unfold g3;rw [h4];simp
open Classical in
theorem c1t:N42 Ar.std (eA x)=some (eSt (a1u x)):=by
 have hl:=a2p hv;have hcl:=b4F hv;have hle:Ar.std.len (eSt (a3o x))=((a3o x).length:Int):=a0v _;let isP (p s:S3):Bool:=decide (s=p)&&decide (p.2.1<p.2.2);have l0 : ∀ (p:S3) {l:List S3},l.length<=100 -> ∀ v:Bool,iter (b1B Ar.std (p.1:Int) (p.2.1:Int) (p.2.2:Int) (eSt l)) (v,0)=some (v||l.any (isP p)):=by
  intro p l hl v;rw [<-a9Q];refine a8D (step:=b1B Ar.std (p.1:Int) (p.2.1:Int) (p.2.2:Int) (eSt l)) l (fun (v:Bool) (i:Nat)=>(v,(i:Int))) (fun v a=>v||isP p a) (fun v=>v) (fun i a v ha hi => ?_) (fun v => ?_) v
  ·unfold b1B;refine cnT (by rw [a0v];simp;omega) (bt (a1y ha) (bt (v:=v||isP p a) ?_ (by rw [wS (by omega)])));cases v with
   | true=>rfl
   | false =>
     refine cnF rfl ?_;have hd:Ar.std.deq [(.int .i64 (a.1:Int)),(.int .i64 (a.2.1:Int)),(.int .i64 (a.2.2:Int))] [(.int .i64 (p.1:Int)),(.int .i64 (p.2.1:Int)),(.int .i64 (p.2.2:Int))]=decide (a=p):=by
      rw [b8l,decide_eq_decide];obtain ⟨a1,a2,a3⟩:=a;obtain ⟨p1,p2,p3⟩:=p;simp;omega
     show (bif Ar.std.deq [(.int .i64 (a.1:Int)),(.int .i64 (a.2.1:Int)),(.int .i64 (a.2.2:Int))] [(.int .i64 (p.1:Int)),(.int .i64 (p.2.1:Int)),(.int .i64 (p.2.2:Int))] then _ else _)=_
     rw [hd];by_cases h:a=p
     ·refine cnT (by simp [h]) ?_;simp [isP,h]
     exact cnF (by simp [h]) (by simp [isP,h])
  unfold b1B;exact cnF (by rw [a0v];simp) rfl
 have l1 : ∀ (p:S3),iter (b1C Ar.std (eC (a2T x)) (p.1:Int) (p.2.1:Int) (p.2.2:Int)) (false,0)=some ((a2T x).any fun l=>l.any (isP p)):=by
  intro p;have h3 : ∀ l∈a2T x,l.length<=100:=fun l hl=>by
   unfold a2T g1 g2 g3 at hl;obtain ⟨r,_,hl⟩:=List.mem_flatMap.1 hl;obtain ⟨u,_,hl⟩:=List.mem_flatMap.1 hl;cases hc:cfX x r.1 r.2.2 u.1 u.2.1 with
   | false=>rw [hc] at hl;cases hl
   | true =>
     rw [hc,cond_true] at hl;rcases List.mem_append.1 hl with hl | hl
     ·cases hb:a1z x [r,u] with
      | false=>rw [hb] at hl;cases hl
      | true=>rw [hb,cond_true,List.mem_singleton] at hl;subst hl;simp
     obtain ⟨q,_,hl⟩:=List.mem_flatMap.1 hl;cases hb:a1z x [r,u,q] with
     | false=>rw [hb] at hl;cases hl
     | true=>rw [hb,cond_true,List.mem_singleton] at hl;subst hl;simp
  have hce:Ar.std.len (eC (a2T x))=((a2T x).length:Int):=by
   show ((eC (a2T x)).length:Int)=_;simp [eC]
  have:=a8D (step:=b1C Ar.std (eC (a2T x)) (p.1:Int) (p.2.1:Int) (p.2.2:Int)) (a2T x) (fun (v:Bool) (i:Nat)=>(v,(i:Int))) (fun v l=>v||l.any (isP p)) (fun v=>v) (fun i l v ha hi=>by
   unfold b1C;refine cnT (by rw [hce];simp;omega) (bt (c3L ha) (bt (l0 p (h3 l (List.mem_of_getElem? ha)) v) ?_));rw [wB (by omega)]) (fun v=>by
   unfold b1C;exact cnF (by rw [hce];simp) rfl) false
  rw [a9Q,Bool.false_or] at this;exact this
 have l2:iter (b2x Ar.std (eC (a2T x)) (eSt (a3o x))) (eSt [],0)=some (eSt ([]++(a3o x).flatMap fun p=>bif (a2T x).any fun l=>l.any (isP p) then [p] else [])):=by
  refine a2h (a3o x) _ eSt 0 1 (fun m=>m) (fun p _=>by cases (a2T x).any fun l=>l.any (isP p) <;> simp) (fun i p M hq hi hM => ?_) (fun m => ?_) (Nat.le_refl _)
  ·unfold b2x;refine cnT (by rw [hle];simp;omega) (bt (a1y hq) (bt (l1 p) (bt (v:=eSt (M++bif (a2T x).any fun l=>l.any (isP p) then [p] else [])) ?_ (by rw [wS (by omega)]))))
   cases (a2T x).any fun l=>l.any (isP p) with
   | true=>exact cnT rfl (bt (a8R p (by omega)) rfl)
   | false=>exact cnF rfl (by simp)
  unfold b2x;exact cnF (by rw [hle];simp) rfl
 have hf:((a3o x).flatMap fun p=>bif (a2T x).any fun l=>l.any (isP p) then [p] else [])=a1u x:=by
  rw [b4E];unfold a1u;rw [List.filter_filter];refine List.filter_congr fun p hp => ?_;have hO:=a1m.1 hp;have hpr:prB x p=decide (p.2.1<p.2.2):=by
   rw [b9h hO];rcases hO.2.2 with e | e
   ·rw [e];simp
   have:=e.1;rw [decide_eq_true this,decide_eq_false (by omega)];rfl
  rw [Bool.eq_iff_iff,zp4,decide_eq_true_eq,<-b4G hv,hpr,decide_eq_true_eq];simp only [List.any_eq_true,isP,zp4,decide_eq_true_eq];constructor
  ·rintro ⟨l,hl,s,hs,rfl,hlt⟩;exact ⟨⟨l,hl,hs⟩,hlt⟩
  rintro ⟨⟨l,hl,hs⟩,hlt⟩;exact ⟨l,hl,p,hs,rfl,hlt⟩
 rw [hf] at l2;unfold N42;exact bt (c1s hv) (bt (b7y hv) (bt l2 rfl))
end
def b4T (x:Ax) (t:Nat):List (Int×Int):=(List.range ((thX x t).length-1)).map fun (g:Nat)=>((t:Int),(g:Int))
def a3i (x:Ax):List (Int×Int):=(List.range x.length).flatMap (b4T x)
theorem b0P (x:Ax) (t:Nat):(b4T x t).length=(thX x t).length-1:=by unfold b4T;simp
theorem a4q {x:Ax} {f:Int×Int}:f∈a3i x↔okF x f:=by
 unfold a3i b4T okF;simp only [List.mem_flatMap,List.mem_range,List.mem_map];constructor
 ·rintro ⟨t,ht,g,hg,rfl⟩;exact ⟨by simp,by simpa using ht,by simp,by rw [Int.toNat_natCast];show (g:Int)+1<_;omega⟩
 rintro ⟨h1,h2,h3,h4⟩;exact ⟨f.1.toNat,by omega,f.2.toNat,by omega,by rw [Int.toNat_of_nonneg h1,Int.toNat_of_nonneg h3]⟩
def c5A (f g:Int×Int):Prop:=f.1<g.1\/(f.1=g.1/\f.2<g.2)
theorem a7C (x:Ax):(a3i x).Pairwise c5A:=by
 unfold a3i;rw [List.pairwise_flatMap];refine ⟨fun t _ => ?_,?_⟩
 ·unfold b4T;rw [List.pairwise_map];exact List.pairwise_lt_range.imp fun h => .inr ⟨rfl,by show (_:Int)<_;omega⟩
 refine List.pairwise_lt_range.imp fun {a b} h f hf g hg => ?_;unfold b4T at hf hg;obtain ⟨_,_,rfl⟩:=List.mem_map.1 hf;obtain ⟨_,_,rfl⟩:=List.mem_map.1 hg;exact .inl (by show (a:Int)<b;omega)
section
variable {x:Ax} (hv:VX x)
include hv
theorem a4r:(a3i x).length<=12:=by
 have h3:=hv.n3;have:=a6g (l:=List.range x.length) (g:=b4T x) (B:=4) (n:=3) (by simpa using h3) (fun t _=>by rw [b0P];have:=hv.l4 t;omega);exact this
theorem b0Q:N35 Ar.std (eA x)=some (eF (a3i x)):=by
 have hn3:=hv.n3;have l0 : ∀ {t:Nat} {M:List (Int×Int)},M.length<=50->iter (a7R Ar.std (t:Int) (eAs (thX x t))) (eF M,0)=some (eF (M++b4T x t)):=by
  intro t M hM;have h4:=hv.l4 t;have ez:Ar.std.zmax 0 (Ar.std.wrp .i64 (Ar.std.zsub (Ar.std.len (eAs (thX x t))) 1))=(((thX x t).length-1:Nat):Int):=by
   rw [a0K];simp only [a0j,a0A];rw [a2W _ (by omega) (by omega)];simp only [Ar.std];split <;> omega
  have e:b4T x t=(List.range ((thX x t).length-1)).flatMap fun (g:Nat)=>[((t:Int),(g:Int))]:=List.map_eq_flatMap;have:=a2h (step:=a7R Ar.std (t:Int) (eAs (thX x t))) (List.range ((thX x t).length-1)) (fun (g:Nat)=>[((t:Int),(g:Int))]) eF 50 1 (fun m=>m) (fun _ _=>by simp) (fun i g M hg hi hM=>by
   have hgi:g=i:=by rw [List.getElem?_range (by simpa using hi)] at hg;exact (Option.some.inj hg).symm
   subst hgi;have hi':g<(thX x t).length-1:=by simpa using hi
   unfold a7R;rw [ez];refine cnT (by simp;omega) (bt (b4y ((t:Int),(g:Int)) (by simp at hM;omega)) ?_);rw [wS (by omega)]) (fun m=>by
   unfold a7R;rw [ez];exact cnF (by simp) rfl) hM
  rw [this,e]
 have:=a2h (step:=a7S Ar.std (eA x)) (List.range x.length) (b4T x) eF 0 4 (fun m=>m) (fun t _=>by rw [b0P];have:=hv.l4 t;omega) (fun i t M hg hi hM=>by
  have hgi:t=i:=by rw [List.getElem?_range (by simpa using hi)] at hg;exact (Option.some.inj hg).symm
  subst hgi;have hi':t<x.length:=by simpa using hi
  unfold a7S;refine cnT (by simp;omega) (bt (a2R (a0S hi')) (bt (l0 (by simp at hM;omega)) ?_));rw [wS (by omega)]) (fun m=>by
  unfold a7S;exact cnF (by simp) rfl) (M:=[]) (Nat.le_refl _)
 unfold N35;exact bt (show iter (a7S Ar.std (eA x)) ([],0)=_ from this) rfl
theorem b7C:N19 Ar.std (eA x)=some (eF (a3i x)):=by
 rw [<-b0Q hv];have e0:b5a Ar.std=a7R Ar.std:=by
  funext a b c;unfold b5a a7R;have : ∀ z:Int,Ar.std.zmax z 0=Ar.std.zmax 0 z:=fun z=>by simp only [Ar.std];split <;> split <;> omega
  simp only [this]
 have e1:b5b Ar.std (eA x)=a7S Ar.std (eA x):=by
  funext c;unfold b5b a7S;rw [e0]
 unfold N19 N35;rw [e1]
def okY (x:Ax) (y:List (Int×Int)):Prop:=y.Sublist (a3i x)
theorem a4K {y:List (Int×Int)} (h:okY x y):y.length<=12:=Nat.le_trans h.length_le (a4r hv)
theorem c1u (hS:a2S x) (hvx:vX x=true) {y:List (Int×Int)} (hy:okY x y):N24 Ar.std (eA x) (eF y)=some (eF y,0):=by
 have hl:=a4K hv hy;have hfl:=a4r hv;have ha:=(a7C x).sublist hy;have key:=a0x (step:=b1F Ar.std (eF y) (eF (a3i x))) y.length (fun (_:Unit) (i:Nat)=>(eF (y.take i),(i:Int))) (fun _ _=>True) (fun _=>(.inl (eF y):List D⊕Unit))
  (fun i _ hi _=>by
   refine ⟨(),trivial,?_⟩;have hf:=zp1 hi;have hm:=hy.subset (zp6 hi);generalize hfe:y[i]=f at hf hm;obtain ⟨a,b⟩:=f;unfold b1F;refine cnT (by rw [a1s];simp;omega) (bt (a0B hf) (bt (v:=false) (bt (b7v (by omega) a b) ?_) (cnF rfl (bt (b4y (a,b) (by simp;omega)) ?_))))
   ·rw [decide_eq_true hm];by_cases h0:0<i
    ·have hp:=zp1 (show i-1<y.length by omega);have hlt:=List.pairwise_iff_getElem.1 ha (i-1) i (by omega) hi (by omega);rw [hfe] at hlt;generalize y[i-1]=g at hp hlt;obtain ⟨c,d⟩:=g;have ew:Ar.std.wrp .i64 (Ar.std.zsub (i:Int) 1)=((i-1:Nat):Int):=by simp only [a0j,a0A];rw [a2W _ (by omega) (by omega)];omega
     have hcm:ltL [c,d] [a,b]:=by
      rw [a5o];rcases hlt with h | ⟨h1,h2⟩
      ·exact .inl h
      exact .inr ⟨h1,by rw [a5o];exact .inl h2⟩
     refine cnT rfl (cnT (by simp;omega) ?_);rw [ew];refine bt (a0B hp) (bt (b4f (a:=[c,d]) (b:=[a,b]) (by simp) (by simp)) ?_);have:cmpL [c,d] [a,b]<0:=hcm;simp;omega
    exact cnT rfl (cnF (by simp;omega) rfl)
   rw [a0g hf,wS (by omega)])
  (fun _ _=>by
   unfold b1F;rw [List.take_length];exact cnF (by rw [a1s];simp) rfl) () trivial
 obtain ⟨_,_,h⟩:=key;have e39:=b0K hS;rw [hvx] at e39;unfold N24 N48;exact bt e39 (cnT rfl (bt (bt (b0Q hv) (bt (show iter (b1F Ar.std (eF y) (eF (a3i x))) ([],0)=_ from h) rfl)) (cnT rfl rfl)))
theorem c3M (hS:a2S x) (hvx:vX x=true) (h6:allX x<=6) {y:List (Int×Int)} (hy:okY x y) : ∃ P,Mk x (qF y) P/\VP P/\N8 Ar.std (eA x) (eF y)=some (eP P,0):=by
 have hl:=a4K hv hy;obtain ⟨P,hM,eP8⟩:=b9d hv (y:=y) (by omega);obtain ⟨r27,h27,e27⟩:=c1q hv;refine ⟨P,hM,VP.of (hM.valid hv h6 fun f hf=>a4q.1 (hy.subset hf)),?_⟩;unfold N8;exact bt (c1u hv hS hvx hy) (bt (v:=false) (cnT rfl (bt e27 (by rw [a1s,h27];simp;omega))) (bt (v:=0) (cnF rfl rfl) (cnT rfl (bt eP8 rfl))))
end
theorem b6k {o:List Int} (ho:o.length<4294967296):N46 Ar.std (a1f o) (a1f o)=some true:=by
 have:=a1T (step:=b2G Ar.std (a1f o) (a1f o)) o (fun _=>false) (.inr ()) (.inl ()) (fun i a ha hi=>by
  have ew:Ar.std.wrp .i64 (Ar.std.zadd (i:Int) 1)=((i+1:Nat):Int):=by simp only [a0j,a0u];exact a5g (n:=4294967296) (by omega) (by omega)
  unfold b2G;refine cnT (by simp [hi]) (bt (a0B ha) (bt (a0B ha) (cnT (by simp) ?_)));rw [ew];rfl) (by
  unfold b2G;exact cnF (by simp) rfl)
 have h0:(o.any fun _=>false)=false:=by simp
 rw [h0] at this;unfold N46;exact cnT (by simp) (bt this rfl)
theorem b0R {O:List (List Int)} (hO : ∀ o∈O,o.length<4294967296) (hl:O.length<4294967296):N20 Ar.std (a1d O) (a1d O)=some true:=by
 have:=a1T (step:=b2H Ar.std (a1d O) (a1d O)) O (fun _=>false) (.inr ()) (.inl ()) (fun i a ha hi=>by
  have ew:Ar.std.wrp .i64 (Ar.std.zadd (i:Int) 1)=((i+1:Nat):Int):=by simp only [a0j,a0u];exact a5g (n:=4294967296) (by omega) (by omega)
  unfold b2H;refine cnT (by rw [a4n];simp;omega) (bt (a2q (g:=a1f) ha) (bt (a2q (g:=a1f) ha) (bt (b6k (hO a (List.mem_of_getElem? ha))) (cnT rfl ?_))));rw [ew];rfl) (by
  unfold b2H;exact cnF (by rw [a4n];simp) rfl)
 have h0:(O.any fun _=>false)=false:=by simp
 rw [h0] at this;unfold N20;exact cnT (by simp) (bt this rfl)
theorem c1v {x:Ax} (hv:VX x) (hS:a2S x) (hvx:vX x=true) (h6:allX x<=6) : ∃ O:List (List Int),((∀ o∈O,o.length<4294967296)/\O.length<4294967296) /\ ∀ y,okY x y->(a1u x).all (a8V y)=true->N18 Ar.std (eA x) (eF y)=some (a1d O,0):=by
 have one : ∀ y,okY x y->(a1u x).all (a8V y)=true -> ∃ P O,Mk x (qF y) P/\VP P/\IsO 1 P O/\((∀ o∈O,o.length<4294967296)/\O.length<4294967296)/\N18 Ar.std (eA x) (eF y)=some (a1d O,0):=by
  intro y hy hen;obtain ⟨P,hM,hvp,e8⟩:=c3M hv hS hvx h6 hy;obtain ⟨O1,i1,e1⟩:=c1c hvp (k:=1) (.inl rfl);obtain ⟨O3,i3,e3⟩:=c1c hvp (k:=3) (.inr rfl);have hnc:NC P:=hM.nc (fun l s h1 h2 h3 h4 h5 h6=>by
   rw [List.all_eq_true] at hen;have hh:=hen s (a6e.2 ⟨h1 s h5,h6,l,h1,h2,h3,h4,h5⟩);unfold a8V at hh;rw [List.any_eq_true] at hh;obtain ⟨⟨f1,f2⟩,hf,hh⟩:=hh;simp only [zp4,decide_eq_true_eq] at hh;obtain ⟨g1,g2,g3⟩:=hh;refine ⟨f2.toNat,by omega,by omega,?_⟩;unfold qF;rw [decide_eq_true_eq,<-g1,show ((f2.toNat:Nat):Int)=f2 by omega];exact hf)
  have q31:O3=O1:=a8L i3.ss i1.ss (fun o=>(i3.mem o).trans ⟨fun h=>(i1.mem o).2 (c1g (by rw [hM.len];exact hv.n3) hnc h),fun h=>((i1.mem o).1 h).up⟩);subst q31;have hlen:=i3.len;have hoo : ∀ o∈O3,o.length<4294967296:=fun o ho=>by have:=(((i3.mem o).1 ho).len (.inr rfl) hvp).1;omega
  have hne:O3≠[]:=by
   obtain ⟨o,ho⟩:=b0H (.inl rfl) hvp;exact fun h=>by have:=(i1.mem o).2 ho;rw [h] at this;cases this
  have hpos:0<O3.length:=List.length_pos_iff.2 hne;refine ⟨P,O3,hM,hvp,i1,⟨hoo,by omega⟩,?_⟩;unfold N18;exact bt e8 (bt e1 (bt e3 (bt (v:=false) (cnT rfl (cnT rfl (cnT rfl (bt (b0R hoo (by omega)) (cnT rfl (by rw [a4n];simp;omega)))))) (cnF rfl rfl))))
 by_cases hex : ∃ y,okY x y/\(a1u x).all (a8V y)=true
 ·obtain ⟨y,h1,h2⟩:=hex;obtain ⟨P,O,hM,hvp,i1,hb,e⟩:=one y h1 h2;refine ⟨O,hb,fun y' h1' h2' => ?_⟩;obtain ⟨P',O',hM',hvp',i1',hb',e'⟩:=one y' h1' h2';have hacts : ∀ {P:Pg},VP P -> ∀ l∈P,∀ a∈l,a6m a=true:=fun h=>b8R (VP.to h);have:O'=O:=a8L i1'.ss i1.ss (fun o=>(i1'.mem o).trans (((b7s (hacts hvp')).trans (by rw [hM'.nf hM];exact (b7s (hacts hvp)).symm)).trans (i1.mem o).symm));rw [e',this]
 exact ⟨[],by simp,fun y h1 h2=>absurd ⟨y,h1,h2⟩ hex⟩
def b0S (c:List (List Int)) (t:Nat):List Int:=c.getD t []
def a1t (c:List (List Int)) (f:Int×Int):Int:=(b0S c f.1.toNat).getD f.2.toNat 0
def a1n (c:List (List Int)) (y:List (Int×Int)):Int:=(y.map (a1t c)).sum
def b4U (n:Int):Bool:=decide (1<=n)&&decide (n<=9)
structure Cst (x:Ax) (c:List (List Int)):Prop where
 len:c.length=x.length
 row : ∀ t,t<x.length->(b0S c t).length=(thX x t).length-1/\(b0S c t).all b4U=true
theorem a7D {c:List (List Int)} {t:Nat} (h:t<c.length):c[t]?=some (b0S c t):=by
 unfold b0S;rw [List.getD_eq_getElem?_getD,zp1 h];rfl
theorem a8W {c:List (List Int)} {t:Nat} {r:List Int} (h:c[t]?=some r):gt Ar.std (cL 1) (a1d c) (t:Int)=some (a1f r):=a2q (g:=a1f) h
section
variable {x:Ax} (hv:VX x)
include hv
theorem c1w {c:List (List Int)} (hc:c.length<9223372036854775808) : ∃ b,N11 Ar.std (eA x) (a1d c)=some b/\(b=true->Cst x c):=by
 have hn3:=hv.n3;have ex:Ar.std.len (eA x)=(x.length:Int):=by simp
 have ec:Ar.std.len (a1d c)=(c.length:Int):=a4n c;unfold N11;by_cases hl:c.length=x.length
 ·have l0 : ∀ {r:List Int},r.length<=20->iter (b1k Ar.std (a1f r)) 0=some (bif r.any (fun n => !b4U n) then .inr () else .inl ()):=by
   intro r hr;refine a1T (step:=b1k Ar.std (a1f r)) r (fun n => !b4U n) (.inr ()) (.inl ()) (fun i n hn hi => ?_) ?_
   ·unfold b1k;refine cnT (by simp;omega) (bt (a0B hn) (bt (v := !b4U n) ?_ ?_))
    ·unfold b4U;by_cases h1:n<1
     ·exact cnT (by simp [h1]) (by rw [decide_eq_false (by omega)];rfl)
     refine cnF (by simp [h1]) ?_;rw [decide_eq_true (by omega),Bool.true_and,<-decide_not];exact congrArg some (decide_eq_decide.2 (by omega))
    rw [wS (by omega)];cases b4U n <;> rfl
   unfold b1k;exact cnF (by simp) rfl
  have key:=a2g (step:=a9f Ar.std (eA x) (a1d c)) c.length (fun (_:Unit) i=>(i:Int)) (fun i _ => ∀ t,t<i->(b0S c t).length=(thX x t).length-1/\(b0S c t).all b4U=true) (fun _ r=>r = .inr ()) (fun _ => .inl ())
   (fun i _ hi hR=>by
    have hr:=a7D hi;have h4:=hv.l4 i;have ez:Ar.std.zmax (Ar.std.wrp .i64 (Ar.std.zsub (Ar.std.len (eAs (thX x i))) 1)) 0=(((thX x i).length-1:Nat):Int):=by
     rw [a0K];simp only [a0j,a0A];rw [a2W _ (by omega) (by omega)];simp only [Ar.std];split <;> omega
    unfold a9f;by_cases hq:(b0S c i).length=(thX x i).length-1
    ·cases ha:(b0S c i).any (fun n => !b4U n) with
     | true =>
       refine .inr ⟨.inr (),rfl,cnT (by rw [ec];simp;omega) (bt (a8W hr) (bt (a2R (a0S (by omega))) ?_))⟩;rw [ez];refine cnT (by simp [hq]) (bt (l0 (by omega)) ?_);rw [ha];rfl
     | false =>
       refine .inl ⟨(),fun t ht => ?_,cnT (by rw [ec];simp;omega) (bt (a8W hr) (bt (a2R (a0S (by omega))) ?_))⟩
       ·rcases Nat.lt_or_eq_of_le (Nat.le_of_lt_succ ht) with g | rfl
        ·exact hR t g
        exact ⟨hq,by rw [List.all_eq_not_any_not,ha];rfl⟩
       rw [ez];refine cnT (by simp [hq]) (bt (l0 (by omega)) ?_);rw [ha,wS (by omega)];rfl
    refine .inr ⟨.inr (),rfl,cnT (by rw [ec];simp;omega) (bt (a8W hr) (bt (a2R (a0S (by omega))) ?_))⟩;rw [ez];exact cnF (by simp;omega) rfl)
   (fun _ _=>by
    unfold a9f;exact cnF (by rw [ec];simp) rfl) () (fun t ht=>by omega)
  rcases key with ⟨_,hR,h⟩ | ⟨i,r,_,rfl,h⟩
  ·exact ⟨true,cnT (by rw [ec,ex];simp [hl]) (bt (show iter (a9f Ar.std (eA x) (a1d c)) 0=_ from h) rfl),fun _=>⟨hl,fun t ht=>hR t (by omega)⟩⟩
  exact ⟨false,cnT (by rw [ec,ex];simp [hl]) (bt (show iter (a9f Ar.std (eA x) (a1d c)) 0=_ from h) rfl),fun h=>by cases h⟩
 exact ⟨false,cnF (by rw [ec,ex];simp;omega) rfl,fun h=>by cases h⟩
variable {c:List (List Int)} (hC:Cst x c)
include hC
theorem b7D (hS:a2S x) (hvx:vX x=true):N32 Ar.std (eA x) (a1d c)=some 0:=by
 have hn3:=hv.n3;have hlen:=hC.len;have ex:Ar.std.len (eA x)=(x.length:Int):=by simp
 have ec:Ar.std.len (a1d c)=(c.length:Int):=a4n c;have e39:=b0K hS;rw [hvx] at e39;have l0 : ∀ {r:List Int},r.length<=20->r.all b4U=true->b9C Ar.std (a1f r)=some false:=by
  intro r hr ha;have:=a1T (step:=a7P Ar.std (a1f r)) r (fun _=>false) (.inr 0) (.inl ()) (fun i n hn hi=>by
   have h9:=List.all_eq_true.1 ha n (List.mem_of_getElem? hn);unfold a7P c1T;refine cnT (by simp;omega) (bt (a0B hn) (bt (v:=false) (bt (a8P _ _ _) ?_) (cnF rfl (by rw [wS (by omega)];rfl))));have:btw 1 n 9=true:=h9;rw [this];rfl) (by
   unfold a7P;exact cnF (by simp) rfl)
  have h0:(r.any fun _=>false)=false:=by simp
  rw [h0] at this;unfold b9C c1U;exact bt (v := -1) (bt this rfl) rfl
 have key:=a1T (step:=b2r Ar.std (eA x) (a1d c)) c (fun _=>false) (.inr ()) (.inl ()) (fun i r hr hi=>by
  obtain rfl:r=b0S c i:=by rw [a7D hi] at hr;exact (Option.some.inj hr).symm
  have h4:=hv.l4 i;obtain ⟨h1,h2⟩:=hC.row i (by omega);have ez:Ar.std.zmax 0 (Ar.std.wrp .i64 (Ar.std.zsub (Ar.std.len (eAs (thX x i))) 1))=(((thX x i).length-1:Nat):Int):=by
   rw [a0K];simp only [a0j,a0A];rw [a2W _ (by omega) (by omega)];simp only [Ar.std];split <;> omega
  unfold b2r;refine cnT (by rw [ec];simp;omega) (bt (a8W hr) (bt (v:=false) (cnF (by rw [ex];simp;omega) (bt (a2R (a0S (by omega))) ?_)) (cnF rfl (by rw [wS (by omega)];rfl))));rw [ez];exact cnT (by simp [h1]) (bt (l0 (by omega) h2) rfl)) (by
  unfold b2r;exact cnF (by rw [ec];simp) rfl)
 have h0:(c.any fun _=>false)=false:=by simp
 rw [h0] at key;unfold N32 N68;exact bt e39 (cnT rfl (bt (v:=true) (bt key (by rw [cond_false,Sum.elim_inl,ec,ex,hlen];simp)) (cnT rfl rfl)))
theorem a4s {f:Int×Int} (hf:f∈a3i x):gt Ar.std (cL 1) (a1d c) f.1=some (a1f (b0S c f.1.toNat))/\gt Ar.std (cI .i64) (a1f (b0S c f.1.toNat)) f.2=some (a1t c f)/\1<=a1t c f/\a1t c f<=9:=by
 obtain ⟨h1,h2,h3,h4⟩:=a4q.1 hf;have hlen:=hC.len;obtain ⟨r1,r2⟩:=hC.row f.1.toNat (by omega);have hg:=a8W (a7D (c:=c) (t:=f.1.toNat) (by omega));rw [Int.toNat_of_nonneg h1] at hg;have hj:f.2.toNat<(b0S c f.1.toNat).length:=by omega
 have hp:(b0S c f.1.toNat)[f.2.toNat]?=some (a1t c f):=by
  unfold a1t;rw [List.getD_eq_getElem?_getD,zp1 hj];rfl
 have hg2:=a0B (c:=cI .i64) hp;rw [Int.toNat_of_nonneg h3] at hg2;have h9:=List.all_eq_true.1 r2 _ (List.mem_of_getElem? hp);unfold b4U at h9;simp only [zp4,decide_eq_true_eq] at h9;exact ⟨hg,hg2,h9.1,h9.2⟩
theorem a9R : ∀ {y:List (Int×Int)},(∀ f∈y,f∈a3i x)->(y.length:Int)<=a1n c y/\a1n c y<=9*y.length
 | [],_=>by unfold a1n;simp
 | f::y,h=>by
   have h1:=a9R (y:=y) (fun g hg=>h g (by simp [hg]));obtain ⟨_,_,p1,p2⟩:=a4s hv hC (h f (by simp));unfold a1n at h1 ⊢;rw [List.map_cons,List.sum_cons,List.length_cons];omega
theorem b4H {y:List (Int×Int)} (hy:okY x y):N34 Ar.std (a1d c) (eF y)=some (a1n c y):=by
 have hl:=a4K hv hy;have hin : ∀ f∈y,f∈a3i x:=fun f hf=>hy.subset hf;have key:=a0x (step:=b1p Ar.std (a1d c) (eF y)) y.length (fun (_:Unit) (i:Nat)=>(a1n c (y.take i),(i:Int))) (fun _ _=>True) (fun _=>a1n c y)
  (fun i _ hi _=>by
   refine ⟨(),trivial,?_⟩;have hf:=zp1 hi;have hm:=hin _ (zp6 hi);generalize y[i]=f at hf hm;obtain ⟨g1,g2,p1,p2⟩:=a4s hv hC hm;obtain ⟨b1,b2⟩:=a9R hv hC (y:=y.take i) (fun f hf=>hin f (List.mem_of_mem_take hf));have htl:(y.take i).length<=12:=by simp;omega
   have hs:a1n c (y.take (i+1))=a1n c (y.take i)+a1t c f:=by unfold a1n;rw [a0g hf];simp
   have ew:Ar.std.wrp .i64 (Ar.std.zadd (a1n c (y.take i)) (a1t c f))=a1n c (y.take (i+1)):=by
    rw [hs];simp only [a0j,a0u];exact a2W _ (by omega) (by omega)
   unfold b1p;refine cnT (by rw [a1s];simp;omega) (bt (a0B hf) (bt g1 (bt g2 ?_)));rw [ew,wS (by omega)])
  (fun _ _=>by
   unfold b1p;rw [List.take_length];exact cnF (by rw [a1s];simp) rfl) () trivial
 obtain ⟨_,_,h⟩:=key;unfold N34;exact bt (show iter (b1p Ar.std (a1d c) (eF y)) (0,0)=_ from h) rfl
theorem c1x {y:List (Int×Int)} (hy:okY x y):N45 Ar.std (a1d c) (eF y)=some (a1n c y):=b4H hv hC hy
end
theorem b6l (l m:List (Int×Int)) (hl:l.length<=100) : ∃ r,N69 Ar.std (eF l) (eF m)=some r:=by
 have h108 : ∀ a b:Int,∃ r,b7J Ar.std [.int .i64 a,.int .i64 b]=some r:=by
  intro a b;by_cases ha:a=0
  ·subst ha;by_cases hb:b=0
   ·subst hb;unfold b7J;exact ⟨0,bt ((a1l (s':=1) rfl).trans ((a1l (s':=2) rfl).trans (a0w rfl))) rfl⟩
   unfold b7J;refine ⟨b,bt ((a1l (s':=1) rfl).trans (a0w (x := .inr b) ?_)) rfl⟩;unfold b0e;refine cnT rfl (bt (v:=b) rfl (cnF (by simp [hb]) rfl))
  unfold b7J;refine ⟨a,bt (a0w (x := .inr a) ?_) rfl⟩;unfold b0e;exact cnT rfl (bt (v:=a) rfl (cnF (by simp [ha]) rfl))
 have key:=a2g (step:=a4P Ar.std (eF l) (eF m)) l.length (fun (_:Unit) i=>(i:Int)) (fun _ _=>True) (fun _ _=>True) (fun _ => .inl ())
  (fun i s hi _=>by
   have hf:=zp1 hi;generalize l[i]=f at hf;obtain ⟨f1,f2⟩:=f;unfold a4P;by_cases hm:m.length<=i
   ·exact .inr ⟨_,trivial,cnT (by rw [a1s];simp;omega) (bt (a0B hf) (cnT (by rw [a1s];simp;omega) rfl))⟩
   have hg:=zp1 (show i<m.length by omega);generalize m[i]=g at hg;obtain ⟨g1,g2⟩:=g;obtain ⟨r,hr⟩:=h108 (a8I f1 g1) (a8I f2 g2);have e107:b9E Ar.std f1 f2 g1 g2=some r:=by unfold b9E;exact bt (b0C _ _) (bt (b0C _ _) (bt hr rfl))
   cases hz:Ar.std.zeq r 0 with
   | true=>exact .inl ⟨(),trivial,cnT (by rw [a1s];simp;omega) (bt (a0B hf) (cnF (by rw [a1s];simp;omega) (bt (a0B hg) (bt e107 (cnT hz (by rw [wS (by omega)]))))))⟩
   | false=>exact .inr ⟨_,trivial,cnT (by rw [a1s];simp;omega) (bt (a0B hf) (cnF (by rw [a1s];simp;omega) (bt (a0B hg) (bt e107 (cnF hz rfl)))))⟩)
  (fun s _=>by
   unfold a4P;exact cnF (by rw [a1s];simp) rfl) () trivial
 unfold N69 c2e;rcases key with ⟨_,_,h⟩ | ⟨i,x,_,_,h⟩
 ·refine ⟨bif Ar.std.zlt (Ar.std.len (eF l)) (Ar.std.len (eF m)) then -1 else 0,bt (bt (show iter (a4P Ar.std (eF l) (eF m)) 0=_ from h) ?_) rfl⟩
  rw [Sum.elim_inl];cases Ar.std.zlt (Ar.std.len (eF l)) (Ar.std.len (eF m)) <;> rfl
 cases x with
 | inl _ =>
   refine ⟨bif Ar.std.zlt (Ar.std.len (eF l)) (Ar.std.len (eF m)) then -1 else 0,bt (bt (show iter (a4P Ar.std (eF l) (eF m)) 0=_ from h) ?_) rfl⟩
   rw [Sum.elim_inl];cases Ar.std.zlt (Ar.std.len (eF l)) (Ar.std.len (eF m)) <;> rfl
 | inr z=>exact ⟨z,bt (bt (show iter (a4P Ar.std (eF l) (eF m)) 0=_ from h) rfl) rfl⟩
def pkL {α:Type} (i:Nat):Nat->List α->List α
 | _,[]=>[]
 | k,a::r=>bif i.testBit k then a::pkL i (k+1) r else pkL i (k+1) r
theorem b0T {α:Type} (i:Nat) (a:α) : ∀ (l:List α) (k:Nat),pkL i k (l++[a])=pkL i k l++(bif i.testBit (k+l.length) then [a] else [])
 | [],k=>by simp only [List.nil_append,pkL,List.length_nil,Nat.add_zero]
 | b::l,k=>by
   rw [List.cons_append];unfold pkL;rw [b0T i a l (k+1),List.length_cons,show k+1+l.length=k+(l.length+1) by omega];cases i.testBit k <;> rfl
theorem a4L {α:Type} (i:Nat) : ∀ (l:List α) (k:Nat),(pkL i k l).Sublist l
 | [],_ => .slnil
 | a::l,k=>by
   unfold pkL;cases i.testBit k with
   | true=>exact (a4L i l (k+1)).cons_cons a
   | false=>exact (a4L i l (k+1)).cons a
theorem a8X {α:Type} {i i':Nat} : ∀ (l:List α) (k:Nat),(∀ j,k<=j->i.testBit j=i'.testBit j)->pkL i k l=pkL i' k l
 | [],_,_=>rfl
 | a::l,k,h=>by
   unfold pkL;rw [h k (Nat.le_refl _),a8X l (k+1) (fun j hj=>h j (by omega))]
theorem a9S {α:Type} : ∀ (l S:List α) (k:Nat),S.Sublist l -> ∃ i,i<2 ^ (k+l.length)/\(∀ j,j<k->i.testBit j=false)/\pkL i k l=S
 | [],S,k,h=>by
   cases h;exact ⟨0,Nat.two_pow_pos _,fun _ _=>Nat.zero_testBit _,rfl⟩
 | a::l,S,k,h=>by
   cases h with
   | cons _ h =>
     obtain ⟨i,h1,h2,h3⟩:=a9S l S (k+1) h;refine ⟨i,by rw [List.length_cons,show k+(l.length+1)=k+1+l.length by omega];exact h1,fun j hj=>h2 j (by omega),?_⟩;unfold pkL;rw [h2 k (by omega),cond_false,h3]
   | cons_cons _ h =>
     rename_i S';obtain ⟨i,h1,h2,h3⟩:=a9S l S' (k+1) h;refine ⟨i ||| 2 ^ k,?_,fun j hj => ?_,?_⟩
     ·rw [List.length_cons,show k+(l.length+1)=k+1+l.length by omega];exact Nat.or_lt_two_pow h1 (Nat.pow_lt_pow_right (by decide) (by omega))
     ·rw [Nat.testBit_or,h2 j (by omega),Nat.testBit_two_pow];simp;omega
     unfold pkL;rw [Nat.testBit_or,Nat.testBit_two_pow_self,Bool.or_true,cond_true];congr 1;rw [<-h3];refine a8X l (k+1) (fun j hj => ?_);rw [Nat.testBit_or,Nat.testBit_two_pow];have : ¬ k=j:=by omega
     simp [this]
theorem b6m (a:Nat) (ha:a<2 ^ 62):a2I .and .i64 (a:Int) 1=((a &&& 1:Nat):Int):=by
 have bv : ∀ n:Nat,n<2 ^ 62->(BitVec.ofInt 64 (n:Int)).toNat=n:=fun n h=>by
  rw [BitVec.toNat_ofInt];simp;omega
 have h1:a &&& 1<=1:=Nat.and_le_right;show IntKind.i64.wrap ((BitVec.ofInt 64 (a:Int) &&& BitVec.ofInt 64 ((1:Nat):Int)).toNat:Int)=_;rw [BitVec.toNat_and,bv a ha,bv 1 (by decide)];exact a2W _ (by omega) (by omega)
theorem b9i (m i:Nat) (hm:m<2 ^ 62) (hi:i<=62):decide (a2I .and .i64 ((m:Int).fdiv (2 ^ (min ((i:Int).toNat) IntKind.i64.bits))) 1=1)=m.testBit i:=by
 have hb:IntKind.i64.bits=64:=rfl;have e:((m:Int).fdiv (2 ^ (min ((i:Int).toNat) IntKind.i64.bits)))=((m / 2 ^ i:Nat):Int):=by
  rw [hb,Int.toNat_natCast,Nat.min_eq_left (by omega),Int.fdiv_eq_ediv_of_nonneg _ (by exact Int.pow_nonneg (by decide))]
  push_cast;rfl
 have hlt:m / 2 ^ i<2 ^ 62:=Nat.lt_of_le_of_lt (Nat.div_le_self _ _) hm;rw [e,b6m _ hlt,Nat.testBit_eq_decide_div_mod_eq,Nat.and_one_is_mod];refine decide_eq_decide.2 ⟨fun h => ?_,fun h => ?_⟩ <;> omega
theorem b6n {r:List (Int×Int)} (hr:r.length<=12) (i:Nat) (hi:i<2 ^ 62):iter (b1q Ar.std (eF r) (i:Int)) ([],0)=some (eF (pkL i 0 r)):=by
 have key:=a2E (step:=b1q Ar.std (eF r) (i:Int)) r (fun pre=>pkL i 0 pre) (fun s k=>(eF s,(k:Int))) (fun s=>eF s)
  (fun k a ha hk=>by
   have hle:(pkL i 0 (r.take k)).length<=12:=Nat.le_trans (a4L i _ 0).length_le (by simp;omega);have hbit:Ar.std.zeq (Ar.std.bits .and .i64 (Ar.std.shr .i64 (i:Int) (k:Int)) 1) 1=i.testBit k:=b9i i k hi (by omega);have htk:(r.take k).length=k:=by simp;omega
   obtain ⟨a1,a2⟩:=a;unfold b1q;refine cnT (by rw [a1s];simp;omega) (bt (a0B ha) (bnk (by simp) (bt (v:=eF (pkL i 0 (r.take k++[(a1,a2)]))) ?_ (by rw [wS (by omega)]))));rw [hbit,b0T,Nat.zero_add,htk];cases i.testBit k with
   | true=>exact cnT rfl (bt (b4y (a1,a2) (by omega)) rfl)
   | false=>exact cnF rfl (by simp))
  (by
   unfold b1q;exact cnF (by rw [a1s];simp) rfl)
 exact key
section
variable {x:Ax} (hv:VX x) {c:List (List Int)} (hC:Cst x c)
include hv hC
noncomputable def enB (x:Ax) (y:List (Int×Int)):Bool:=(a1u x).all (a8V y)
theorem a6Q:enB x (a3i x)=true:=by
 unfold enB;rw [List.all_eq_true];intro s hs;obtain ⟨hO,hp,_⟩:=a6e.1 hs;unfold prB at hp;rw [zp4,decide_eq_true_eq] at hp;have h2:=hO.2.1.2;unfold a8V;rw [List.any_eq_true];refine ⟨((s.1:Int),(s.2.1:Int)),a4q.2 ⟨by simp,by have:=hO.1.1;simpa using this,by simp,?_⟩,?_⟩
 ·rw [Int.toNat_natCast];show (s.2.1:Int)+1<_;omega
 simp;omega
theorem c1y : ∃ S,okY x S/\enB x S=true/\(∀ S',okY x S'->enB x S'=true->a1n c S<=a1n c S')/\N33 Ar.std (eA x) (a1d c) (eSt (a1u x))=some (eF S):=by
 have hm:=a4r hv;have hR:=b4w hv;have hall:=a6Q hv hC;obtain ⟨r,hr⟩ : ∃ r,a3i x=r:=⟨_,rfl⟩;have e35:=b0Q hv;have hok : ∀ {y:List (Int×Int)},okY x y↔y.Sublist r:=by intro y;unfold okY;rw [hr]
 rw [hr] at hm hall e35;have h62:2 ^ r.length<=2 ^ 12:=Nat.pow_le_pow_right (by decide) hm;have h12:(2:Nat) ^ 12=4096:=by decide
 have h62':(2:Nat) ^ 62=4611686018427387904:=by decide
 have hpk : ∀ i,(pkL i 0 r).length<=12:=fun i=>Nat.le_trans (a4L i r 0).length_le hm;have hpo : ∀ i,okY x (pkL i 0 r):=fun i=>hok.2 (a4L i r 0);have hshl:Ar.std.shl .i64 1 (Ar.std.len (eF r))=((2 ^ r.length:Nat):Int):=by
  have hc:((2 ^ r.length:Nat):Int)=(2:Int) ^ r.length:=by push_cast;rfl
  rw [b8j,a1s,Int.toNat_natCast,show IntKind.i64.bits=64 from rfl,Nat.min_eq_left (by omega),Int.one_mul,<-hc];generalize 2 ^ r.length=q at h62;exact a2W _ (by omega) (by omega)
 have key:=a0x (step:=a9g Ar.std (a1d c) (eSt (a1u x)) (eF r)) (2 ^ r.length) (fun (s:List (Int×Int)×Int×Bool) i=>(eF s.1,s.2.1,s.2.2,(i:Int)))
  (fun i s=>(s.2.2=false -> ∀ j,j<i->enB x (pkL j 0 r)=false) /\
   (s.2.2=true->s.1.Sublist r/\enB x s.1=true/\s.2.1=a1n c s.1 /\ ∀ j,j<i->enB x (pkL j 0 r)=true->s.2.1<=a1n c (pkL j 0 r)))
  (fun s=>eF s.1)
  (fun i s hi ⟨hR0,hR1⟩=>by
   obtain ⟨best,co,fo⟩:=s;dsimp only at hR0 hR1 ⊢;have e34:=b4H hv hC (hpo i);have e25:N25 Ar.std (eF (pkL i 0 r)) (eSt (a1u x))=some (enB x (pkL i 0 r)):=c1o (by have:=hpk i;omega) (by omega);have hinc:Ar.std.wrp .i64 (Ar.std.zadd (i:Int) 1)=((i+1:Nat):Int):=by simp only [a0j,a0u];exact a5g hi (by omega)
   have pre : ∀ {q:List D×Int×Bool} {z},(bif enB x (pkL i 0 r) then
     (N34 Ar.std (a1d c) (eF (pkL i 0 r))).bind fun r95 =>
     ((bif fo then
       bif (Ar.std.zlt r95 co) then some (true,true)
       else bif (Ar.std.zeq r95 co) then (N69 Ar.std (eF (pkL i 0 r)) (eF best)).bind fun r100=>some (true,(Ar.std.zlt r100 0))
        else some (true,false)
       else some (false,true):Option (Bool×Bool))).bind fun (v101,v102) =>
     ((bif v102 then some (eF (pkL i 0 r),r95,true) else some (eF best,co,v101):Option (List D×Int×Bool))).bind fun (v105,v106,v107) =>
     some (v105,v106,v107)
    else some (eF best,co,fo))=some q->some (.inl (q.1,q.2.1,q.2.2,((i+1:Nat):Int)))=z->a9g Ar.std (a1d c) (eSt (a1u x)) (eF r) (eF best,co,fo,(i:Int))=z:=by
    intro q z h1 h2;unfold a9g;refine cnT (by rw [hshl];simp;exact_mod_cast hi) (bt (v:=q) (bt (b6n hm i (by omega)) (bt e25 h1)) ?_);dsimp only;rw [hinc];exact h2
   cases hen:enB x (pkL i 0 r) with
   | false =>
     rw [hen] at pre;refine ⟨(best,co,fo),⟨fun h j hj => ?_,fun h => ?_⟩,pre rfl rfl⟩
     ·rcases Nat.lt_succ_iff_lt_or_eq.1 hj with hj | rfl
      ·exact hR0 h j hj
      exact hen
     obtain ⟨a1,a2,a3,a4⟩:=hR1 h;refine ⟨a1,a2,a3,fun j hj hj2 => ?_⟩;rcases Nat.lt_succ_iff_lt_or_eq.1 hj with hj | rfl
     ·exact a4 j hj hj2
     rw [hen] at hj2;cases hj2
   | true =>
     rw [hen] at pre;have take : ∀ (old:fo=true->a1n c (pkL i 0 r)<=co),((fo:Bool)=fo) -> ∃ s':List (Int×Int)×Int×Bool,
       ((s'.2.2=false -> ∀ j,j<i+1->enB x (pkL j 0 r)=false)/\(s'.2.2=true->s'.1.Sublist r/\enB x s'.1=true/\s'.2.1=a1n c s'.1 /\ ∀ j,j<i+1->enB x (pkL j 0 r)=true->s'.2.1<=a1n c (pkL j 0 r)))/\s'=(pkL i 0 r,a1n c (pkL i 0 r),true):=fun old _=>by
      refine ⟨(pkL i 0 r,a1n c (pkL i 0 r),true),⟨fun h=>(by cases h),fun _=>⟨a4L i r 0,hen,rfl,fun j hj hj2 => ?_⟩⟩,rfl⟩;rcases Nat.lt_succ_iff_lt_or_eq.1 hj with hj | rfl
      ·cases fo with
       | false=>rw [hR0 rfl j hj] at hj2;cases hj2
       | true=>exact Int.le_trans (old rfl) ((hR1 rfl).2.2.2 j hj hj2)
      exact Int.le_refl _
     have keep:fo=true->co<=a1n c (pkL i 0 r) -> ∃ s':List (Int×Int)×Int×Bool,
       ((s'.2.2=false -> ∀ j,j<i+1->enB x (pkL j 0 r)=false)/\(s'.2.2=true->s'.1.Sublist r/\enB x s'.1=true/\s'.2.1=a1n c s'.1 /\ ∀ j,j<i+1->enB x (pkL j 0 r)=true->s'.2.1<=a1n c (pkL j 0 r)))/\s'=(best,co,true):=fun hvt old=>by
      obtain ⟨a1,a2,a3,a4⟩:=hR1 hvt;refine ⟨(best,co,true),⟨fun h=>(by cases h),fun _=>⟨a1,a2,a3,fun j hj hj2 => ?_⟩⟩,rfl⟩;rcases Nat.lt_succ_iff_lt_or_eq.1 hj with hj | rfl
      ·exact a4 j hj hj2
      exact old
     cases fo with
     | false =>
       obtain ⟨s',h1,rfl⟩:=take (fun h=>by cases h) rfl;exact ⟨_,h1,pre (cnT rfl (bt e34 (bt (v:=(false,true)) (cnF rfl rfl) (bt (v:=(eF (pkL i 0 r),a1n c (pkL i 0 r),true)) (cnT rfl rfl) rfl)))) rfl⟩
     | true =>
       cases h1:Ar.std.zlt (a1n c (pkL i 0 r)) co with
       | true =>
         obtain ⟨s',g1,rfl⟩:=take (fun _=>by rw [a0R,decide_eq_true_eq] at h1;omega) rfl;exact ⟨_,g1,pre (cnT rfl (bt e34 (bt (v:=(true,true)) (cnT rfl (cnT h1 rfl)) (bt (v:=(eF (pkL i 0 r),a1n c (pkL i 0 r),true)) (cnT rfl rfl) rfl)))) rfl⟩
       | false =>
         have h1':=h1;rw [a0R,decide_eq_false_iff_not] at h1';cases h2:Ar.std.zeq (a1n c (pkL i 0 r)) co with
         | false =>
           obtain ⟨s',g1,rfl⟩:=keep rfl (by omega);exact ⟨_,g1,pre (cnT rfl (bt e34 (bt (v:=(true,false)) (cnT rfl (cnF h1 (cnF h2 rfl))) (bt (v:=(eF best,co,true)) (cnF rfl rfl) rfl)))) rfl⟩
         | true =>
           have h2':=h2;rw [a2i,decide_eq_true_eq] at h2';obtain ⟨z,hz⟩:=b6l (pkL i 0 r) best (by have:=hpk i;omega);cases h3:Ar.std.zlt z 0 with
           | true =>
             obtain ⟨s',g1,rfl⟩:=take (fun _=>by omega) rfl;exact ⟨_,g1,pre (cnT rfl (bt e34 (bt (v:=(true,true)) (cnT rfl (cnF h1 (cnT h2 (bt hz (by rw [h3]))))) (bt (v:=(eF (pkL i 0 r),a1n c (pkL i 0 r),true)) (cnT rfl rfl) rfl)))) rfl⟩
           | false =>
             obtain ⟨s',g1,rfl⟩:=keep rfl (by omega);exact ⟨_,g1,pre (cnT rfl (bt e34 (bt (v:=(true,false)) (cnT rfl (cnF h1 (cnT h2 (bt hz (by rw [h3]))))) (bt (v:=(eF best,co,true)) (cnF rfl rfl) rfl)))) rfl⟩)
  (fun s _=>by
   unfold a9g;exact cnF (by rw [hshl];simp) rfl)
  ([],0,false) ⟨fun _ j hj=>absurd hj (Nat.not_lt_zero j),fun h=>(by cases h)⟩
 obtain ⟨s,⟨hR0,hR1⟩,hit⟩:=key;have hpick : ∀ S:List (Int×Int),S.Sublist r -> ∃ j,j<2 ^ r.length/\pkL j 0 r=S:=fun S hs=>by
  obtain ⟨j,h1,_,h3⟩:=a9S r S 0 hs;exact ⟨j,by simpa using h1,h3⟩
 have hvt:s.2.2=true:=by
  cases hf:s.2.2 with
  | true=>rfl
  | false =>
    obtain ⟨j,hj,e⟩:=hpick r (List.Sublist.refl r);have:=hR0 hf j hj;rw [e,hall] at this;cases this
 obtain ⟨a1,a2,a3,a4⟩:=hR1 hvt;refine ⟨s.1,hok.2 a1,a2,fun S' hs he => ?_,?_⟩
 ·obtain ⟨j,hj,rfl⟩:=hpick S' (hok.1 hs);rw [<-a3];exact a4 j hj he
 unfold N33;exact bt e35 (bnk (by rw [a1s];simp) (bt (show iter (a9g Ar.std (a1d c) (eSt (a1u x)) (eF r)) ([],0,false,0)=_ from hit) rfl))
theorem b6o {S:List (Int×Int)} (hS:S.length<=12):iter (b1r Ar.std (eF S)) ([],0)=some (eF S):=by
 have:=a2h (step:=b1r Ar.std (eF S)) S (fun f=>[f]) eF 0 1 (fun m=>m) (fun _ _=>by simp) (fun i f M hf hi hM=>by
  obtain ⟨a,b⟩:=f;unfold b1r;refine cnT (by rw [a1s];simp;omega) (bt (a0B hf) (bt (b4y (a,b) (by omega)) ?_));rw [wS (by omega)]) (fun m=>by
  unfold b1r;exact cnF (by rw [a1s];simp) rfl) (M:=[]) (Nat.le_refl _)
 rw [List.nil_append,List.flatMap_singleton'] at this;exact this
theorem b6p (hS:a2S x) (hvx:vX x=true) : ∃ S,okY x S/\enB x S=true/\(∀ S',okY x S'->enB x S'=true->a1n c S<=a1n c S') /\
  N12 Ar.std (eA x) (a1d c)=some (eF S,0)/\N13 Ar.std (eA x) (a1d c)=some (a1n c S,0):=by
 obtain ⟨S,h1,h2,h3,e33⟩:=c1y hv hC;have e32:=b7D hv hC hS hvx;refine ⟨S,h1,h2,h3,?_,?_⟩
 ·unfold N12;exact bt e32 (cnT rfl (bt (b0O hv) (bt e33 (bt (b6o hv hC (a4K hv h1)) rfl))))
 unfold N13;exact bt e32 (cnT rfl (bt (b0O hv) (bt e33 (bt (b4H hv hC h1) rfl))))
end
abbrev Fen:=Int×Int
abbrev Pr3:=Int×Int×Int
def a1e (f:Fen) (s:Pr3):Bool:=decide (f.1=s.1)&&(decide (s.2.1<=f.2)&&decide (f.2<s.2.2))
theorem a1b (f:Fen) (s:Pr3):a1e f s=true↔f.1=s.1/\s.2.1<=f.2/\f.2<s.2.2:=by
 unfold a1e;simp only [zp4,decide_eq_true_eq,and_assoc]
def a3Y {α:Type} (F:List α) (w:α->Int):Int:=(F.map w).sum
theorem b6q {α:Type} (w:α->Int):a3Y [] w=0:=rfl
theorem a0T {α:Type} (a:α) (F:List α) (w:α->Int):a3Y (a::F) w=w a+a3Y F w:=rfl
theorem a7E {α:Type} {F:List α} {w v:α->Int} (h : ∀ f∈F,w f<=v f):a3Y F w<=a3Y F v:=by
 induction F with
 | nil=>exact Int.le_refl _
 | cons a F ih =>
   rw [a0T,a0T];have h1:=h a (by simp);have h2:=ih fun f hf=>h f (by simp [hf]);omega
theorem a4M {α:Type} {F:List α} {w v:α->Int} (h : ∀ f∈F,w f=v f):a3Y F w=a3Y F v :=
 Int.le_antisymm (a7E fun f hf=>Int.le_of_eq (h f hf)) (a7E fun f hf=>Int.le_of_eq (h f hf).symm)
theorem b0U {α:Type} (F:List α) (w v:α->Int):a3Y F (fun f=>w f+v f)=a3Y F w+a3Y F v:=by
 induction F with
 | nil=>rfl
 | cons a F ih=>rw [a0T,a0T,a0T,ih];omega
theorem a8Y {α:Type} (F:List α):a3Y F (fun _=>0)=0:=by
 induction F with
 | nil=>rfl
 | cons a F ih=>rw [a0T,ih];rfl
theorem b4I {α:Type} [DecidableEq α] {F:List α} (hn:F.Nodup) {g:α} (hg:g∈F) (p:Int):a3Y F (fun f=>if f=g then p else 0)=p:=by
 induction F with
 | nil=>cases hg
 | cons a F ih =>
   rw [List.nodup_cons] at hn;rw [a0T];by_cases e:a=g
   ·subst e;rw [if_pos rfl];have:a3Y F (fun f=>if f=a then p else 0)=0 :=
     (a4M (v:=fun _=>0) fun f hf=>if_neg (fun h:f=a=>hn.1 (by rw [<-h];exact hf))).trans (a8Y F)
    omega
   rw [if_neg e];have hg':g∈F:=(List.mem_cons.1 hg).resolve_left fun h=>e h.symm;rw [ih hn.2 hg'];omega
theorem b6r {α:Type} [DecidableEq α] {S F:List α} (h:S.Sublist F) (hn:F.Nodup) (c:α->Int):(S.map c).sum=a3Y F (fun f=>if f∈S then c f else 0):=by
 induction h with
 | slnil=>rfl
 | cons a h ih =>
   rename_i S F;rw [List.nodup_cons] at hn;rw [a0T,if_neg fun hm=>hn.1 (h.subset hm),ih hn.2];omega
 | cons_cons a h ih =>
   rename_i S F;rw [List.nodup_cons] at hn;rw [a0T,if_pos (by simp),List.map_cons,List.sum_cons,ih hn.2];congr 1;refine a4M fun f hf => ?_;have hfa : ¬ f=a:=fun e=>hn.1 (e▸hf);by_cases hs:f∈S
   ·rw [if_pos hs,if_pos (by simp [hs])]
   rw [if_neg hs,if_neg (by simp [hs,hfa])]
def a5c (a:Int):Nat->List Int
 | 0=>[]
 | n+1=>a::a5c (a+1) n
theorem a4N {g:Int} : ∀ {n:Nat} {a:Int},g∈a5c a n↔a<=g/\g<a+n
 | 0,a=>by simp [a5c] <;> omega
 | n+1,a=>by
   unfold a5c;rw [List.mem_cons,a4N (n:=n)]
   push_cast
   omega
def a9T (m:Int):List Int->Int
 | []=>m
 | a::l=>a9T (if a<m then a else m) l
theorem a6h : ∀ (l:List Int) (m:Int),a9T m l<=m /\ ∀ a∈l,a9T m l<=a
 | [],m=>⟨Int.le_refl _,fun a h=>by cases h⟩
 | b::l,m=>by
   by_cases hc:b<m
   ·obtain ⟨h1,h2⟩:=a6h l b;have e:a9T m (b::l)=a9T b l:=by show a9T (if b<m then b else m) l=_;rw [if_pos hc]
    rw [e];refine ⟨by omega,fun a ha => ?_⟩;rcases List.mem_cons.1 ha with rfl | ha
    ·exact h1
    exact h2 a ha
   obtain ⟨h1,h2⟩:=a6h l m;have e:a9T m (b::l)=a9T m l:=by show a9T (if b<m then b else m) l=_;rw [if_neg hc]
   rw [e];refine ⟨h1,fun a ha => ?_⟩;rcases List.mem_cons.1 ha with rfl | ha
   ·omega
   exact h2 a ha
theorem b0V : ∀ (l:List Int) (m:Int),a9T m l=m\/a9T m l∈l
 | [],m => .inl rfl
 | b::l,m=>by
   unfold a9T;rcases b0V l (if b<m then b else m) with h | h
   ·split at h <;> rename_i hc
    ·rw [if_pos hc,h];exact .inr (by simp)
    rw [if_neg hc,h];exact .inl rfl
   exact .inr (List.mem_cons_of_mem _ h)
def a0M (mx:Int) (L:Fen->Int) (s:Pr3):Int:=a9T mx ((a5c s.2.1 (s.2.2-s.2.1).toNat).map fun g=>L (s.1,g))
def a9U (L:Fen->Int) (s:Pr3) (p:Int):Fen->Int:=fun f=>if a1e f s=true then L f-p else L f
def a1j (mx:Int):List Pr3->(Fen->Int)->List Int
 | [],_=>[]
 | s::Q,L=>a0M mx L s::a1j mx Q (a9U L s (a0M mx L s))
theorem a4O (mx:Int) : ∀ (Q:List Pr3) (L:Fen->Int),(a1j mx Q L).length=Q.length
 | [],_=>rfl
 | s::Q,L=>by unfold a1j;rw [List.length_cons,a4O mx Q,List.length_cons]
section
variable {mx:Int} {F:List Fen}
def InF (F:List Fen) (s:Pr3):Prop:=s.2.1<s.2.2 /\ ∀ f,a1e f s=true->f∈F
theorem a7F {L:Fen->Int} {s:Pr3} {f:Fen} (h:a1e f s=true):a0M mx L s<=L f:=by
 obtain ⟨h1,h2,h3⟩:=(a1b f s).1 h;refine (a6h _ mx).2 _ (List.mem_map.2 ⟨f.2,a4N.2 ⟨h2,by omega⟩,?_⟩);rw [<-h1]
theorem b0W {L:Fen->Int} {s:Pr3} (hs:InF F s) (hm : ∀ f∈F,L f<=mx) : ∃ f,a1e f s=true/\L f=a0M mx L s:=by
 have hlt:=hs.1;have hf0:a1e (s.1,s.2.1) s=true:=(a1b _ _).2 ⟨rfl,Int.le_refl _,hlt⟩;rcases b0V ((a5c s.2.1 (s.2.2-s.2.1).toNat).map fun g=>L (s.1,g)) mx with h | h
 ·refine ⟨(s.1,s.2.1),hf0,?_⟩;have h1:=hm _ (hs.2 _ hf0);have h2:=a7F (mx:=mx) (L:=L) hf0;have h3:a0M mx L s=mx:=h;omega
 obtain ⟨g,hg,e⟩:=List.mem_map.1 h;obtain ⟨g1,g2⟩:=a4N.1 hg;exact ⟨(s.1,g),(a1b _ _).2 ⟨rfl,g1,by omega⟩,e⟩
theorem a2G {L:Fen->Int} {s:Pr3} (hs:InF F s) (hm : ∀ f∈F,L f<=mx) (h0 : ∀ f∈F,0<=L f):0<=a0M mx L s:=by
 obtain ⟨f,h1,h2⟩:=b0W hs hm;rw [<-h2];exact h0 f (hs.2 f h1)
theorem b0X {L:Fen->Int} {s:Pr3} (hs:InF F s) (hm : ∀ f∈F,L f<=mx) (h0 : ∀ f∈F,0<=L f) :
  (∀ f∈F,a9U L s (a0M mx L s) f<=mx) /\ ∀ f∈F,0<=a9U L s (a0M mx L s) f:=by
 have hp:=a2G hs hm h0;refine ⟨fun f hf => ?_,fun f hf => ?_⟩ <;> unfold a9U
 ·have:=hm f hf;split <;> omega
 have:=h0 f hf;split
 ·rename_i h;have:=a7F (mx:=mx) (L:=L) h;omega
 exact this
theorem a4t : ∀ (Q:List Pr3) (L:Fen->Int),(∀ s∈Q,InF F s)->(∀ f∈F,L f<=mx)->(∀ f∈F,0<=L f) -> ∀ p∈a1j mx Q L,0<=p/\p<=mx
 | [],_,_,_,_,p,hp=>by cases hp
 | s::Q,L,hQ,hm,h0,p,hp=>by
   unfold a1j at hp;rcases List.mem_cons.1 hp with rfl | hp
   ·exact ⟨a2G (hQ s (by simp)) hm h0,(a6h _ mx).1⟩
   obtain ⟨a,b⟩:=b0X (hQ s (by simp)) hm h0;exact a4t Q _ (fun u hu=>hQ u (by simp [hu])) a b p hp
def paid (f:Fen) (l:List (Pr3×Int)):Int:=a3Y l fun q=>if a1e f q.1=true then q.2 else 0
theorem a6i : ∀ (Q:List Pr3) (L:Fen->Int),(∀ s∈Q,InF F s)->(∀ f∈F,L f<=mx)->(∀ f∈F,0<=L f) -> ∀ f∈F,paid f (Q.zip (a1j mx Q L))<=L f
 | [],L,_,_,h0,f,hf=>h0 f hf
 | s::Q,L,hQ,hm,h0,f,hf=>by
   obtain ⟨a,b⟩:=b0X (hQ s (by simp)) hm h0;have ih:=a6i Q _ (fun u hu=>hQ u (by simp [hu])) a b f hf;have key:paid f ((s::Q).zip (a1j mx (s::Q) L))=(if a1e f s=true then a0M mx L s else 0)+paid f (Q.zip (a1j mx Q (a9U L s (a0M mx L s)))):=rfl
   rw [key];generalize paid f (Q.zip (a1j mx Q (a9U L s (a0M mx L s))))=w at ih;unfold a9U at ih;by_cases h:a1e f s=true
   ·rw [if_pos h] at ih ⊢;omega
   rw [if_neg h] at ih ⊢;omega
theorem a4u (hn:F.Nodup) : ∀ (Q:List Pr3) (L:Fen->Int),Q.Pairwise (fun s u=>s.2.2<=u.2.2)->(∀ s∈Q,InF F s)->(∀ f∈F,L f<=mx)->(∀ f∈F,0<=L f) ->
  ∃ φ:Fen->Prop,∃ _:DecidablePred φ,(∀ s∈Q,∃ f∈F,φ f/\a1e f s=true)/\a3Y F (fun f=>if φ f then L f else 0)<=(a1j mx Q L).sum
 | [],L,_,_,_,h0=>⟨fun _=>False,inferInstance,fun s hs=>(by cases hs),Int.le_of_eq (by simp only [if_false];exact a8Y F)⟩
 | s::Q,L,hord,hQ,hm,h0=>by
   rw [List.pairwise_cons] at hord;have hs:=hQ s (by simp);obtain ⟨a,b⟩:=b0X hs hm h0;obtain ⟨φ,hd,hit,hle⟩:=a4u hn Q _ hord.2 (fun u hu=>hQ u (by simp [hu])) a b;have hp:=a2G hs hm h0;have hsum:(a1j mx (s::Q) L).sum=a0M mx L s+(a1j mx Q (a9U L s (a0M mx L s))).sum:=rfl;by_cases hex : ∃ f∈F,φ f/\a1e f s=true
   ·
    have hmax : ∀ (n:Nat) (f:Fen),(s.2.2-f.2).toNat<=n->f∈F->φ f->a1e f s=true -> ∃ g∈F,φ g/\a1e g s=true /\ ∀ f∈F,φ f->a1e f s=true->f.2<=g.2:=by
     intro n
     induction n with
     | zero =>
       intro f h1 h2 h3 h4;have:=(a1b f s).1 h4;omega
     | succ n ih =>
       intro f h1 h2 h3 h4;by_cases hall : ∀ g∈F,φ g->a1e g s=true->g.2<=f.2
       ·exact ⟨f,h2,h3,h4,hall⟩
       simp only [Classical.not_forall] at hall;obtain ⟨g,q1,q2,q3,q4⟩:=hall;refine ih g ?_ q1 q2 q3;have:=(a1b f s).1 h4;omega
    obtain ⟨f0,m1,m2,m3⟩:=hex;obtain ⟨g,g1,g2,g3,g4⟩:=hmax _ f0 (Nat.le_refl _) m1 m2 m3;obtain ⟨e1,e2,e3⟩:=(a1b g s).1 g3;refine ⟨fun f=>φ f/\(a1e f s=false\/f=g),inferInstance,fun u hu => ?_,?_⟩
    ·rcases List.mem_cons.1 hu with rfl | hu
     ·exact ⟨g,g1,⟨g2,.inr rfl⟩,g3⟩
     obtain ⟨f,k1,k2,k3⟩:=hit u hu;by_cases hf:a1e f s=true
     ·obtain ⟨r1,r2,r3⟩:=(a1b f s).1 hf;obtain ⟨t1,t2,t3⟩:=(a1b f u).1 k3;have:=g4 f k1 k2 hf;have hend:=hord.1 u hu;exact ⟨g,g1,⟨g2,.inr rfl⟩,(a1b g u).2 ⟨by omega,by omega,by omega⟩⟩
     exact ⟨f,k1,⟨k2,.inl (by simpa using hf)⟩,k3⟩
    have h1:a3Y F (fun f=>if φ f/\(a1e f s=false\/f=g) then L f else 0)<=a3Y F (fun f=>(if φ f then a9U L s (a0M mx L s) f else 0)+(if f=g then a0M mx L s else 0)):=by
     refine a7E fun f hf => ?_;have hbf:=b f hf;by_cases hφ:φ f
     ·rw [if_pos hφ];by_cases hg:f=g
      ·subst hg;rw [if_pos ⟨hφ,.inr rfl⟩,if_pos rfl];unfold a9U;rw [if_pos g3];omega
      rw [if_neg hg];by_cases hh:a1e f s=true
      ·rw [if_neg (by rintro ⟨_,h | h⟩;rw [hh] at h;cases h;exact hg h)];omega
      rw [if_pos ⟨hφ,.inl (by simpa using hh)⟩];unfold a9U;rw [if_neg hh];omega
     rw [if_neg (fun h=>hφ h.1),if_neg hφ];split <;> omega
    rw [b0U,b4I hn g1] at h1;refine Int.le_trans h1 ?_;rw [hsum];omega
   obtain ⟨g,g1,g2⟩:=b0W hs hm;have gF:=hs.2 g g1;have hno : ∀ f∈F,φ f->a1e f s=false:=fun f hf h=>by
    cases hh:a1e f s with
    | false=>rfl
    | true=>exact absurd ⟨f,hf,h,hh⟩ hex
   refine ⟨fun f=>φ f\/f=g,inferInstance,fun u hu => ?_,?_⟩
   ·rcases List.mem_cons.1 hu with rfl | hu
    ·exact ⟨g,gF,.inr rfl,g1⟩
    obtain ⟨f,k1,k2,k3⟩:=hit u hu;exact ⟨f,k1,.inl k2,k3⟩
   have h1:a3Y F (fun f=>if φ f\/f=g then L f else 0)<=a3Y F (fun f=>(if φ f then a9U L s (a0M mx L s) f else 0)+(if f=g then a0M mx L s else 0)):=by
    refine a7E fun f hf => ?_;by_cases hg:f=g
    ·subst hg;have : ¬ φ f:=fun h=>by rw [hno f hf h] at g1;cases g1
     rw [if_pos (.inr rfl),if_neg this,if_pos rfl,g2];omega
    rw [if_neg hg];by_cases hφ:φ f
    ·rw [if_pos (.inl hφ),if_pos hφ];unfold a9U;rw [if_neg (by rw [hno f hf hφ];simp)];omega
    rw [if_neg (by rintro (h | h);exact hφ h;exact hg h),if_neg hφ];omega
   rw [b0U,b4I hn gF] at h1;refine Int.le_trans h1 ?_;rw [hsum];omega
end
abbrev I (n:Int):D := .int .i64 n
def a6w (f:Fen):D := .agg [I f.1,I f.2]
def a5p (s:Pr3):D := .agg [I s.1,I s.2.1,I s.2.2]
abbrev c2x:Cod Pr3:=cG (lc (cI .i64) (lc (cI .i64) (l1 (cI .i64))))
abbrev c4i:Cod Fen:=cG (lc (cI .i64) (l1 (cI .i64)))
theorem c1z (s:Pr3):c2x.un (a5p s)=some s:=by simp [a5p,I]
theorem b4J {l:List Pr3} {i:Nat} {a:Pr3} (h:l[i]?=some a):gt Ar.std c2x (l.map a5p) (i:Int)=some a:=by rw [b8o h,c1z]
theorem b9j {l:List Int} {i:Nat} {a:Int} (h:l[i]?=some a):gc Ar.std (cI .i64) (l.map I) i=some a:=by rw [c3u h];simp [I]
theorem c1A (a:Fen):c4i.un (a6w a)=some a:=by simp [a6w,I]
theorem b7E {l:List Fen} {i:Nat} {a:Fen} (h:l[i]?=some a):gt Ar.std c4i (l.map a6w) (i:Int)=some a:=by rw [b8o h,c1A]
theorem ltM {α:Type} {f:α->D} {l:List α} {i:Nat} (h:i<l.length):Ar.std.zlt (i:Int) (Ar.std.len (l.map f))=true:=by simp;omega
theorem geM {α:Type} {f:α->D} {l:List α}:Ar.std.zlt (l.length:Int) (Ar.std.len (l.map f))=false:=by simp
theorem b9k {i n:Nat} (h:i<n) (hn:n<9223372036854775808):Ar.std.wrp .i64 (Ar.std.zadd (i:Int) 1)=((i+1:Nat):Int):=c0t h hn
theorem b0Y (a b:Fen) (h:a6w a=a6w b):a=b:=by
 obtain ⟨a1,a2⟩:=a;obtain ⟨b1,b2⟩:=b;simpa [a6w,I] using h
def b6s (N:List Pr3) (i:Int):Int:=(N.getD i.toNat (0,0,0)).2.2
theorem b7F (N:List Pr3) (a b:Int) (ha:0<=a/\a<(N.length:Int)) (hb:0<=b/\b<(N.length:Int)):N37 Ar.std a b (N.map a5p)=some (a8I (b6s N a) (b6s N b)):=by
 have one : ∀ a:Int,0<=a/\a<(N.length:Int)->gt Ar.std c2x (N.map a5p) a=some (N.getD a.toNat (0,0,0)):=fun a h=>by
  have hl:a.toNat<N.length:=by omega
  have:=b4J (l:=N) (i:=a.toNat) (zp1 hl);rw [show ((a.toNat:Nat):Int)=a by omega] at this;rw [this,List.getD_eq_getElem?_getD,zp1 hl];rfl
 unfold N37;rw [one a ha,a1a]
 try dsimp only
 rw [one b hb,a1a]
 try dsimp only
 rw [b0C,a1a]
 rfl
theorem a9V {l:List Int} {j:Nat} (hj:j<l.length) (a:Int) (p:Nat):(l.set j a).getD p 0=if j=p then a else l.getD p 0:=by
 rw [List.getD_eq_getElem?_getD,List.getD_eq_getElem?_getD,List.getElem?_set];by_cases h:j=p
 ·subst h;simp [hj]
 rw [if_neg h,if_neg h]
section
variable (N:List Pr3)
def a3N (v:List Int) (p:Nat):Int:=b6s N (v.getD p 0)
theorem b7G (i:Nat) : ∀ (j:Nat) (v:List Int),j<=i->i<v.length->v.length<1000000->(∀ a∈v,0<=a/\a<(N.length:Int))->(∀ p q,p<q->q<=i->q≠j->a3N N v p<=a3N N v q) ->
  ∃ v',v'.Perm v/\(∀ p q,p<q->q<=i->a3N N v' p<=a3N N v' q)/\iter (a5t Ar.std 0 (N.map a5p)) ((j:Int),v.map I)=some (v'.map I)
 | 0,v,_,_,_,_,hs=>by
   refine ⟨v,List.Perm.refl _,fun p q h1 h2=>hs p q h1 h2 (by omega),a0w ?_⟩;unfold a5t
   try dsimp only
   rw [a0R,decide_eq_false (by omega),cond_false,a1a,cond_false]
 | j+1,v,hj,hi,hbig,hv,hs=>by
   have hj1:j+1<v.length:=by omega
   have hj0:j<v.length:=by omega
   have ha:=hv _ (zp6 hj1);have hb:=hv _ (zp6 hj0);have g1:=zp1 hj1;have g0:=zp1 hj0;have d1:v.getD (j+1) 0=v[j+1]:=by rw [List.getD_eq_getElem?_getD,g1];rfl
   have d0:v.getD j 0=v[j]:=by rw [List.getD_eq_getElem?_getD,g0];rfl
   have w:Ar.std.wrp .i64 (Ar.std.zsub ((j+1:Nat):Int) 1)=(j:Int):=by
    rw [a0j,a0A,a2W _ (by omega) (by omega)];omega
   have n1:Ar.std.nat ((j+1:Nat):Int)=j+1:=by simp
   have n0:Ar.std.nat (j:Int)=j:=by simp
   have c1:ck (Ar.std.zle 0 ((j+1:Nat):Int))=some ():=a6u (by rw [a1X];exact decide_eq_true (by omega));have c0:ck (Ar.std.zle 0 (j:Int))=some ():=a6u (by simp);have k1:ck (Ar.std.zlt ((j+1:Nat):Int) (Ar.std.len (v.map I)))=some ():=a6u (by simp;omega);have k0:ck (Ar.std.zlt (j:Int) (Ar.std.len (v.map I)))=some ():=a6u (by simp;omega);have hlt:Ar.std.zlt 0 ((j+1:Nat):Int)=true:=by rw [a0R];exact decide_eq_true (by omega)
   have hcmp:Ar.std.zlt (a8I (b6s N v[j+1]) (b6s N v[j])) 0=decide (b6s N v[j+1]<b6s N v[j]):=by
    rw [a0R];unfold a8I;split
    ·rename_i h;simp [h]
    rename_i h;split <;> simp [h]
   by_cases hc:b6s N v[j+1]<b6s N v[j]
   ·have hset:(v.map I).set (j+1) (.int .i64 v[j])=(v.set (j+1) v[j]).map I:=List.map_set.symm;have l0:Ar.std.lset (v.map I) (j+1) (.int .i64 v[j])=(v.set (j+1) v[j]).map I:=hset;have g2:(v.set (j+1) v[j])[j]?=some v[j]:=by rw [List.getElem?_set,if_neg (by omega)];exact g0
    have k2:ck (Ar.std.zlt (j:Int) (Ar.std.len ((v.set (j+1) v[j]).map I)))=some ():=a6u (by rw [a0R,a5U,List.length_map,List.length_set];exact decide_eq_true (by omega));have l1:Ar.std.lset ((v.set (j+1) v[j]).map I) j (.int .i64 v[j+1])=((v.set (j+1) v[j]).set j v[j+1]).map I:=by
     exact List.map_set.symm
    have hstep:a5t Ar.std 0 (N.map a5p) (((j+1:Nat):Int),v.map I)=some (.inl ((j:Int),((v.set (j+1) v[j]).set j v[j+1]).map I)):=by
     unfold a5t
     try dsimp only
     rw [hlt,cond_true,c1,a1a,k1,a1a,w,n1,n0,b9j g1,a1a,c0,a1a,k0,a1a,b9j g0,a1a,b7F N _ _ ha hb,a1a,hcmp,decide_eq_true hc,a1a,cond_true];simp only [a1a];rw [l0,k2,a1a,b9j g2,a1a,l1]
    have hperm:((v.set (j+1) v[j]).set j v[j+1]).Perm v:=List.set_set_perm hj1 hj0;have hget : ∀ p,((v.set (j+1) v[j]).set j v[j+1]).getD p 0=if j=p then v[j+1] else if j+1=p then v[j] else v.getD p 0:=fun p=>by
     rw [a9V (by rw [List.length_set];omega),a9V hj1]
    obtain ⟨v',p1,p2,p3⟩:=b7G i j ((v.set (j+1) v[j]).set j v[j+1]) (by omega) (by rw [List.length_set,List.length_set];omega) (by rw [List.length_set,List.length_set];omega) (fun a h=>hv a (hperm.mem_iff.1 h)) (fun p q hpq hq hne=>by
     unfold a3N;rw [hget,hget];have base:=fun p q a b c=>hs p q a b c;unfold a3N at base;rw [if_neg (show ¬ j=q from fun e=>hne e.symm)];by_cases hq1:j+1=q
     ·rw [if_pos hq1];by_cases hp0:j=p
      ·rw [if_pos hp0];omega
      rw [if_neg hp0,if_neg (by omega)];have:=base p j (by omega) (by omega) (by omega);rw [d0] at this;exact this
     rw [if_neg hq1];by_cases hp0:j=p
     ·rw [if_pos hp0];have:=base (j+1) q (by omega) hq (fun e=>hq1 e.symm);rw [d1] at this;exact this
     rw [if_neg hp0];by_cases hp1:j+1=p
     ·rw [if_pos hp1];have:=base j q (by omega) hq (fun e=>hq1 e.symm);rw [d0] at this;exact this
     rw [if_neg hp1];exact base p q hpq hq (fun e=>hq1 e.symm))
    exact ⟨v',p1.trans hperm,p2,by rw [a1l hstep];exact p3⟩
   refine ⟨v,List.Perm.refl _,fun p q hpq hq => ?_,a0w ?_⟩
   ·by_cases hne:q=j+1
    ·subst hne;have h1:a3N N v j<=a3N N v (j+1):=by
      unfold a3N;rw [d0,d1];omega
     by_cases hp:p=j
     ·subst hp;exact h1
     exact Int.le_trans (hs p j (by omega) (by omega) (by omega)) h1
    exact hs p q hpq hq hne
   unfold a5t
   try dsimp only
   rw [hlt,cond_true,c1,a1a,k1,a1a,w,n1,n0,b9j g1,a1a,c0,a1a,k0,a1a,b9j g0,a1a,b7F N _ _ ha hb,a1a,hcmp,decide_eq_false hc,a1a,cond_false]
theorem b9l (v:List Int) (M:List (D×D)) (hbig:v.length<1000000) (hv : ∀ a∈v,0<=a/\a<(N.length:Int)) :
  ∃ v',v'.Perm v/\(∀ p q,p<q->q<v.length->a3N N v' p<=a3N N v' q)/\b9s Ar.std 0 (v.length:Int) (N.map a5p) M (v.map I)=some (v'.map I):=by
 unfold b9s;have w0:Ar.std.wrp .i64 (Ar.std.zadd 0 1)=((1:Nat):Int):=by decide
 rw [w0];by_cases h0:v.length=0
 ·refine ⟨v,List.Perm.refl _,fun p q h1 h2=>by omega,?_⟩;have:a4Q Ar.std 0 (v.length:Int) (N.map a5p) (((1:Nat):Int),v.map I)=some (.inr (v.map I)):=by
   unfold a4Q
   try dsimp only
   rw [a0R,decide_eq_false (by omega),cond_false]
  rw [a0w this,a1a]
 have key:=a0x (step:=a4Q Ar.std 0 (v.length:Int) (N.map a5p)) (v.length-1) (fun (s:List Int) i=>(((i+1:Nat):Int),s.map I))
  (fun i s=>s.Perm v /\ ∀ p q,p<q->q<=i->a3N N s p<=a3N N s q) (fun s=>s.map I)
  (fun i s hi ⟨hp,hs⟩=>by
   have hl:=hp.length_eq;obtain ⟨v',p1,p2,p3⟩:=b7G N (i+1) (i+1) s (Nat.le_refl _) (by omega) (by omega) (fun a h=>hv a (hp.mem_iff.1 h)) (fun p q a b c=>hs p q a (by omega));refine ⟨v',⟨p1.trans hp,p2⟩,?_⟩;unfold a4Q
   try dsimp only
   rw [a0R,decide_eq_true (by omega),cond_true,p3,a1a,b9k (i:=i+1) (n:=v.length) (by omega) (by omega)])
  (fun s _=>by
   unfold a4Q
   try dsimp only
   rw [a0R,decide_eq_false (by omega),cond_false])
  v ⟨List.Perm.refl _,fun p q a b=>by omega⟩
 obtain ⟨s,⟨hp,hs⟩,e⟩:=key;refine ⟨s,hp,fun p q a b=>hs p q a (by omega),?_⟩;have e':iter (a4Q Ar.std 0 (v.length:Int) (N.map a5p)) (((1:Nat):Int),v.map I)=some (s.map I):=e;rw [e',a1a]
theorem c1B (v:List Int) (M:List (D×D)) (hbig:v.length<20) (hv : ∀ a∈v,0<=a/\a<(N.length:Int)) :
  ∃ v',v'.Perm v/\(∀ p q,p<q->q<v.length->a3N N v' p<=a3N N v' q)/\N36 Ar.std (N.map a5p) M (v.map I)=some (v'.map I):=by
 obtain ⟨v',h1,h2,h3⟩:=b9l N v M (by omega) hv;refine ⟨v',h1,h2,?_⟩;have s0:b4X Ar.std (v.length:Int) (N.map a5p) M (0,20,v.map I)=some (.inr (0,v.map I)):=by
  unfold b4X
  try dsimp only
  rw [a1X,decide_eq_false (by omega),cond_false]
 have s1:b4Y Ar.std (v.length:Int) 20=some (.inr ()):=by
  unfold b4Y
  try dsimp only
  rw [a0R,decide_eq_false (by omega),cond_false]
 have hl:Ar.std.len (v.map I)=(v.length:Int):=by simp
 unfold N36 N70;rw [hl,a0w s0,a1a]
 try dsimp only
 rw [h3,a1a,a0w s1,a1a,a1a]
end
theorem b0Z (a b:Int):D.agg [.int .i64 a,.int .i64 b]=a6w (a,b):=rfl
theorem c4j {M:List (D×D)} {k:D} {a:Int} (h:mget M k=some (I a)):lk Ar.std (cI .i64) M k=some (some a):=by
 unfold lk;rw [b5O,h];rfl
theorem b4K {M:List (D×D)} {k v0:D} (h:mget M k=some v0) (v:D):Ar.std.mset M (Ar.std.midx M k) v=mput M k v:=by
 rw [a8l h,b5Q,b0v,Int.toNat_natCast];have hg:=a7f h;obtain ⟨hl,he⟩:=zp2.1 hg;apply List.ext_getElem?;intro i;rw [List.getElem?_modify,List.getElem?_set];by_cases hi:midx M k=i
 ·subst hi;simp [hl,he]
 simp [hi]
theorem b9m {M:List (D×D)} {k v0:D} (h:mget M k=some v0):ck (Ar.std.mhas M (Ar.std.midx M k))=some ():=by
 refine a6u ?_;have hl:=(zp2.1 (a7f h)).1;rw [b5P,b0v];exact decide_eq_true ⟨by omega,by omega⟩
def a6j (F:List Fen) (M:List (D×D)) (L:Fen->Int):Prop := ∀ f∈F,mget M (a6w f)=some (I (L f))
section
variable {x:Ax} (hv:VX x) {c:List (List Int)} (hC:Cst x c)
include hv hC
theorem b6t : ∃ M,iter (b1s Ar.std (a1d c) ((a3i x).map a6w)) (0,[])=some M/\a6j (a3i x) M (a1t c):=by
 have hfl:=a4r hv;have hin : ∀ f∈a3i x,_:=fun f hf=>a4s hv hC hf;generalize a3i x=F at hfl hin ⊢;have key:=a0x (step:=b1s Ar.std (a1d c) (F.map a6w)) F.length (fun (M:List (D×D)) i=>((i:Int),M)) (fun i M => ∀ f∈F.take i,mget M (a6w f)=some (I (a1t c f))) (fun M=>M)
  (fun i M hi hR=>by
   have hf:=zp1 hi;obtain ⟨e1,e2,_,_⟩:=hin _ (zp6 hi);refine ⟨mput M (a6w F[i]) (I (a1t c F[i])),fun f hm => ?_,?_⟩
   ·rw [a0g hf] at hm;rw [a4f];by_cases he:a6w F[i]=a6w f
    ·rw [if_pos he,b0Y _ _ he]
    rw [if_neg he];rcases List.mem_append.1 hm with hm | hm
    ·exact hR f hm
    rw [List.mem_singleton] at hm;exact absurd (by rw [hm]) he
   unfold b1s;refine cnT (ltM hi) (bt (b7E hf) (bt e1 (bt e2 ?_)));rw [b9k hi (by omega)]
   rfl)
  (fun M _=>by
   unfold b1s;exact cnF geM rfl)
  [] (fun f hf=>by simp at hf)
 obtain ⟨M,hM,e⟩:=key;rw [List.take_length] at hM;exact ⟨M,e,hM⟩
end
def a3j (n:Nat):List Int:=(List.range n).map fun (j:Nat)=>((j:Nat):Int)
theorem a2z (n:Nat):(a3j n).length=n:=by unfold a3j;simp
theorem a3A {n:Nat} {a:Int}:a∈a3j n↔0<=a/\a<(n:Int):=by
 unfold a3j;simp only [List.mem_map,List.mem_range];constructor
 ·rintro ⟨j,hj,rfl⟩;omega
 rintro ⟨h1,h2⟩;exact ⟨a.toNat,by omega,by omega⟩
theorem a9W (n:Nat):(a3j n).Nodup:=by
 unfold a3j;rw [List.nodup_iff_pairwise_ne,List.pairwise_map];exact List.Pairwise.imp (fun h e=>h (by omega)) (List.nodup_iff_pairwise_ne.1 List.nodup_range)
theorem b6u (N:List Pr3) (hN:N.length<=1000):iter (b1t Ar.std (N.map a5p)) (0,[])=some ((a3j N.length).map I):=by
 have key:=a0x (step:=b1t Ar.std (N.map a5p)) N.length (fun (s:List Int) i=>((i:Int),s.map I)) (fun i s=>s=a3j i) (fun s=>s.map I)
  (fun i s hi hR=>by
   subst hR;refine ⟨_,rfl,?_⟩;have hap:ap Ar.std ((a3j i).map I) [.int .i64 (i:Int)]=some ((a3j i++[(i:Int)]).map I):=c0s I _ _ _ rfl (by rw [a2z];omega);unfold b1t
   try dsimp only
   rw [ltM hi,cond_true,hap,a1a,b9k hi (by omega)];have:a3j (i+1)=a3j i++[(i:Int)]:=by unfold a3j;rw [List.range_succ,List.map_append];rfl
   rw [this])
  (fun s _=>by
   unfold b1t
   try dsimp only
   rw [geM,cond_false])
  [] (by unfold a3j;simp)
 obtain ⟨s,rfl,e⟩:=key;exact e
section
variable {F:List Fen} {M:List (D×D)} {L:Fen->Int} (t b:Int)
theorem b1a (hT:a6j F M L) (hb:b<=1000) : ∀ (k:Nat) (g m:Int),g+(k:Int)=b->0<=g->(∀ g',g<=g'->g'<b->(t,g')∈F)->iter (b1u Ar.std M t b) (m,g)=some (a9T m ((a5c g k).map fun g=>L (t,g)))
 | 0,g,m,hg,h0,hf=>by
   refine a0w ?_;unfold b1u
   try dsimp only
   rw [a0R,decide_eq_false (by omega),cond_false];rfl
 | k+1,g,m,hg,h0,hf=>by
   have hm:=hT (t,g) (hf g (Int.le_refl _) (by omega));have hs:b1u Ar.std M t b (m,g)=some (.inl ((if L (t,g)<m then L (t,g) else m),g+1)):=by
    unfold b1u
    try dsimp only
    rw [a0R,decide_eq_true (by omega),cond_true,b0Z,c4j hm,a1a];show ((some (Ar.std.zmin m (L (t,g)))).bind fun v144=>some (Sum.inl (v144,Ar.std.wrp .i64 (Ar.std.zadd g 1))))=_;rw [a1a,b5N,a0j,a0u,a2W _ (by omega) (by omega)]
   rw [a1l hs,b1a hT hb k (g+1) _ (by omega) (by omega) (fun g' h1 h2=>hf g' (by omega) h2)]
   rfl
theorem b1b (p:Int) (hp:0<=p/\p<=9) (hb:b<=1000) : ∀ (k:Nat) (g:Int) (M:List (D×D)) (L:Fen->Int),a6j F M L->(∀ f∈F,0<=L f/\L f<=9)->g+(k:Int)=b->0<=g->(∀ g',g<=g'->g'<b->(t,g')∈F)->(∀ g',g<=g'->g'<b->p<=L (t,g')) ->
  ∃ M',iter (b1v Ar.std t b p) (g,M)=some M'/\a6j F M' (fun f=>if f.1=t/\g<=f.2/\f.2<b then L f-p else L f)
 | 0,g,M,L,hT,h9,hg,h0,hf,hle=>by
   refine ⟨M,a0w ?_,fun f hm => ?_⟩
   ·unfold b1v
    try dsimp only
    rw [a0R,decide_eq_false (by omega),cond_false]
   dsimp only;rw [if_neg (by omega)];exact hT f hm
 | k+1,g,M,L,hT,h9,hg,h0,hf,hle=>by
   have hgF:=hf g (Int.le_refl _) (by omega);have hm:=hT (t,g) hgF;have h9g:=h9 _ hgF;have hpl:=hle g (Int.le_refl _) (by omega);have hs:b1v Ar.std t b p (g,M)=some (.inl (g+1,mput M (a6w (t,g)) (I (L (t,g)-p)))):=by
    unfold b1v
    try dsimp only
    rw [a0R,decide_eq_true (by omega),cond_true,b0Z,c4j hm,a1a];show ((ck (Ar.std.mhas M (Ar.std.midx M (a6w (t,g))))).bind fun _=>some (Sum.inl (Ar.std.wrp .i64 (Ar.std.zadd g 1),Ar.std.mset M (Ar.std.midx M (a6w (t,g))) (.int .i64 (Ar.std.wrp .i64 (Ar.std.zsub (L (t,g)) p))))))=_;rw [b9m hm,a1a,b4K hm,a0j,a0u,a0j,a0A,a2W _ (by omega) (by omega),a2W _ (by omega) (by omega)]
   have hT1:a6j F (mput M (a6w (t,g)) (I (L (t,g)-p))) (fun f=>if f=(t,g) then L f-p else L f):=fun f hm'=>by
    rw [a4f];by_cases he:f=(t,g)
    ·subst he;rw [if_pos rfl];dsimp only;rw [if_pos rfl]
    rw [if_neg (fun e=>he (b0Y _ _ e).symm)];dsimp only;rw [if_neg he];exact hT f hm'
   obtain ⟨M',e,hT'⟩:=b1b p hp hb k (g+1) _ _ hT1 (fun f hm'=>by
     have:=h9 f hm'
     try dsimp only
     split
     ·rename_i he;subst he;omega
     ·exact this) (by omega) (by omega) (fun g' h1 h2=>hf g' (by omega) h2) (fun g' h1 h2=>by
     try dsimp only
     rw [if_neg (by simp;omega)];exact hle g' (by omega) h2)
   refine ⟨M',by rw [a1l hs];exact e,fun f hm' => ?_⟩;rw [hT' f hm'];obtain ⟨u,h⟩:=f;dsimp only;by_cases he:u=t/\h=g
   ·obtain ⟨rfl,rfl⟩:=he;rw [if_neg (by omega),if_pos rfl,if_pos (by omega)]
   have hne : ¬ ((u,h):Fen)=(t,g):=fun e=>he (by simpa using e);rw [if_neg hne];by_cases hr:u=t/\g+1<=h/\h<b
   ·rw [if_pos hr,if_pos ⟨hr.1,by omega,hr.2.2⟩]
   rw [if_neg hr,if_neg (fun h'=>hr ⟨h'.1,by have:=h'.2.1;have : ¬ h=g:=fun e=>he ⟨h'.1,e⟩;omega,h'.2.2⟩)]
end
def a2j (N:List Pr3) (o:Int):Pr3:=N.getD o.toNat (0,0,0)
section
variable {F:List Fen} {N:List Pr3} (order:List Int) (hN:N.length<=1000) (hord:order.Perm (a3j N.length)) (hIn : ∀ s∈N,InF F s/\0<=s.2.1/\s.2.2<=1000)
include hN hord hIn
theorem b6v (M0:List (D×D)) (L0:Fen->Int) (hT:a6j F M0 L0) (h9 : ∀ f∈F,0<=L0 f/\L0 f<=9) :
  ∃ out:List Int,iter (b1w Ar.std (N.map a5p) (order.map I)) (0,M0,(List.replicate N.length 0).map I)=some (out.map I)/\out.length=N.length /\
    ∀ j,j<order.length->out.getD (order.getD j 0).toNat 0=(a1j 9 (order.map (a2j N)) L0).getD j 0:=by
 have hlen:order.length=N.length:=by rw [hord.length_eq,a2z]
 have hnd:order.Nodup:=hord.nodup_iff.2 (a9W _);have key:=a0x (step:=b1w Ar.std (N.map a5p) (order.map I)) order.length (fun (s:List (D×D)×List Int) i=>((i:Int),s.1,s.2.map I))
  (fun i s => ∃ (L:Fen->Int) (done:List Int),a6j F s.1 L/\(∀ f∈F,0<=L f/\L f<=9)/\a1j 9 (order.map (a2j N)) L0=done++a1j 9 ((order.drop i).map (a2j N)) L/\done.length=i/\s.2.length=N.length /\
   ∀ j,j<i->s.2.getD (order.getD j 0).toNat 0=done.getD j 0) (fun s=>s.2.map I)
  (fun i s hi ⟨L,done,r1,r2,r3,r4,r5,r6⟩=>by
   obtain ⟨M,out⟩:=s;dsimp only at r1 r5 r6 ⊢;have ho:=zp1 hi;obtain ⟨o0,oN⟩:=a3A.1 (hord.mem_iff.1 (zp6 hi));obtain ⟨o,hoe⟩ : ∃ o,order[i]=o:=⟨_,rfl⟩;rw [hoe] at ho o0 oN;have hoN:o.toNat<N.length:=by omega
   have hs:=zp1 hoN;have hsm:=zp6 hoN;obtain ⟨s,hse⟩ : ∃ s,N[o.toNat]=s:=⟨_,rfl⟩;rw [hse] at hs hsm;obtain ⟨hI,ha0,hb1⟩:=hIn s hsm;have hpair:a2j N o=s:=by unfold a2j;rw [List.getD_eq_getElem?_getD,hs];rfl
   have hto:((o.toNat:Nat):Int)=o:=by omega
   have hgt:gt Ar.std c2x (N.map a5p) o=some s:=by have:=b4J hs;rwa [hto] at this
   have hFin : ∀ g',s.2.1<=g'->g'<s.2.2->((s.1,g'):Fen)∈F:=fun g' h1 h2=>hI.2 (s.1,g') ((a1b _ _).2 ⟨rfl,h1,h2⟩);have hk:s.2.1+((s.2.2-s.2.1).toNat:Int)=s.2.2:=by have:=hI.1;omega
   have e2:=b1a (F:=F) (M:=M) (L:=L) s.1 s.2.2 r1 hb1 (s.2.2-s.2.1).toNat s.2.1 9 hk ha0 hFin;have hmx : ∀ f∈F,L f<=9:=fun f hf=>(r2 f hf).2;have h0x : ∀ f∈F,0<=L f:=fun f hf=>(r2 f hf).1;have hpo:a9T 9 ((a5c s.2.1 (s.2.2-s.2.1).toNat).map fun g=>L (s.1,g))=a0M 9 L s:=rfl;rw [hpo] at e2;have hp0:=a2G hI hmx h0x;have hp9:a0M 9 L s<=9:=(a6h _ 9).1;obtain ⟨M',e3,hT'⟩:=b1b (F:=F) s.1 s.2.2 (a0M 9 L s) ⟨hp0,hp9⟩ hb1 (s.2.2-s.2.1).toNat s.2.1 M L r1 r2 hk ha0 hFin (fun g' h1 h2=>a7F ((a1b (s.1,g') s).2 ⟨rfl,h1,h2⟩));obtain ⟨a1,a2⟩:=b0X hI hmx h0x;have ho2:o.toNat<out.length:=by omega
   have hgo:=b9j (zp1 ho2);refine ⟨(M',out.set o.toNat (a0M 9 L s)),⟨a9U L s (a0M 9 L s),done++[a0M 9 L s],?_,fun f hf=>⟨a2 f hf,a1 f hf⟩,?_,?_,?_,?_⟩,?_⟩
   ·intro f hf
    try dsimp only
    rw [hT' f hf];dsimp only;unfold a9U;by_cases hh:f.1=s.1/\s.2.1<=f.2/\f.2<s.2.2
    ·rw [if_pos hh,if_pos ((a1b f s).2 hh)]
    rw [if_neg hh,if_neg (fun h=>hh ((a1b f s).1 h))]
   ·rw [r3,List.drop_eq_getElem_cons hi,List.map_cons,hoe,hpair,List.append_assoc];rfl
   ·rw [List.length_append,r4];rfl
   ·rw [List.length_set];exact r5
   ·intro j hj;rw [a9V ho2];by_cases hji:j=i
    ·subst hji;have:order.getD j 0=o:=by rw [List.getD_eq_getElem?_getD,ho];rfl
     rw [this,if_pos rfl,List.getD_eq_getElem?_getD,zp8 (by omega),r4];simp
    have hjl:j<i:=by omega
    have hjo:j<order.length:=by omega
    have hoj:order.getD j 0=order[j]:=by rw [List.getD_eq_getElem?_getD,zp1 hjo];rfl
    obtain ⟨q0,qN⟩:=a3A.1 (hord.mem_iff.1 (zp6 hjo));have hne:order[j]≠order[i]:=List.pairwise_iff_getElem.1 (List.nodup_iff_pairwise_ne.1 hnd) j i hjo hi hjl;rw [hoe] at hne;rw [if_neg (by rw [hoj];omega),r6 j hjl,List.getD_eq_getElem?_getD,List.getD_eq_getElem?_getD,zp7 (by omega)]
   have c1:ck (Ar.std.zle 0 (i:Int))=some ():=a6u (by rw [a1X];exact decide_eq_true (by omega));have c2:ck (Ar.std.zlt (i:Int) (Ar.std.len (order.map I)))=some ():=a6u (ltM hi);have c3:ck (Ar.std.zle 0 o)=some ():=a6u (by rw [a1X];exact decide_eq_true o0);have c4:ck (Ar.std.zlt o (Ar.std.len (out.map I)))=some ():=a6u (by rw [a0R,a5U,List.length_map];exact decide_eq_true (by omega));have n1:Ar.std.nat (i:Int)=i:=by simp
   have n2:Ar.std.nat o=o.toNat:=rfl;have l0:Ar.std.lset (out.map I) o.toNat (.int .i64 (a0M 9 L s))=(out.set o.toNat (a0M 9 L s)).map I:=List.map_set.symm;unfold b1w
   try dsimp only
   rw [ltM hi,cond_true,c1,a1a,b8m,a1a,n1,b9j ho,a1a,hgt,a1a]
   try dsimp only
   rw [e2,a1a,e3,a1a,c3,a1a,c4,a1a,n2,hgo,a1a,l0,b9k hi (by omega)])
  (fun s _=>by
   unfold b1w
   try dsimp only
   rw [geM,cond_false])
  (M0,List.replicate N.length 0) ⟨L0,[],hT,h9,by simp,rfl,by simp,fun j hj=>absurd hj (Nat.not_lt_zero j)⟩
 obtain ⟨s,⟨L,done,r1,r2,r3,r4,r5,r6⟩,e⟩:=key;refine ⟨s.2,e,r5,fun j hj => ?_⟩;rw [r6 j hj,r3,List.drop_length];show done.getD j 0=(done++[]).getD j 0;rw [List.append_nil]
theorem b6w (L0:Fen->Int) (out:List Int) (hl:out.length=N.length) (ho : ∀ j,j<order.length->out.getD (order.getD j 0).toNat 0=(a1j 9 (order.map (a2j N)) L0).getD j 0) :
  (N.zip out).Perm ((order.map (a2j N)).zip (a1j 9 (order.map (a2j N)) L0)):=by
 have hlen:order.length=N.length:=by rw [hord.length_eq,a2z]
 have h1:N.zip out=(a3j N.length).map fun o=>(a2j N o,out.getD o.toNat 0):=by
  apply List.ext_getElem?;intro i;by_cases hi:i<N.length
  ·have e:(a3j N.length)[i]?=some (i:Int):=by unfold a3j;simp [hi]
   have hio:i<out.length:=by omega
   have ez:(N.zip out)[i]?=some (N[i],out[i]):=List.getElem?_zip_eq_some.2 ⟨zp1 hi,zp1 hio⟩;rw [List.getElem?_map,e,ez];simp [a2j,List.getD_eq_getElem?_getD,hi,show i<out.length by omega]
  rw [List.getElem?_eq_none (by rw [List.length_zip];omega),List.getElem?_eq_none (by rw [List.length_map,a2z];omega)]
 have h2:(order.map (a2j N)).zip (a1j 9 (order.map (a2j N)) L0)=order.map fun o=>(a2j N o,out.getD o.toNat 0):=by
  have hgl:(a1j 9 (order.map (a2j N)) L0).length=order.length:=by rw [a4O,List.length_map]
  apply List.ext_getElem?;intro i;by_cases hi:i<order.length
  ·have h:=ho i hi;rw [List.getD_eq_getElem?_getD (l:=order),zp1 hi] at h;rw [List.getD_eq_getElem?_getD (l:=a1j 9 (order.map (a2j N)) L0),zp1 (show i<(a1j 9 (order.map (a2j N)) L0).length by omega)] at h;have him:i<(order.map (a2j N)).length:=by rw [List.length_map];exact hi
   have hig:i<(a1j 9 (order.map (a2j N)) L0).length:=by omega
   have ez:((order.map (a2j N)).zip (a1j 9 (order.map (a2j N)) L0))[i]?=some ((order.map (a2j N))[i],(a1j 9 (order.map (a2j N)) L0)[i]):=List.getElem?_zip_eq_some.2 ⟨zp1 him,zp1 hig⟩;rw [ez];rw [List.getElem?_map,zp1 hi,List.getElem_map];simp only [Option.getD_some] at h;rw [Option.map_some,h]
  rw [List.getElem?_eq_none (by rw [List.length_zip,List.length_map];omega),List.getElem?_eq_none (by rw [List.length_map];omega)]
 rw [h1,h2];exact (hord.map _).symm
end
theorem c4k {l:List Int} {i:Nat} {a:Int} (h:l[i]?=some a):gt Ar.std (cI .i64) (l.map I) (i:Int)=some a:=by rw [b8o h];simp [I]
theorem c1C (f:Fen) (s:Pr3):N43 Ar.std f.1 f.2 s.1 s.2.1 s.2.2=some (a1e f s):=by
 unfold N43 a1e;simp only [a2i,a1X,a0R];cases decide (f.1=s.1) <;> cases decide (s.2.1<=f.2) <;> rfl
theorem a8Z {α:Type} (w:α->Int) (a:α) : ∀ (l:List α),a3Y (l++[a]) w=a3Y l w+w a
 | []=>by show w a+a3Y [] w=a3Y [] w+w a;rw [b6q];omega
 | b::l=>by
   show w b+a3Y (l++[a]) w=w b+a3Y l w+w a;rw [a8Z w a l];omega
theorem b6x (a:Int) (l:List Int):(l++[a]).sum=l.sum+a:=by simp
theorem b4L (f:Fen) (q:Pr3×Int) (l:List (Pr3×Int)):paid f (l++[q])=paid f l+(if a1e f q.1=true then q.2 else 0):=a8Z _ q l
theorem a6R (f:Fen) : ∀ (l:List (Pr3×Int)),(∀ q∈l,0<=q.2/\q.2<=100)->0<=paid f l/\paid f l<=100*(l.length:Int)
 | [],_=>by show (0:Int)<=0/\(0:Int)<=100*((0:Nat):Int);omega
 | q::l,h=>by
   obtain ⟨h1,h2⟩:=a6R f l fun q hq=>h q (by simp [hq]);have h3:=h q (by simp);have e:paid f (q::l)=(if a1e f q.1=true then q.2 else 0)+paid f l:=rfl
   rw [e,List.length_cons]
   push_cast
   split <;> omega
theorem a9a : ∀ (l:List Int),(∀ n∈l,0<=n/\n<=100)->0<=l.sum/\l.sum<=100*(l.length:Int)
 | [],_=>by simp
 | n::l,h=>by
   obtain ⟨h1,h2⟩:=a9a l fun q hq=>h q (by simp [hq]);have h3:=h n (by simp);rw [List.sum_cons,List.length_cons]
   push_cast
   omega
theorem b6y (ps:List Int) (hl:ps.length<=1000) (hp : ∀ n∈ps,0<=n/\n<=100):iter (b1D Ar.std (ps.map I)) (0,0)=some (.inl ps.sum):=by
 have key:=a2E (step:=b1D Ar.std (ps.map I)) ps (fun pre=>pre.sum) (fun s i=>(s,(i:Int))) (fun s => .inl s)
  (fun i a ha hi=>by
   have hb:=a9a (ps.take i) fun n hn=>hp n (List.mem_of_mem_take hn);have hlt:(ps.take i).length<=1000:=by rw [List.length_take];omega
   have h2:=hp a (List.mem_of_getElem? ha);unfold b1D;refine cnT (ltM hi) (bt (c4k ha) (bt (v:=false) (cnF (by simp;omega) (by simp;omega)) (cnF rfl ?_)));rw [b9k hi (by omega),b6x,a0j,a0u,a2W _ (by omega) (by omega)])
  (by
   unfold b1D;exact cnF geM rfl)
 exact key
section
variable {N:List Pr3} {ps:List Int} (hlen:ps.length=N.length) (hN:N.length<=1000) (hp : ∀ n∈ps,0<=n/\n<=100)
include hlen hN hp
theorem b9n {i:Nat} {q:Pr3×Int} (h:(N.zip ps)[i]?=some q):N[i]?=some q.1/\ps[i]?=some q.2:=List.getElem?_zip_eq_some.1 h
theorem a9X:(N.zip ps).length=N.length:=by rw [List.length_zip];omega
theorem b4M (f:Fen) (i:Nat):0<=paid f ((N.zip ps).take i)/\paid f ((N.zip ps).take i)<=100000:=by
 have:=a6R f ((N.zip ps).take i) fun q hq=>hp q.2 (List.of_mem_zip (List.mem_of_mem_take hq)).2;have hl:((N.zip ps).take i).length<=1000:=by rw [List.length_take,a9X hlen hN hp];omega
 omega
theorem b6z (f:Fen):iter (b1E Ar.std (ps.map I) (N.map a5p) f.1 f.2) (0,0)=some (paid f (N.zip ps)):=by
 have key:=a2E (step:=b1E Ar.std (ps.map I) (N.map a5p) f.1 f.2) (N.zip ps) (fun pre=>paid f pre) (fun s k=>(s,(k:Int))) (fun s=>s)
  (fun k q hq hk=>by
   rw [a9X hlen hN hp] at hk;obtain ⟨g1,g2⟩:=b9n hlen hN hp hq;have hb:=b4M hlen hN hp f k;have hq2:=hp q.2 (List.mem_of_getElem? g2);unfold b1E;refine cnT (ltM hk) (bt (b4J g1) (bt (c1C f q.1) (bt (v:=paid f ((N.zip ps).take k++[q])) ?_ (by rw [b9k hk (by omega)]))));rw [b4L];cases hh:a1e f q.1 with
   | true =>
     refine cnT rfl (bt (c4k g2) ?_);rw [if_pos rfl,a0j,a0u,a2W _ (by omega) (by omega)]
   | false =>
     refine cnF rfl ?_;rw [if_neg (by simp),Int.add_zero])
  (by
   rw [a9X hlen hN hp];unfold b1E;exact cnF geM rfl)
 exact key
end
section
variable {x:Ax} (hv:VX x) {c:List (List Int)} (hC:Cst x c) (hS:a2S x) (hvx:vX x=true)
theorem b6A (hv:VX x) : ∀ s∈(a1u x).map sI,InF (a3i x) s/\0<=s.2.1/\s.2.2<=1000:=by
 intro s hs;obtain ⟨u,hu,rfl⟩:=List.mem_map.1 hs;obtain ⟨hO,hp,_⟩:=a6e.1 hu;unfold prB at hp;rw [zp4,decide_eq_true_eq] at hp;obtain ⟨⟨t1,t2⟩,⟨_,t3⟩,_⟩:=hO;have h4:=hv.l4 u.1;unfold sI;refine ⟨⟨by show (u.2.1:Int)<(u.2.2:Int);omega,fun f hf => ?_⟩,by show (0:Int)<=(u.2.1:Int);omega,by show (u.2.2:Int)<=1000;omega⟩;obtain ⟨e1,e2,e3⟩:=(a1b f _).1 hf;have e1':f.1=(u.1:Int):=e1;have e2':(u.2.1:Int)<=f.2:=e2;have e3':f.2<(u.2.2:Int):=e3;refine a4q.2 ⟨by omega,by omega,by omega,?_⟩;rw [e1',Int.toNat_natCast];omega
theorem b9o {y:List (Int×Int)}:enB x y=true ↔ ∀ s∈(a1u x).map sI,∃ f∈y,a1e f s=true:=by
 unfold enB;rw [List.all_eq_true];constructor
 ·intro h s hs;obtain ⟨u,hu,rfl⟩:=List.mem_map.1 hs;have:=h u hu;unfold a8V at this;rw [List.any_eq_true] at this;exact this
 intro h u hu;unfold a8V;rw [List.any_eq_true];exact h _ (List.mem_map.2 ⟨u,hu,rfl⟩)
theorem c1D {q:Nat->Bool} (h:q 0=false) : ∀ n,((List.range n).filter q).length<=n-1
 | 0=>by simp
 | n+1=>by
   rw [List.range_succ_eq_map,List.filter_cons_of_neg (by simp [h])];have:=List.length_filter_le q (List.map Nat.succ (List.range n));simpa using this
theorem b1c (x:Ax) (t a n:Nat):((stA x t a n).filter (prB x)).length<=n-1:=by
 unfold stA;rw [List.filter_map,List.length_map,List.filter_filter];exact c1D (by simp [prB]) n
theorem c1E (x:Ax) (t n:Nat) (hn:n<=4) (h:(thX x t).length=n):((stT x t n).filter (prB x)).length<=6:=by
 have h0:=fun m=>b1c x t 0 m;have h1:=fun m=>b1c x t 1 m;have h2:=fun m=>b1c x t 2 m;have h3:=fun m=>b1c x t 3 m;unfold stT;rw [List.filter_flatMap,List.length_flatMap,h]
 match n,hn with
 | 0,_=>exact Nat.zero_le _
 | 1,_=>have a0:_<=0:=h0 1;simp [List.range_succ];omega
 | 2,_=>have a0:_<=1:=h0 2;have a1:_<=0:=h1 1;simp [List.range_succ];omega
 | 3,_=>have a0:_<=2:=h0 3;have a1:_<=1:=h1 2;have a2:_<=0:=h2 1;simp [List.range_succ];omega
 | 4,_=>have a0:_<=3:=h0 4;have a1:_<=2:=h1 3;have a2:_<=1:=h2 2;have a3:_<=0:=h3 1;simp [List.range_succ];omega
theorem b1d (hv:VX x):(a1u x).length<=18:=by
 refine Nat.le_trans (List.length_filter_le _ _) ?_;unfold a3o stX;rw [List.filter_flatMap];exact a6g (B:=6) (n:=3) (by simpa using hv.n3) (fun t _=>c1E x t _ (hv.l4 t) rfl)
theorem a6S (x:Ax):(a3i x).Nodup:=by
 rw [List.nodup_iff_pairwise_ne];refine (a7C x).imp fun {a b} h e => ?_;subst e;rcases h with h | ⟨_,h⟩ <;> omega
theorem a9b {α:Type} {l m:List α} (h:l.Perm m) (w:α->Int):a3Y l w=a3Y m w:=by
 induction h with
 | nil=>rfl
 | cons a _ ih=>rw [a0T,a0T,ih]
 | swap a b l=>rw [a0T,a0T,a0T,a0T];omega
 | trans _ _ ih1 ih2=>rw [ih1,ih2]
theorem b1e {N:List Pr3} {ps:List Int} (h:ps.length=N.length):a3Y (N.zip ps) (fun q=>q.2)=ps.sum:=by
 unfold a3Y;rw [show (N.zip ps).map (fun q=>q.2)=ps from List.map_snd_zip (by omega)]
include hv hC hS hvx
theorem c1F : ∃ out:List Int,N14 Ar.std (eA x) (a1d c)=some (out.map I,0)/\out.length=(a1u x).length/\(∀ n∈out,0<=n/\n<=100)/\(∀ f∈a3i x,paid f (((a1u x).map sI).zip out)<=a1t c f) /\
  ∃ S,okY x S/\enB x S=true/\a1n c S<=out.sum:=by
 have hN0:=b1d hv;have hIn:=b6A hv;have h9 : ∀ f∈a3i x,0<=a1t c f/\a1t c f<=9:=fun f hf=>by have:=a4s hv hC hf;omega
 obtain ⟨M,hM,hT⟩:=b6t hv hC;have e26:N26 Ar.std (eA x)=some (((a1u x).map sI).map a5p):=b0O hv;have e35:N35 Ar.std (eA x)=some ((a3i x).map a6w):=b0Q hv;have e32:=b7D hv hC hS hvx;have hlN:((a1u x).map sI).length=(a1u x).length:=List.length_map ..;have hen : ∀ {y},enB x y=true↔_:=fun {y}=>b9o (x:=x) (y:=y);generalize (a1u x).map sI=N at hIn e26 hlN hen ⊢;have hN:N.length<=18:=by omega
 obtain ⟨order,hord,hsort,e36⟩:=c1B N (a3j N.length) M (by rw [a2z];omega) (fun a ha=>a3A.1 ha);have hol:order.length=N.length:=by rw [hord.length_eq,a2z]
 obtain ⟨out,e4,hl,ho⟩:=b6v order (by omega) hord hIn M (a1t c) hT h9;have hperm:=b6w order (by omega) hord hIn (a1t c) out hl ho;obtain ⟨Q,hQ⟩ : ∃ Q,order.map (a2j N)=Q:=⟨_,rfl⟩;rw [hQ] at hperm;have hQm : ∀ s∈Q,s∈N:=fun s hs=>by
  rw [<-hQ] at hs;obtain ⟨o,ho,rfl⟩:=List.mem_map.1 hs;obtain ⟨o0,oN⟩:=a3A.1 (hord.mem_iff.1 ho);have:o.toNat<N.length:=by omega
  unfold a2j;rw [List.getD_eq_getElem?_getD,zp1 this];exact zp6 this
 have hQI : ∀ s∈Q,InF (a3i x) s:=fun s hs=>(hIn s (hQm s hs)).1;have hQl:Q.length=N.length:=by rw [<-hQ,List.length_map,hol]
 have hsorted:Q.Pairwise (fun s u=>s.2.2<=u.2.2):=by
  rw [<-hQ,List.pairwise_map,List.pairwise_iff_getElem];intro i j hi hj hij;have:=hsort i j hij (by rw [a2z];omega);unfold a3N at this;rw [List.getD_eq_getElem?_getD,zp1 hi,List.getD_eq_getElem?_getD,zp1 hj] at this;exact this
 have hmx : ∀ f∈a3i x,a1t c f<=9:=fun f hf=>(h9 f hf).2;have h0x : ∀ f∈a3i x,0<=a1t c f:=fun f hf=>(h9 f hf).1;have hnn:=a4t (mx:=9) (F:=a3i x) Q (a1t c) hQI hmx h0x;have hfit:=a6i (mx:=9) (F:=a3i x) Q (a1t c) hQI hmx h0x;obtain ⟨φ,hd,s1,s2⟩:=a4u (mx:=9) (F:=a3i x) (a6S x) Q (a1t c) hsorted hQI hmx h0x;have hgl:(a1j 9 Q (a1t c)).length=Q.length:=a4O 9 Q _;have hsum:out.sum=(a1j 9 Q (a1t c)).sum:=by
  rw [<-b1e hl,a9b hperm,b1e hgl]
 have hfs:((a3i x).filter (fun f=>decide (φ f))).Sublist (a3i x):=List.filter_sublist;refine ⟨out,?_,by omega,?_,?_,(a3i x).filter (fun f=>decide (φ f)),hfs,?_,?_⟩
 ·have hrep:Ar.std.rep (Ar.std.len (N.map a5p)) (.int .i64 0)=(List.replicate N.length (0:Int)).map I:=by
   rw [b8k,a5U,List.length_map,Int.toNat_natCast,List.map_replicate]
  unfold N14;refine bt e32 (cnT rfl (bt e26 (bt e35 (bt hM (bt (b6u N (by omega)) (bt e36 (bck (by simp) (bck (by rw [a1X,a5U];exact decide_eq_true (by omega)) (bck (by rw [b5M,a5U,List.length_map];exact decide_eq_true (by omega)) ?_)))))))));rw [hrep];exact bt e4 rfl
 ·intro n hn;have:n∈(N.zip out).map (fun q=>q.2):=by
   rw [show (N.zip out).map (fun q=>q.2)=out from List.map_snd_zip (by omega)];exact hn
  obtain ⟨q,hq,rfl⟩:=List.mem_map.1 this;have:=hnn q.2 (List.of_mem_zip (hperm.mem_iff.1 hq)).2;omega
 ·intro f hf;have:=hfit f hf;unfold paid at this ⊢;rw [a9b hperm];exact this
 ·refine hen.2 fun s hs => ?_;obtain ⟨i,hi,rfl⟩:=List.getElem_of_mem hs;have hsQ:N[i]∈Q:=by
   rw [<-hQ];refine List.mem_map.2 ⟨(i:Int),hord.mem_iff.2 (a3A.2 ⟨by omega,by omega⟩),?_⟩;unfold a2j;rw [Int.toNat_natCast,List.getD_eq_getElem?_getD,zp1 hi];rfl
  obtain ⟨f,f1,f2,f3⟩:=s1 _ hsQ;exact ⟨f,List.mem_filter.2 ⟨f1,decide_eq_true f2⟩,f3⟩
 rw [hsum];refine Int.le_trans (Int.le_of_eq ?_) s2;unfold a1n;rw [b6r hfs (a6S x)];refine a4M fun f hf => ?_;by_cases h:φ f
 ·rw [if_pos h,if_pos (List.mem_filter.2 ⟨hf,decide_eq_true h⟩)]
 have hno : ¬ f∈(a3i x).filter (fun f=>decide (φ f)):=fun hm=>by
  have hm2:decide (φ f)=true:=(List.mem_filter.1 hm).2;exact h (of_decide_eq_true hm2)
 rw [if_neg h,if_neg hno]
end
end Go.Am
