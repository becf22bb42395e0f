import Derived.Test.YtlljehkmemajkaaGreatGenp1
import Derived.Test.YtlljehkmemajkaaGreatNL2
set_option maxRecDepth 100000
set_option maxHeartbeats 2000000
set_option linter.unusedVariables false
set_option linter.unusedSimpArgs false
set_option linter.unusedSectionVars false
namespace Go.Am
open Go
theorem bt {α β:Type} {o:Option α} {f:α->Option β} {v:α} {r:Option β} (h:o=some v) (h2:f v=r):o.bind f=r:=by rw [h];exact h2
theorem cnT {α:Type} {b:Bool} {x y r:α} (h:b=true) (h2:x=r):(bif b then x else y)=r:=by rw [h];exact h2
theorem cnF {α:Type} {b:Bool} {x y r:α} (h:b=false) (h2:y=r):(bif b then x else y)=r:=by rw [h];exact h2
theorem ckT {b:Bool} (h:b=true):ck b=some ():=by subst h;rfl
theorem nkF {b:Bool} (h:b=false):nk b=some ():=by subst h;rfl
theorem bck {β:Type} {b:Bool} {f:Unit->Option β} {r:Option β} (h:b=true) (h2:f ()=r):(ck b).bind f=r:=bt (ckT h) h2
theorem bnk {β:Type} {b:Bool} {f:Unit->Option β} {r:Option β} (h:b=false) (h2:f ()=r):(nk b).bind f=r:=bt (nkF h) h2
abbrev cA3:Cod (Int×Int×Int):=cG (lc (cI .i64) (lc (cI .i64) (l1 (cI .i64))))
abbrev eT (l:List Ac):List D:=enc cA3 l
def eP (P:Pg):List D:=enc (cL 3) (P.map (enc cA3))
abbrev a1f (l:List Int):List D:=enc (cI .i64) l
def a1d (t:List (List Int)):List D:=enc (cL 1) (t.map (enc (cI .i64)))
@[simp] theorem c0y (P:Pg):(eP P).length=P.length:=by simp [eP]
@[simp] theorem b8s (t:List (List Int)):(a1d t).length=t.length:=by simp [a1d]
theorem a8F {P:Pg} {i:Nat} {r:List Ac} (h:P[i]?=some r):gt Ar.std (cL 3) (eP P) (i:Int)=some (eT r):=a2q h
def b6Z (P:Pg):Prop:=P.length<=5 /\ ∀ t∈P,t.length<=20
def btw (a b c:Int):Bool:=decide (a<=b)&&decide (b<=c)
def a6m (a:Ac):Bool:=bif decide (a.1=1) then btw 0 a.2.1 2&&decide (a.2.2=0) else bif decide (a.1=2) then btw 0 a.2.1 2&&btw 0 a.2.2 3 else decide (a=(3,0,0))
def wk (a:Ac):Bool := !decide (a.1=3)
def ld (a:Ac):Bool:=decide (a.1=1)
def nWk (t:List Ac):Nat:=t.countP wk
def nLd (t:List Ac):Nat:=t.countP ld
def b2m (t:List Ac):Bool:=decide (t.length<=7)&&t.all a6m&&decide (nWk t<=4)
def allW (P:Pg):Nat:=(P.map nWk).sum
def b3O (P:Pg):Bool:=P.all b2m&&(decide (1<=P.length)&&decide (P.length<=3))&&decide (allW P<=8)
theorem b7a (a b c:Int):N97 Ar.std a b c=some (btw a b c):=by
 unfold N97 btw;simp only [a1X];by_cases h:a<=b <;> simp [h]
theorem c0z (a:Ac):N94 Ar.std a.1 a.2.1 a.2.2=some (a6m a):=by
 obtain ⟨x,y,z⟩:=a;unfold N94 a6m;simp only [b7a,a2i];by_cases h1:x=1
 ·simp only [h1,decide_true,cond_true,Option.bind_some];by_cases h2:btw 0 y 2=true
  ·simp [h2]
  simp [h2]
 by_cases h2:x=2
 ·subst h2;simp only [decide_true,cond_true,Option.bind_some];by_cases h3:btw 0 y 2=true
  ·simp [h3]
  simp [h3]
 simp [h1,h2,Ar.std]
theorem c0A (a:Ac):N93 Ar.std a.1 a.2.1 a.2.2=some (!a6m a):=by
 unfold N93;rw [c0z];rfl
theorem c0B {t:List Ac} (ht:t.length<=20):N92 Ar.std (eT t)=some (t.any fun a => !a6m a):=by
 have e:b9H Ar.std (eT t)=some ((t.findIdx? fun a => !a6m a).elim (-1) (fun i=>(i:Int))):=by
  unfold b9H;rw [a2f t (fun a => !a6m a) (fun i=>Sum.inr (i:Int)) (Sum.inl ()) (fun i a ha hi=>by
   unfold b0f;rw [a0K];refine cnT (by simp [hi]) (bt (a0B ha) ?_);refine bt (c0A a) ?_;simp only [a0j,a0u];rw [a5g hi (by omega)];cases a6m a <;> rfl) (by
   unfold b0f;rw [a0K];exact cnF (by simp) rfl)]
  rw [Option.bind_some];exact b3M _ _
 unfold N92;rw [e,Option.bind_some];simp only [a1X];rw [b8r]
theorem b7b {t:List Ac} (ht:t.length<=20):N95 Ar.std (eT t)=some (nWk t:Int):=by
 unfold N95;have:=a2E (step:=b2B Ar.std (eT t)) t (fun l=>(nWk l:Int)) (fun s i=>(s,(i:Int))) id (fun i a ha hi=>by
  unfold b2B;rw [a0K];refine cnT (by simp [hi]) (bt (a0B ha) ?_);refine bt (v:=wk a) rfl ?_;have hb:nWk (t.take i)<=i:=by unfold nWk;exact Nat.le_trans (List.countP_le_length) (by simp;omega)
  simp only [a0j,a0u];rw [a5g hi (by omega)];unfold nWk at hb ⊢;rw [List.countP_append,List.countP_singleton];cases wk a with
  | true=>simp only [cond_true,Option.bind_some,if_true];rw [a2W _ (by omega) (by omega)];simp
  | false=>simp) (by
  unfold b2B;rw [a0K];exact cnF (by simp) rfl)
 rw [show ((0:Int),(0:Int))=((nWk []:Int),((0:Nat):Int)) from rfl,this]
 rfl
theorem a9z {t:List Ac} (ht:t.length<=20):b7M Ar.std (eT t)=some (nLd t:Int):=by
 unfold b7M;have:=a2E (step:=a7V Ar.std (eT t)) t (fun l=>(nLd l:Int)) (fun s i=>(s,(i:Int))) id (fun i a ha hi=>by
  unfold a7V;rw [a0K];refine cnT (by simp [hi]) (bt (a0B ha) ?_);refine bt (v:=ld a) rfl ?_;have hb:nLd (t.take i)<=i:=by unfold nLd;exact Nat.le_trans (List.countP_le_length) (by simp;omega)
  simp only [a0j,a0u];rw [a5g hi (by omega)];unfold nLd at hb ⊢;rw [List.countP_append,List.countP_singleton];cases ld a with
  | true=>simp only [cond_true,Option.bind_some,if_true];rw [a2W _ (by omega) (by omega)];simp
  | false=>simp) (by
  unfold a7V;rw [a0K];exact cnF (by simp) rfl)
 rw [show ((0:Int),(0:Int))=((nLd []:Int),((0:Nat):Int)) from rfl,this]
 rfl
theorem c0C {P:Pg} (hP:b6Z P):N56 Ar.std (eP P)=some (b3O P):=by
 unfold N56;have key:=a2g (step:=b1I Ar.std (eP P)) P.length (fun (s:Int) i=>(s,(i:Int))) (fun i s=>s=(allW (P.take i):Int)/\(P.take i).all b2m=true) (fun i x=>x = .inr ()/\P.all b2m=false) (fun s => .inl s)
  (fun i s hi hR=>by
   obtain ⟨rfl,hall⟩:=hR;have ha:=zp1 hi;generalize hr:P[i]=r at ha;have hrm:r∈P:=List.mem_of_getElem? ha;have hl:=hP.2 r hrm;have hstep:b1I Ar.std (eP P) ((allW (P.take i):Int),(i:Int))=some (bif b2m r then .inl ((allW (P.take i)+nWk r:Nat),((i+1:Nat):Int)) else .inr (.inr ())):=by
    unfold b1I;refine cnT (by simp [hi]) (bt (a8F ha) ?_);have hb:allW (P.take i)<=100:=by
     have : ∀ (Q:Pg),(∀ t∈Q,t.length<=20)->allW Q<=20*Q.length:=by
      intro Q
      induction Q with
      | nil=>intro _;simp [allW]
      | cons t Q ih =>
        intro hQ;have h1:=ih (fun t ht=>hQ t (by simp [ht]));have h2:nWk t<=20:=Nat.le_trans (List.countP_le_length) (hQ t (by simp));simp only [allW,List.map_cons,List.sum_cons,List.length_cons] at h1 ⊢;omega
     have h1:=this (P.take i) (fun t ht=>hP.2 t (List.mem_of_mem_take ht));have h2:=hP.1;simp only [List.length_take] at h1;omega
    have hn:nWk r<=20:=Nat.le_trans (List.countP_le_length) hl;have hv:((bif Ar.std.zlt 7 (Ar.std.len (eT r)) then some true else (N92 Ar.std (eT r)).bind fun r27=>bif r27 then some true else (N95 Ar.std (eT r)).bind fun r30=>some (Ar.std.zlt 4 r30):Option Bool))=some (!b2m r):=by
     rw [a0K,c0B hl,b7b hl];simp only [a0R,Option.bind_some,b2m];by_cases h1:r.length<=7
     ·rw [cnF (r:=_) (by simp;omega) rfl];rw [b0y];simp only [h1,decide_true,Bool.true_and];cases r.all a6m with
      | false=>rfl
      | true =>
        simp only [Bool.not_true,cond_false,Bool.true_and,zp3];rw [<-decide_not,decide_eq_decide];omega
     rw [cnT (r:=_) (by simp;omega) rfl];simp [h1]
    refine bt hv ?_;cases b2m r with
    | false=>rfl
    | true =>
      simp only [Bool.not_true,cond_false,cond_true];refine bt (b7b hl) ?_;simp only [a0j,a0u];rw [a2W _ (by omega) (by omega),a2W _ (by have:=hP.1;omega) (by have:=hP.1;omega)];simp
   cases hv:b2m r with
   | true =>
     rw [hv] at hstep;refine .inl ⟨_,⟨?_,?_⟩,hstep⟩
     ·rw [a0g ha];simp [allW,List.map_append]
     rw [a0g ha,List.all_append,hall];simp [hv]
   | false =>
     rw [hv] at hstep;refine .inr ⟨_,⟨rfl,?_⟩,hstep⟩;rw [Bool.eq_false_iff];intro h;rw [List.all_eq_true] at h;rw [h r hrm] at hv;cases hv)
  (fun s hs=>by
   unfold b1I;exact cnF (by simp) rfl) 0 ⟨by simp [allW],by simp⟩
 rcases key with ⟨s,⟨rfl,hall⟩,h⟩ | ⟨i,x,_,⟨rfl,hall⟩,h⟩
 ·rw [List.take_length] at hall h;refine bt (v := .inl (allW P:Int)) h ?_;simp only [Sum.elim_inl,b7a,Option.bind_some,a1X];unfold b3O;rw [hall];have e:btw 1 (Ar.std.len (eP P)) 3=(decide (1<=P.length)&&decide (P.length<=3)):=by
   unfold btw;simp;congr 1
   ·rw [decide_eq_decide];omega
   rw [decide_eq_decide];omega
  rw [e];cases (decide (1<=P.length)&&decide (P.length<=3)) with
  | true =>
    simp only [cond_true,Option.bind_some,Bool.true_and,zp3];rw [decide_eq_decide];omega
  | false=>rfl
 refine bt (v := .inr ()) h ?_;unfold b3O;rw [hall];rfl
abbrev Sta:=Nat->Int
def kd (i:Nat):IntKind:=if i<3 then .u8 else if i<38 then .i8 else .i64
def eS (s:Sta):List D:=(List.range 41).map fun i=>D.int (kd i) (s i)
theorem a6H (s:Sta):(eS s).length=41:=by simp [eS]
theorem a5W (s:Sta) {i:Nat} (h:i<41):(eS s)[i]?=some (.int (kd i) (s i)):=by
 unfold eS;rw [List.getElem?_map,List.getElem?_range h];rfl
theorem b8t (s:Sta) {i:Nat} (h : ¬ i<41):(eS s)[i]?=none:=by
 rw [List.getElem?_eq_none];rw [a6H];omega
theorem c0D (s:Sta) {i:Nat} (h:i<41) (v:Int):(eS s).set i (.int (kd i) v)=eS (fup s i v):=by
 apply List.ext_getElem?;intro j;by_cases hj:j<41
 ·rw [a5W _ hj];by_cases hij:i=j
  ·subst hij;rw [List.getElem?_set_self (by rw [a6H];exact h),a1H]
  rw [List.getElem?_set_ne hij,a5W _ hj,a0I _ _ _ (Ne.symm hij)]
 rw [b8t _ hj,List.getElem?_eq_none];rw [List.length_set,a6H];omega
theorem b7c {s u:Sta} (h:eS s=eS u) (hs : ∀ i,41<=i->s i=0) (hu : ∀ i,41<=i->u i=0):s=u:=by
 funext i;by_cases hi:i<41
 ·have h1:=a5W s hi;rw [h,a5W u hi] at h1;simp at h1;exact h1.symm
 rw [hs i (by omega),hu i (by omega)]
theorem kd8 {i:Nat} (h:i<3):kd i = .u8:=by unfold kd;rw [if_pos h]
theorem kdi {i:Nat} (h:3<=i) (h2:i<38):kd i = .i8:=by unfold kd;rw [if_neg (by omega),if_pos h2]
theorem kdw {i:Nat} (h:38<=i):kd i = .i64:=by unfold kd;rw [if_neg (by omega),if_neg (by omega)]
theorem gcS (s:Sta) {i:Nat} {k:IntKind} (h:i<41) (hk:kd i=k):gc Ar.std (cI k) (eS s) i=some (s i):=by
 unfold gc;show ((eS s)[i]?).bind _=_;rw [a5W s h,hk];simp [cI]
theorem b8u (s:Sta) {i:Nat} {k:IntKind} (h:i<41) (hk:kd i=k):Ar.std.lget (eS s) i=some (.int k (s i)):=by
 show (eS s)[i]?=_;rw [a5W s h,hk]
theorem b8v (s:Sta) {i:Nat} {k:IntKind} (h:i<41) (hk:kd i=k) (v:Int):Ar.std.lset (eS s) i (.int k v)=eS (fup s i v):=by
 show (eS s).set i _=_;rw [<-hk,c0D s h]
theorem b2g (s:Sta):Ar.std.len (eS s)=41:=by show ((eS s).length:Int)=41;rw [a6H];rfl
theorem c0E (s:Sta):Ar.std.ones (eS s)=true:=by
 show (eS s).all D.isOne=true;unfold eS;rw [List.all_map,List.all_eq_true];intro i _;rfl
theorem c5v (s:Sta):Ar.std.sub (eS s) 0 41=eS s:=by
 show ((eS s).drop (0:Int).toNat).take _=_;rw [List.take_of_length_le]
 ·rfl
 rw [List.length_drop,a6H];simp
theorem c5w (s:Sta) (z:List D) (hz:z.length=41):Ar.std.spl z 0 (eS s)=eS s:=by
 show z.take (0:Int).toNat++eS s++z.drop ((0:Int).toNat+(eS s).length)=eS s;rw [a6H,List.drop_eq_nil_of_le (by simp;omega)];simp
theorem gaS (s:Sta) {p:Int} (hp:p=0):ga Ar.std (eS s) p (Int.ofNat 41)=some (eS s):=by
 subst hp;have e1:Ar.std.sub (eS s) 0 (Ar.std.zadd 0 (Int.ofNat 41))=eS s:=c5v s;unfold ga;rw [e1,c0E,b2g];simp
theorem c0F (s:Sta) (z:List D) (hz:z.length=41) {p:Int} (hp:p=0):Ar.std.spl z p (eS s)=eS s:=by subst hp;exact c5w s z hz
theorem c0G {z:Int} {n:Nat} (h:z=n):Ar.std.nat z=n:=by subst h;rfl
theorem b8w : ∀ (a:Fin 128) (v:Fin 8),a2I .and .u8 ((a.val:Int).fdiv (2 ^ (min v.val IntKind.u8.bits))) 1=if a.val.testBit v.val then 1 else 0:=by decide +kernel
theorem b8x : ∀ (a:Fin 128) (v:Fin 7),a2I .or .u8 (a.val:Int) (IntKind.u8.wrap (1*2 ^ (min v.val IntKind.u8.bits)))=((a.val ||| 2 ^ v.val:Nat):Int):=by decide +kernel
theorem b8y : ∀ (n:Fin 8),IntKind.u8.wrap (IntKind.u8.wrap (1*2 ^ (min n.val IntKind.u8.bits))-1)=((2 ^ n.val-1:Nat):Int):=by decide +kernel
def btI (a:Int) (i:Nat):Bool:=a.toNat.testBit i
theorem c4e {a:Int} {v:Nat} (h0:0<=a) (h1:a<128) (hv:v<8):Ar.std.bits .and .u8 (Ar.std.shr .u8 a (v:Int)) 1=if btI a v then 1 else 0:=by
 obtain ⟨n,rfl⟩:=zp9 h0;have:=b8w ⟨n,by omega⟩ ⟨v,hv⟩;exact this
theorem c0H {a:Int} {v:Nat} (h0:0<=a) (h1:a<128) (hv:v<8):Ar.std.zeq (Ar.std.bits .and .u8 (Ar.std.shr .u8 a (v:Int)) 1) 1=btI a v:=by
 rw [c4e h0 h1 hv];cases btI a v <;> rfl
theorem c3x {a:Int} {v:Nat} (h0:0<=a) (h1:a<128) (hv:v<8):Ar.std.zeq (Ar.std.bits .and .u8 (Ar.std.shr .u8 a (v:Int)) 1) 0 = !btI a v:=by
 rw [c4e h0 h1 hv];cases btI a v <;> rfl
def a7K (a:Int) (i:Nat):Int:=((a.toNat ||| 2 ^ i:Nat):Int)
theorem c5x {a:Int} {v:Nat} (h0:0<=a) (h1:a<128) (hv:v<7):Ar.std.bits .or .u8 a (Ar.std.shl .u8 1 (v:Int))=a7K a v:=by
 obtain ⟨n,rfl⟩:=zp9 h0;have:=b8x ⟨n,by omega⟩ ⟨v,hv⟩;exact this
theorem c5y {n:Nat} (hn:n<8):Ar.std.wrp .u8 (Ar.std.zsub (Ar.std.shl .u8 1 (n:Int)) 1)=((2 ^ n-1:Nat):Int):=b8y ⟨n,hn⟩
theorem a7u (a:Int) (i j:Nat):btI (a7K a i) j=(btI a j||decide (j=i)):=by
 unfold btI a7K;rw [Int.toNat_natCast,Nat.testBit_or,Nat.testBit_two_pow];congr 1;rw [decide_eq_decide];exact eq_comm
theorem b8z {a:Int} {i n:Nat} (h0:0<=a) (h:a<(2 ^ n:Nat)) (hi:i<n):0<=a7K a i/\a7K a i<(2 ^ n:Nat):=by
 unfold a7K;refine ⟨Int.natCast_nonneg _,?_⟩;have h1:a.toNat<2 ^ n:=by omega
 have h2:2 ^ i<2 ^ n:=Nat.pow_lt_pow_right (by omega) hi;have:=Nat.or_lt_two_pow h1 h2;omega
theorem b3P {a:Int} {n:Nat} (h0:0<=a) (h:a<(2 ^ n:Nat)):a=((2 ^ n-1:Nat):Int) ↔ ∀ i,i<n->btI a i=true:=by
 obtain ⟨m,rfl⟩:=zp9 h0;have hm:m<2 ^ n:=by omega
 unfold btI;rw [Int.toNat_natCast];constructor
 ·intro e i hi;have:m=2 ^ n-1:=by omega
  rw [this,Nat.testBit_two_pow_sub_one];simp [hi]
 intro hb;have:m=2 ^ n-1:=by
  apply Nat.eq_of_testBit_eq;intro i;rw [Nat.testBit_two_pow_sub_one];by_cases hi:i<n
  ·rw [hb i hi];simp [hi]
  rw [Nat.testBit_lt_two_pow (Nat.lt_of_lt_of_le hm (Nat.pow_le_pow_right (by omega) (by omega)))];simp [hi]
 omega
theorem b7d {a:Int} {n i:Nat} (h0:0<=a) (h:a<(2 ^ n:Nat)) (hi:n<=i):btI a i=false:=by
 unfold btI;exact Nat.testBit_lt_two_pow (Nat.lt_of_lt_of_le (by omega) (Nat.pow_le_pow_right (by omega) hi))
structure VP (P:Pg):Prop where
 n1:1<=P.length
 n3:P.length<=3
 l7 : ∀ t,(thr P t).length<=7
 w4 : ∀ t,nWk (thr P t)<=4
 w8:allW P<=8
 act : ∀ t i,i<(thr P t).length->a6m (aAt (thr P t) i)=true
theorem a3e {P:Pg} {t:Nat} (h:P.length<=t):thr P t=[]:=by
 unfold thr;rw [List.getD_eq_getElem?_getD,List.getElem?_eq_none h];rfl
theorem a1U {P:Pg} {t:Nat} (h:t<P.length):P[t]?=some (thr P t):=by
 unfold thr;rw [List.getD_eq_getElem?_getD,zp1 h];rfl
theorem a3z {l:List Ac} {i:Nat} (h:i<l.length):l[i]?=some (aAt l i):=by
 unfold aAt;rw [List.getD_eq_getElem?_getD,zp1 h];rfl
theorem VP.of {P:Pg} (h:b3O P=true):VP P:=by
 unfold b3O at h;simp only [zp4,decide_eq_true_eq,List.all_eq_true] at h;obtain ⟨⟨h1,h2,h3⟩,h4⟩:=h;have hv : ∀ t,t<P.length->(thr P t).length<=7/\(∀ a∈thr P t,a6m a=true)/\nWk (thr P t)<=4:=by
  intro t ht;have:=h1 _ (List.mem_of_getElem? (a1U ht));unfold b2m at this;simp only [zp4,decide_eq_true_eq,List.all_eq_true] at this;exact ⟨this.1.1,this.1.2,this.2⟩
 refine ⟨h2,h3,fun t => ?_,fun t => ?_,h4,fun t i hi => ?_⟩
 ·rcases Nat.lt_or_ge t P.length with ht | ht
  ·exact (hv t ht).1
  rw [a3e ht];simp
 ·rcases Nat.lt_or_ge t P.length with ht | ht
  ·exact (hv t ht).2.2
  rw [a3e ht];simp [nWk]
 rcases Nat.lt_or_ge t P.length with ht | ht
 ·exact (hv t ht).2.1 _ (List.mem_of_getElem? (a3z hi))
 rw [a3e ht] at hi;simp at hi
theorem VP.to {P:Pg} (h:VP P):b3O P=true:=by
 unfold b3O;simp only [zp4,decide_eq_true_eq,List.all_eq_true];refine ⟨⟨fun t ht => ?_,h.n1,h.n3⟩,h.w8⟩;obtain ⟨i,hi,rfl⟩:=List.mem_iff_getElem.1 ht;have e:P[i]=thr P i:=by have:=a1U hi;rw [zp1 hi] at this;exact Option.some.inj this
 unfold b2m;simp only [zp4,decide_eq_true_eq,List.all_eq_true];refine ⟨⟨by rw [e];exact h.l7 i,fun a ha => ?_⟩,by rw [e];exact h.w4 i⟩;rw [e] at ha;obtain ⟨j,hj,rfl⟩:=List.mem_iff_getElem.1 ha;have:=h.act i j hj;have e2:=a3z hj;rw [zp1 hj] at e2;rw [Option.some.inj e2];exact this
theorem VP.short {P:Pg} (h:VP P):b6Z P:=by
 refine ⟨by have:=h.n3;omega,fun t ht => ?_⟩;obtain ⟨i,hi,rfl⟩:=List.mem_iff_getElem.1 ht;have e:P[i]=thr P i:=by have:=a1U hi;rw [zp1 hi] at this;exact Option.some.inj this
 rw [e];have:=h.l7 i;omega
theorem a8G {a:Ac} (h:a6m a=true):(a.1=1/\0<=a.2.1/\a.2.1<=2/\a.2.2=0)\/(a.1=2/\0<=a.2.1/\a.2.1<=2/\0<=a.2.2/\a.2.2<=3)\/a=(3,0,0):=by
 unfold a6m at h;by_cases h1:a.1=1
 ·rw [decide_eq_true h1,cond_true] at h;simp [btw] at h;exact .inl ⟨h1,h.1.1,h.1.2,h.2⟩
 rw [decide_eq_false h1,cond_false] at h;by_cases h2:a.1=2
 ·rw [decide_eq_true h2,cond_true] at h;simp [btw] at h;exact .inr (.inl ⟨h2,h.1.1,h.1.2,h.2.1,h.2.2⟩)
 rw [decide_eq_false h2,cond_false] at h;exact .inr (.inr (by simpa using h))
def num (P:Pg) (t i:Nat):Nat:=((P.take t).map nLd).sum+nLd ((thr P t).take i)
def a9A (s:Sta) (t:Nat):List (Int×Int):=(List.range (s (38+t)).toNat).map fun j=>(s (14+8*t+2*j),s (14+8*t+2*j+1))
def vw (P:Pg) (s:Sta):AS where
 dn t i:=decide (t<3)&&btI (s t) i
 rd t i:=if (aAt (thr P t) i).1=1 then s (3+num P t i) else 0
 bf t:=if t<3 then a9A s t else []
 ce c:=if 0<=c/\c<=2 then s (11+c.toNat) else 0
def stD (l:List Ac) (a:Int):Nat:=((List.range l.length).filter fun i=>decide ((aAt l i).1=2)&&btI a i).length
structure Wf (P:Pg) (s:Sta):Prop where
 d : ∀ t,t<3->0<=s t/\s t<(2 ^ (thr P t).length:Nat)
 r : ∀ n,n<8->0<=s (3+n)/\s (3+n)<=3
 c : ∀ n,n<3->0<=s (11+n)/\s (11+n)<=3
 b : ∀ t (j:Nat),t<3->(j:Int)<s (38+t)->0<=s (14+8*t+2*j)/\s (14+8*t+2*j)<=2/\0<=s (14+8*t+2*j+1)/\s (14+8*t+2*j+1)<=3
 w : ∀ t,t<3->0<=s (38+t)/\s (38+t)<=(stD (thr P t) (s t):Int)
 z : ∀ i,41<=i->s i=0
def s0:Sta:=fun _=>0
theorem Wf.init (P:Pg):Wf P s0:=by
 refine ⟨fun t _=>⟨Int.le_refl _,?_⟩,fun _ _=>⟨Int.le_refl _,by simp [s0]⟩,fun _ _=>⟨Int.le_refl _,by simp [s0]⟩,fun t j _ h => ?_,fun t _=>⟨Int.le_refl _,Int.natCast_nonneg _⟩,fun _ _=>rfl⟩
 ·show (0:Int)<_;have:=Nat.two_pow_pos (thr P t).length;omega
 have:(j:Int)<0:=h;omega
theorem Wf.d7 {P:Pg} (hv:VP P) {s:Sta} (h:Wf P s) {t:Nat} (ht:t<3):0<=s t/\s t<128:=by
 obtain ⟨h1,h2⟩:=h.d t ht;refine ⟨h1,?_⟩;have:2 ^ (thr P t).length<=2 ^ 7:=Nat.pow_le_pow_right (by omega) (hv.l7 t);omega
theorem c0I (l:List Ac) (a:Int):stD l a<=nWk l:=by
 unfold stD nWk;have:(l.countP wk)=((List.range l.length).filter fun i=>wk (aAt l i)).length:=by
  have e:l=(List.range l.length).map (aAt l):=by
   apply List.ext_getElem?;intro i;by_cases hi:i<l.length
   ·rw [List.getElem?_map,List.getElem?_range hi,a3z hi];rfl
   rw [List.getElem?_eq_none (by omega),List.getElem?_eq_none (by simp;omega)]
  conv=>lhs;rw [e]
  rw [List.countP_map,List.countP_eq_length_filter];rfl
 rw [this,<-List.countP_eq_length_filter,<-List.countP_eq_length_filter];refine List.countP_mono_left fun i _ h => ?_;simp only [zp4,decide_eq_true_eq] at h;unfold wk;simp [h.1]
theorem Wf.w4 {P:Pg} (hv:VP P) {s:Sta} (h:Wf P s) {t:Nat} (ht:t<3):0<=s (38+t)/\s (38+t)<=4:=by
 obtain ⟨h1,h2⟩:=h.w t ht;have:=c0I (thr P t) (s t);have:=hv.w4 t;omega
theorem b3Q (P:Pg):vw P s0=AS.init:=by
 unfold vw AS.init s0 a9A btI;congr 1
 ·funext t i;simp
 ·funext t i;simp
 ·funext t;simp
 funext c;simp
def a4Z (a:Int):Nat->Nat->Nat
 | 0,i=>i
 | n+1,i=>bif btI a i then a4Z a n (i+1) else i
def nx (s:Sta) (t:Nat):Nat:=a4Z (s t) 8 0
theorem a5X {a:Int} {n:Nat} (h0:0<=a) (h:a<(2 ^ n:Nat)) : ∀ (k i:Nat),i+k=n+1->(∀ j,j<i->btI a j=true)->i<=n ->
  (∀ j,j<a4Z a k i->btI a j=true)/\btI a (a4Z a k i)=false/\a4Z a k i<=n
 | 0,i,hk,hb,hi=>by omega
 | k+1,i,hk,hb,hi=>by
   unfold a4Z;cases hbi:btI a i with
   | false=>rw [cond_false];exact ⟨hb,hbi,hi⟩
   | true =>
     rw [cond_true];have hin:i<n:=by
      rcases Nat.lt_or_ge i n with h' | h'
      ·exact h'
      rw [b7d h0 h h'] at hbi;cases hbi
     refine a5X h0 h k (i+1) (by omega) (fun j hj => ?_) (by omega);rcases Nat.lt_or_eq_of_le (Nat.le_of_lt_succ hj) with h' | h'
     ·exact hb j h'
     rw [h'];exact hbi
theorem b3R {S:Type} {step:Int->Option (Int⊕S)} {a:Int} {f:Int->S} (h : ∀ i:Nat,i<8->step (i:Int)=some (bif btI a i then .inl ((i+1:Nat):Int) else .inr (f i))) :
  ∀ (k i:Nat),i+k=8->btI a 7=false->i<=7->iter step (i:Int)=some (f (a4Z a k i))
 | 0,i,hk,hb,hi=>by omega
 | k+1,i,hk,hb,hi=>by
   unfold a4Z;have:=h i (by omega);cases hbi:btI a i with
   | false=>rw [hbi] at this;rw [cond_false];exact a0w this
   | true =>
     rw [hbi] at this;rw [a1l this,cond_true];have:i≠7:=by rintro rfl;rw [hb] at hbi;cases hbi
     exact b3R h k (i+1) (by omega) hb (by omega)
section
variable {P:Pg} (hv:VP P) {s:Sta} (hs:Wf P s)
include hv hs
theorem b3S {t:Nat} (ht:t<3):(∀ j,j<nx s t->btI (s t) j=true)/\btI (s t) (nx s t)=false/\nx s t<=7:=by
 obtain ⟨h1,h2⟩:=hs.d7 hv ht;exact a5X (n:=7) h1 (by omega) 8 0 rfl (fun j hj=>by omega) (by omega)
theorem b8A {t:Nat} (ht:t<3):b9J Ar.std (eS s) (t:Int)=some (nx s t:Int):=by
 obtain ⟨h1,h2⟩:=hs.d7 hv ht;unfold b9J;refine bck (by rw [b2g];rfl) ?_;have:=b3R (step:=b0g Ar.std (eS s) (t:Int)) (a:=s t) (f:=fun z=>z) (fun i hi=>by
  unfold b0g;refine bck (by simp) (bck (by simp;omega) ?_);have e:Ar.std.nat (Ar.std.zadd 0 (Ar.std.zmul (t:Int) (Int.ofNat 1)))=t:=c0G (by simp);rw [e];refine bt (gcS s (by omega) (kd8 ht)) (bnk (by simp) ?_);rw [c0H h1 h2 hi];simp only [a0j,a0u];rw [a2W _ (by omega) (by omega)];cases btI (s t) i <;> rfl) 8 0 rfl (b7d (n:=7) h1 (by omega) (Nat.le_refl _)) (by omega)
 exact bt this rfl
def a5h (P:Pg) (s:Sta):Bool:=(List.range P.length).all fun t=>decide (s t=((2 ^ (thr P t).length-1:Nat):Int)) && !decide (0<s (38+t))
theorem c0J:N58 Ar.std (eS s) (eP P)=some (a5h P s):=by
 unfold N58;refine bck (by rw [b2g];rfl) ?_;have key:=a7s (step:=b2C Ar.std (eS s) (eP P)) P.length (fun t => !(decide (s t=((2 ^ (thr P t).length-1:Nat):Int)) && !decide (0<s (38+t)))) (.inr ()) (.inl ()) (fun t ht=>by
  have ht3:t<3:=by have:=hv.n3;omega
  have hl:=hv.l7 t;unfold b2C;refine cnT (by simp [ht]) ?_;have e1:Ar.std.nat (Ar.std.zadd 0 (Ar.std.zmul (t:Int) (Int.ofNat 1)))=t:=c0G (by simp);have e2:Ar.std.nat (Ar.std.zadd (Ar.std.zadd 0 (Ar.std.zmul (t:Int) (Int.ofNat 1))) (Int.ofNat 38))=38+t:=c0G (by simp;omega);rw [e1,e2];refine bt (v := !(decide (s t=((2 ^ (thr P t).length-1:Nat):Int)) && !decide (0<s (38+t)))) ?_ ?_
  ·refine bck (by simp) (bck (by simp;omega) (bt (gcS s (by omega) (kd8 ht3)) (bt (a8F (a1U ht)) (bnk (by rw [a0K];simp) ?_))));rw [a0K,c5y (by omega)];simp only [a2i];by_cases h:s t=((2 ^ (thr P t).length-1:Nat):Int)
   ·refine cnT (by rw [decide_eq_true h]) (bck (by simp) (bck (by simp;omega) (bt (gcS s (by omega) (kdw (by omega))) ?_)));rw [decide_eq_true h];simp
   refine cnF (by rw [decide_eq_false h]) ?_;rw [decide_eq_false h];rfl
  ·simp only [a0j,a0u];rw [a2W _ (by omega) (by omega)];cases (!(decide (s t=((2 ^ (thr P t).length-1:Nat):Int)) && !decide (0<s (38+t)))) <;> rfl) (by
  unfold b2C;exact cnF (by simp) rfl)
 refine bt key ?_;unfold a5h;rw [b0y];cases (List.range P.length).all fun t=>decide (s t=((2 ^ (thr P t).length-1:Nat):Int)) && !decide (0<s (38+t)) <;> rfl
theorem a8H:a5h P s=true↔b9A P (vw P s):=by
 unfold a5h b9A;rw [List.all_eq_true];constructor
 ·intro h t ht;have ht3:t<3:=by have:=hv.n3;omega
  have:=h t (List.mem_range.2 ht);simp only [zp4,decide_eq_true_eq,Bool.not_eq_true',decide_eq_false_iff_not] at this;obtain ⟨h1,h2⟩:=hs.d t ht3;refine ⟨fun i hi => ?_,?_⟩
  ·show (decide (t<3)&&btI (s t) i)=true;rw [decide_eq_true ht3,Bool.true_and];exact (b3P h1 h2).1 this.1 i hi
  show (if t<3 then a9A s t else [])=[]
  rw [if_pos ht3];unfold a9A;have:(s (38+t)).toNat=0:=by omega
  rw [this];rfl
 intro h t ht;have ht:=List.mem_range.1 ht;have ht3:t<3:=by have:=hv.n3;omega
 obtain ⟨h1,h2⟩:=hs.d t ht3;obtain ⟨ha,hb⟩:=h t ht;simp only [zp4,decide_eq_true_eq,Bool.not_eq_true',decide_eq_false_iff_not];refine ⟨(b3P h1 h2).2 fun i hi => ?_,?_⟩
 ·have:=ha i hi;change (decide (t<3)&&btI (s t) i)=true at this;rw [decide_eq_true ht3,Bool.true_and] at this;exact this
 change (if t<3 then a9A s t else [])=[] at hb
 rw [if_pos ht3] at hb;unfold a9A at hb;rw [List.map_eq_nil_iff,List.range_eq_nil] at hb;omega
end
theorem a3f (l:List Ac) (i:Nat):nLd (l.take i)<=nLd l:=by
 unfold nLd;exact (List.take_sublist i l).countP_le
theorem a3G (l:List Ac):nLd l<=nWk l:=by
 unfold nLd nWk;refine List.countP_mono_left fun a _ h => ?_;unfold ld wk at *;simp at h ⊢;omega
theorem a2a {l:List Ac} {i:Nat} (h:i<l.length):nLd (l.take (i+1))=nLd (l.take i)+if (aAt l i).1=1 then 1 else 0:=by
 rw [a0g (a3z h)];unfold nLd;rw [List.countP_append,List.countP_singleton];unfold ld;by_cases h:(aAt l i).1=1 <;> simp [h]
def sumLd (P:Pg):Nat:=(P.map nLd).sum
theorem a3H {P:Pg} {t:Nat} (h:t<P.length):sumLd (P.take (t+1))=sumLd (P.take t)+nLd (thr P t):=by
 rw [a0g (a1U h)];unfold sumLd;simp
theorem a3I (P:Pg) {t u:Nat} (h:t<=u):sumLd (P.take t)<=sumLd (P.take u):=by
 induction u with
 | zero=>obtain rfl:t=0:=by omega
         exact Nat.le_refl _
 | succ u ih =>
   rcases Nat.lt_or_eq_of_le h with h' | h'
   ·refine Nat.le_trans (ih (by omega)) ?_;by_cases hu:u<P.length
    ·rw [a3H hu];omega
    rw [List.take_of_length_le (by omega),List.take_of_length_le (by omega)];exact Nat.le_refl _
   subst h';exact Nat.le_refl _
theorem a2Q (P:Pg):sumLd P<=allW P:=by
 unfold sumLd allW
 induction P with
 | nil=>exact Nat.le_refl _
 | cons t P ih=>simp only [List.map_cons,List.sum_cons];have:=a3G t;omega
theorem b0z {P:Pg} {t i:Nat} (ht:t<P.length) (hi:i<(thr P t).length) (hl:(aAt (thr P t) i).1=1):num P t i<sumLd P:=by
 have h1:=a2a hi;rw [if_pos hl] at h1;have h2:=a3f (thr P t) (i+1);have h3:=a3H ht;have h4:=a3I P (show t+1<=P.length by omega);rw [List.take_length] at h4;unfold num;unfold sumLd at *;omega
theorem b8B {P:Pg} {t i u j:Nat} (ht:t<P.length) (hi:i<(thr P t).length) (hl:(aAt (thr P t) i).1=1) (hu:u<P.length) (hj:j<(thr P u).length) (hl':(aAt (thr P u) j).1=1) (h:num P t i=num P u j):t=u/\i=j:=by
 have hlt : ∀ {t u i j},t<u->u<P.length->i<(thr P t).length->(aAt (thr P t) i).1=1->num P t i<num P u j:=by
  intro t u i j htu hu hi hl;have h1:=a2a hi;rw [if_pos hl] at h1;have h2:=a3f (thr P t) (i+1);have h3:=a3H (P:=P) (t:=t) (by omega);have h4:=a3I P (show t+1<=u by omega);unfold num;unfold sumLd at *;omega
 have hli : ∀ {t i j},i<j->j<(thr P t).length->(aAt (thr P t) i).1=1->num P t i<num P t j:=by
  intro t i j hij hj hl;have h1:=a2a (l:=thr P t) (i:=i) (by omega);rw [if_pos hl] at h1;have h2:nLd ((thr P t).take (i+1))<=nLd ((thr P t).take j):=by
   have e:(thr P t).take (i+1)=((thr P t).take j).take (i+1):=by rw [List.take_take];congr 1;omega
   rw [e];exact a3f _ _
  unfold num;omega
 rcases Nat.lt_trichotomy t u with h' | h' | h'
 ·have:=hlt (j:=j) h' hu hi hl;omega
 ·subst h';refine ⟨rfl,?_⟩;rcases Nat.lt_trichotomy i j with h'' | h'' | h''
  ·have:=hli h'' hj hl;omega
  ·exact h''
  have:=hli h'' hi hl';omega
 have:=hlt (j:=i) h' ht hj hl';omega
theorem b8C {P:Pg} (hv:VP P) {t i:Nat} (ht:t<P.length) (hi:i<(thr P t).length):b9K Ar.std (eP P) (t:Int) (i:Int)=some (num P t i:Int):=by
 unfold b9K;refine bt (a8F (a1U ht)) (bt (a7r (by omega)) ?_);have hl:=hv.l7 t;refine bt (a9z (by simp;omega)) ?_;have e:sl Ar.std (eP P) 0 (t:Int)=some (eP (P.take t)):=by
  unfold eP;rw [a7r (by simp;omega),List.map_take]
 refine bt e ?_;have hn3:=hv.n3;have hsm : ∀ u,sumLd (P.take u)<=8:=fun u=>by
  have h1:sumLd (P.take u)<=sumLd P:=by
   rcases Nat.lt_or_ge u P.length with h | h
   ·have:=a3I P (show u<=P.length by omega);rwa [List.take_length] at this
   rw [List.take_of_length_le h];exact Nat.le_refl _
  have h2:=a2Q P;have h3:=hv.w8;omega
 have hb:nLd ((thr P t).take i)<=4:=by
  have h1:=a3f (thr P t) i;have h2:=a3G (thr P t);have h3:=hv.w4 t;omega
 have key:=a2E (step:=a7W Ar.std (eP (P.take t))) (P.take t) (fun l=>((nLd ((thr P t).take i)+sumLd l:Nat):Int)) (fun z j=>(z,(j:Int))) id (fun j a ha hj=>by
  have hj':j<t:=by simp at hj;omega
  unfold a7W;refine cnT (by rw [List.length_take] at hj;simp;omega) (bt (a8F ha) ?_);have ha':a=thr P j:=by
   rw [List.getElem?_take_of_lt hj',a1U (by omega)] at ha;exact (Option.some.inj ha).symm
  subst ha';have hl2:=hv.l7 j;refine bt (a9z (by omega)) ?_;simp only [a0j,a0u];have h3:=a3G (thr P j);have h4:=hv.w4 j;have h5:sumLd ((P.take t).take j)<=8:=by
   rw [List.take_take];have:min j t=j:=by omega
   rw [this];exact hsm j
  rw [a2W _ (by omega) (by omega),a2W _ (by omega) (by omega)];unfold sumLd;simp;omega) (by
  unfold a7W;exact cnF (by simp) rfl)
 rw [show ((nLd ((thr P t).take i):Int),(0:Int))=(((nLd ((thr P t).take i)+sumLd []:Nat):Int),((0:Nat):Int)) from by simp [sumLd]];refine bt key ?_;simp only [id];unfold num sumLd;congr 2;omega
abbrev Z41:List D:=zz0
theorem c0K:Z41=eS s0:=rfl
theorem b3T:Z41.length=41:=rfl
theorem b8D (u:Sta):((ga Ar.std (eS u) (Ar.std.zadd 0 (Int.ofNat 0)) (Int.ofNat 41)).bind fun l =>
 (ck (Ar.std.zeq (Ar.std.len l) (Int.ofNat 41))).bind fun _ =>
 (ck (Ar.std.zle (Ar.std.zadd (Ar.std.zadd 0 (Int.ofNat 0)) (Int.ofNat 41)) (Ar.std.len Z41))).bind fun _ =>
 (ck (Ar.std.zeq (Ar.std.len (Ar.std.spl Z41 (Ar.std.zadd 0 (Int.ofNat 0)) l)) (Int.ofNat 41))).bind fun _ =>
 (ck (Ar.std.ones (Ar.std.spl Z41 (Ar.std.zadd 0 (Int.ofNat 0)) l))).bind fun _ =>
 some (Ar.std.spl Z41 (Ar.std.zadd 0 (Int.ofNat 0)) l))=some (eS u):=by
 refine bt (gaS u rfl) ?_;have e:Ar.std.spl Z41 (Ar.std.zadd 0 (Int.ofNat 0)) (eS u)=eS u:=c0F u _ b3T rfl;rw [e,b2g,c0E];exact bck rfl (bck rfl (bck rfl (bck rfl rfl)))
theorem c3y (t:Nat):Ar.std.nat (Ar.std.zadd 0 (Ar.std.zmul (t:Int) (Int.ofNat 1)))=t:=c0G (by simp)
theorem c0L (t p:Nat):Ar.std.nat (Ar.std.zadd (Ar.std.zadd 0 (Ar.std.zmul (t:Int) (Int.ofNat 1))) (Int.ofNat p))=p+t:=c0G (by simp;omega)
theorem b7e {z:Int} (h:0<=z) (p:Nat):Ar.std.nat (Ar.std.zadd (Ar.std.zadd 0 (Ar.std.zmul z (Int.ofNat 1))) (Int.ofNat p))=p+z.toNat:=by
 obtain ⟨n,rfl⟩:=zp9 h;exact c0L n p
theorem c5z : ∀ n:Fin 4,IntKind.i8.wrap (n.val:Int)=n.val:=by decide +kernel
theorem i8w {z:Int} (h0:0<=z) (h1:z<=3):Ar.std.wrp .i8 z=z:=by
 obtain ⟨n,rfl⟩:=zp9 h0;exact c5z ⟨n,by omega⟩
theorem lt3 {P:Pg} (hv:VP P) {t:Nat} (ht:t<P.length):t<3:=by have:=hv.n3;omega
def dS (s:Sta) (t i:Nat):Sta:=fup s t (a7K (s t) i)
def doS (P:Pg) (s:Sta) (t i:Nat):Sta :=
 if (aAt (thr P t) i).1=1 then fup (dS s t i) (3+num P t i) (s (11+(aAt (thr P t) i).2.1.toNat))
 else if (aAt (thr P t) i).1=2 then fup (dS s t i) (11+(aAt (thr P t) i).2.1.toNat) (aAt (thr P t) i).2.2 else dS s t i
section
variable {P:Pg} (hv:VP P) {s:Sta} (hs:Wf P s) {t i:Nat} (ht:t<P.length) (hi:i<(thr P t).length)
include hv hs ht hi
theorem c0M (hl:(aAt (thr P t) i).1=1):num P t i<8:=by
 have h1:=b0z ht hi hl;have h2:=a2Q P;have h3:=hv.w8;omega
theorem b7f:(aAt (thr P t) i).1=1\/(aAt (thr P t) i).1=2->0<=(aAt (thr P t) i).2.1/\(aAt (thr P t) i).2.1<=2/\((aAt (thr P t) i).1=2->0<=(aAt (thr P t) i).2.2/\(aAt (thr P t) i).2.2<=3):=by
 intro h;rcases a8G (hv.act t i hi) with h1 | h1 | h1
 ·exact ⟨h1.2.1,h1.2.2.1,fun h2=>by omega⟩
 ·exact ⟨h1.2.1,h1.2.2.1,fun _=>⟨h1.2.2.2.1,h1.2.2.2.2⟩⟩
 rw [h1] at h;simp at h
theorem b3U:b9v Ar.std (eS s) (eP P) (t:Int) (i:Int)=some (eS (doS P s t i)):=by
 have ht3:=lt3 hv ht;have hi7:i<7:=by have:=hv.l7 t;omega
 obtain ⟨d0,d1⟩:=hs.d7 hv ht3;have hvar:=b7f hv hs ht hi;have hn8:=c0M hv hs ht hi;have hget:=a3z hi;unfold b9v doS;generalize aAt (thr P t) i=a at *;obtain ⟨x,y,z⟩:=a;simp only at hvar hn8;rw [c3y];refine bck (by rw [b2g];rfl) (bck (by simp) (bck (by simp;omega) (bt (gcS s (by omega) (kd8 ht3)) (bnk (by simp) (bck (by simp) (bck (by simp;omega) (bt (b8u s (by omega) (kd8 ht3)) (bt (a8F (a1U ht)) (bt (a0B hget) ?_)))))))));rw [c5x d0 d1 hi7,b8v s (by omega) (kd8 ht3)];refine bt (v:=eS _) ?_ (b8D _);by_cases h1:x=1
 ·obtain ⟨c0,c1,_⟩:=hvar (.inl h1);have hn:=hn8 h1;rw [if_pos h1];refine cnT (by simp [h1]) (bt (b8C hv ht hi) (bck (by simp;exact c0) (bck (by simp;omega) ?_)));rw [b7e c0];refine bt (gcS _ (by omega) (kdi (by omega) (by omega))) (bck (by simp) (bck (by simp;omega) ?_));rw [c0L];refine bt (b8u _ (by omega) (kdi (by omega) (by omega))) ?_;rw [b8v _ (by omega) (kdi (by omega) (by omega))];rw [a0I _ _ _ (by omega)];rfl
 rw [if_neg h1];refine cnF (by simp [h1]) (bt (v:=_) ?_ rfl);by_cases h2:x=2
 ·obtain ⟨c0,c1,c2⟩:=hvar (.inr h2);obtain ⟨c3,c4⟩:=c2 h2;rw [if_pos h2];refine cnT (by simp [h2]) (bck (by simp;exact c0) (bck (by simp;omega) ?_));rw [b7e c0];refine bt (b8u _ (by omega) (kdi (by omega) (by omega))) ?_;rw [i8w c3 c4,b8v _ (by omega) (kdi (by omega) (by omega))];rfl
 rw [if_neg h2];exact cnF (by simp [h2]) rfl
theorem c3z (u j:Nat):(decide (u<3)&&btI (dS s t i u) j)=fup (fun u j=>decide (u<3)&&btI (s u) j) t (fup (fun j=>decide (t<3)&&btI (s t) j) i true) u j:=by
 have ht3:=lt3 hv ht;unfold dS;by_cases hu:u=t
 ·subst hu;rw [a1H,a1H,a7u];unfold fup;by_cases hj:j=i
  ·simp [hj,ht3]
  simp [hj]
 rw [a0I _ _ _ hu,a0I _ _ _ hu]
theorem c3A {f:Sta} {v:Int} (hf : ∀ n,n<8->f (3+n)=s (3+n)) (hl:(aAt (thr P t) i).1=1) (u j:Nat) :
  (if (aAt (thr P u) j).1=1 then fup f (3+num P t i) v (3+num P u j) else 0)=fup (vw P s).rd t (fup ((vw P s).rd t) i v) u j:=by
 by_cases hl2:(aAt (thr P u) j).1=1
 ·rw [if_pos hl2];have hu:u<P.length:=by
   rcases Nat.lt_or_ge u P.length with h | h
   ·exact h
   rw [a3e h] at hl2;simp [aAt] at hl2
  have hj:j<(thr P u).length:=by
   rcases Nat.lt_or_ge j (thr P u).length with h | h
   ·exact h
   unfold aAt at hl2;rw [List.getD_eq_getElem?_getD,List.getElem?_eq_none h] at hl2;simp at hl2
  by_cases hn:num P u j=num P t i
  ·obtain ⟨rfl,rfl⟩:=b8B hu hj hl2 ht hi hl hn;rw [a1H,a1H,a1H]
  rw [a0I _ _ _ (by omega)];have h8:=b0z hu hj hl2;have h2:=a2Q P;have h3:=hv.w8;rw [hf _ (by omega)];by_cases hut:u=t
  ·subst hut;rw [a1H,a0I _ _ _ (by rintro rfl;exact hn rfl)];simp only [vw,if_pos hl2]
  rw [a0I _ _ _ hut];simp only [vw,if_pos hl2]
 rw [if_neg hl2];by_cases hut:u=t
 ·subst hut;rw [a1H,a0I _ _ _ (by rintro rfl;exact hl2 hl)];simp only [vw,if_neg hl2]
 rw [a0I _ _ _ hut];simp only [vw,if_neg hl2]
theorem b8E {f:Sta} {u:Nat} (h1:f (38+u)=s (38+u)) (h2 : ∀ j,14<=j->j<38->f j=s j) (hu:u<3):a9A f u=a9A s u:=by
 unfold a9A;rw [h1];apply List.map_congr_left;intro j hj;have hw:=hs.w4 hv hu;have hj:=List.mem_range.1 hj;rw [h2 _ (by omega) (by omega),h2 _ (by omega) (by omega)]
omit hv hs ht hi in
theorem AS.mkE {a b:AS} (h1:a.dn=b.dn) (h2:a.rd=b.rd) (h3:a.bf=b.bf) (h4:a.ce=b.ce):a=b:=by
 cases a;cases b;simp only at h1 h2 h3 h4;subst h1 h2 h3 h4;rfl
theorem a9B {f:Sta} (hf : ∀ j,14<=j->f j=s j) (u:Nat):(vw P f).bf u=(vw P s).bf u:=by
 show (if u<3 then a9A f u else [])=(if u<3 then a9A s u else [])
 by_cases hu:u<3
 ·rw [if_pos hu,if_pos hu];exact b8E hv hs ht hi (hf _ (by omega)) (fun j h1 _=>hf j h1) hu
 rw [if_neg hu,if_neg hu]
theorem b3V {f:Sta} (hf : ∀ n,n<8->f (3+n)=s (3+n)) (u j:Nat):(vw P f).rd u j=(vw P s).rd u j:=by
 show (if (aAt (thr P u) j).1=1 then f (3+num P u j) else 0)=(if (aAt (thr P u) j).1=1 then s (3+num P u j) else 0)
 split
 ·rename_i hl;have hu:u<P.length:=by
   rcases Nat.lt_or_ge u P.length with h | h
   ·exact h
   rw [a3e h] at hl;simp [aAt] at hl
  have hj:j<(thr P u).length:=by
   rcases Nat.lt_or_ge j (thr P u).length with h | h
   ·exact h
   unfold aAt at hl;rw [List.getD_eq_getElem?_getD,List.getElem?_eq_none h] at hl;simp at hl
  have h8:=b0z hu hj hl;have h4:=a2Q P;have h3:=hv.w8;exact hf _ (by omega)
 rfl
theorem b3W {f:Sta} (hf : ∀ n,n<3->f (11+n)=s (11+n)) (c:Int):(vw P f).ce c=(vw P s).ce c:=by
 show (if 0<=c/\c<=2 then f (11+c.toNat) else 0)=(if 0<=c/\c<=2 then s (11+c.toNat) else 0)
 by_cases hc:0<=c/\c<=2
 ·rw [if_pos hc,if_pos hc,hf _ (by omega)]
 rw [if_neg hc,if_neg hc]
theorem b8F {f:Sta} (hf : ∀ u,u<3->f u=dS s t i u):(vw P f).dn=fup (vw P s).dn t (fup ((vw P s).dn t) i true):=by
 funext u j;rw [show fup (vw P s).dn t (fup ((vw P s).dn t) i true) u j=(decide (u<3)&&btI (dS s t i u) j) from (c3z hv hs ht hi u j).symm];show (decide (u<3)&&btI (f u) j)=_;by_cases hu3:u<3
 ·rw [hf u hu3]
 simp [hu3]
theorem c3B {k:Nat} (hk:k≠2\/(aAt (thr P t) i).1≠2) (hb:(vw P s).bf t=[]\/(aAt (thr P t) i).1≠1):vw P (doS P s t i)=doA k P (vw P s) t i:=by
 have ht3:=lt3 hv ht;by_cases h1:(aAt (thr P t) i).1=1
 ·obtain ⟨c0,c1,_⟩:=b7f hv hs ht hi (.inl h1);have hn:=c0M hv hs ht hi h1;have e:doS P s t i=fup (dS s t i) (3+num P t i) (s (11+(aAt (thr P t) i).2.1.toNat)):=by unfold doS;rw [if_pos h1]
  rw [e];refine AS.mkE ?_ ?_ ?_ ?_
  ·exact b8F hv hs ht hi (fun u hu=>by rw [a0I _ _ _ (by omega)])
  ·have hsn:sn (vw P s) t (aAt (thr P t) i).2.1=s (11+(aAt (thr P t) i).2.1.toNat):=by
    unfold sn;rcases hb with hb | hb
    ·rw [hb,List.foldl_nil];show (if 0<=(aAt (thr P t) i).2.1/\(aAt (thr P t) i).2.1<=2 then _ else _)=_
     rw [if_pos ⟨c0,c1⟩]
    exact absurd h1 hb
   simp only [doA,if_pos h1];rw [hsn];funext u j;exact c3A hv hs ht hi (f:=dS s t i) (fun n hn=>by unfold dS;rw [a0I _ _ _ (by omega)]) h1 u j
  ·simp only [doA];rw [if_neg (by omega)];funext u;exact a9B hv hs ht hi (fun j hj=>by unfold dS;rw [a0I _ _ _ (by omega),a0I _ _ _ (by omega)]) u
  simp only [doA];rw [if_neg (by omega)];funext c;exact b3W hv hs ht hi (fun n hn=>by unfold dS;rw [a0I _ _ _ (by omega),a0I _ _ _ (by omega)]) c
 by_cases h2:(aAt (thr P t) i).1=2
 ·obtain ⟨c0,c1,_⟩:=b7f hv hs ht hi (.inr h2);have hk2:k≠2:=by rcases hk with h | h;exact h;exact absurd h2 h
  have e:doS P s t i=fup (dS s t i) (11+(aAt (thr P t) i).2.1.toNat) (aAt (thr P t) i).2.2:=by unfold doS;rw [if_neg h1,if_pos h2]
  rw [e];refine AS.mkE ?_ ?_ ?_ ?_
  ·exact b8F hv hs ht hi (fun u hu=>by rw [a0I _ _ _ (by omega)])
  ·simp only [doA,if_neg h1];funext u j;exact b3V hv hs ht hi (fun n hn=>by unfold dS;rw [a0I _ _ _ (by omega),a0I _ _ _ (by omega)]) u j
  ·simp only [doA];rw [if_neg (by omega)];funext u;exact a9B hv hs ht hi (fun j hj=>by unfold dS;rw [a0I _ _ _ (by omega),a0I _ _ _ (by omega)]) u
  simp only [doA];rw [if_pos ⟨h2,hk2⟩];funext c;show (if 0<=c/\c<=2 then fup (dS s t i) (11+(aAt (thr P t) i).2.1.toNat) (aAt (thr P t) i).2.2 (11+c.toNat) else 0)=_
  by_cases hcv:c=(aAt (thr P t) i).2.1
  ·subst hcv;rw [if_pos ⟨c0,c1⟩,a1H,a1H]
  rw [a0I _ _ _ hcv];show _=(if 0<=c/\c<=2 then s (11+c.toNat) else 0)
  by_cases hc:0<=c/\c<=2
  ·rw [if_pos hc,if_pos hc];unfold dS;rw [a0I _ _ _ (by omega),a0I _ _ _ (by omega)]
  rw [if_neg hc,if_neg hc]
 have e:doS P s t i=dS s t i:=by unfold doS;rw [if_neg h1,if_neg h2]
 rw [e];refine AS.mkE ?_ ?_ ?_ ?_
 ·exact b8F hv hs ht hi (fun u hu=>rfl)
 ·simp only [doA,if_neg h1];funext u j;exact b3V hv hs ht hi (fun n hn=>by unfold dS;rw [a0I _ _ _ (by omega)]) u j
 ·simp only [doA];rw [if_neg (by omega)];funext u;exact a9B hv hs ht hi (fun j hj=>by unfold dS;rw [a0I _ _ _ (by omega)]) u
 simp only [doA];rw [if_neg (by omega)];funext c;exact b3W hv hs ht hi (fun n hn=>by unfold dS;rw [a0I _ _ _ (by omega)]) c
theorem b8G (hd:btI (s t) i=false):stD (thr P t) (a7K (s t) i)=stD (thr P t) (s t)+if (aAt (thr P t) i).1=2 then 1 else 0:=by
 unfold stD;have e : ∀ n,((List.range n).filter fun j=>decide ((aAt (thr P t) j).1=2)&&btI (a7K (s t) i) j).length=((List.range n).filter fun j=>decide ((aAt (thr P t) j).1=2)&&btI (s t) j).length+if i<n/\(aAt (thr P t) i).1=2 then 1 else 0:=by
  intro n
  induction n with
  | zero=>simp
  | succ n ih =>
    have ef : ∀ (g:Nat->Bool),(List.filter g [n]).length=if g n=true then 1 else 0:=by intro g;cases h:g n <;> simp [h]
    rw [List.range_succ,List.filter_append,List.filter_append,List.length_append,List.length_append,ih,ef,ef,a7u];by_cases hn:n=i
    ·subst hn;by_cases h2:(aAt (thr P t) n).1=2
     ·simp [h2,hd]
     simp [h2]
    by_cases hlt:i<n
    ·have hlt':i<n+1:=by omega
     by_cases h2:(aAt (thr P t) i).1=2
     ·simp only [h2,hlt,hlt',hn,decide_false,Bool.or_false,and_self,if_true];omega
     simp only [h2,hn,decide_false,Bool.or_false,and_false,if_false];omega
    have hlt' : ¬ i<n+1:=by omega
    simp only [hlt,hlt',hn,decide_false,Bool.or_false,false_and,if_false];omega
 rw [e];by_cases h2:(aAt (thr P t) i).1=2
 ·rw [if_pos ⟨hi,h2⟩,if_pos h2]
 rw [if_neg (by simp [h2]),if_neg h2]
theorem Wf.do (hd:btI (s t) i=false):Wf P (doS P s t i):=by
 have ht3:=lt3 hv ht;obtain ⟨d0,d1⟩:=hs.d t ht3;have hset:=b8z d0 d1 hi;have hst:=b8G hv hs ht hi hd;have hle:stD (thr P t) (s t)<=stD (thr P t) (a7K (s t) i):=by rw [hst];omega

 have hD:Wf P (dS s t i):=by
  refine ⟨fun u hu => ?_,fun n hn => ?_,fun n hn => ?_,fun u j hu hj => ?_,fun u hu => ?_,fun j hj => ?_⟩
  ·unfold dS;by_cases h:u=t
   ·subst h;rw [a1H];exact hset
   rw [a0I _ _ _ h];exact hs.d u hu
  ·unfold dS;rw [a0I _ _ _ (by omega)];exact hs.r n hn
  ·unfold dS;rw [a0I _ _ _ (by omega)];exact hs.c n hn
  ·unfold dS at hj ⊢;rw [a0I _ _ _ (by omega)] at hj;rw [a0I _ _ _ (by omega),a0I _ _ _ (by omega)];exact hs.b u j hu hj
  ·unfold dS;rw [a0I _ _ _ (by omega)];obtain ⟨w0,w1⟩:=hs.w u hu;by_cases h:u=t
   ·subst h;rw [a1H];exact ⟨w0,by omega⟩
   rw [a0I _ _ _ h];exact ⟨w0,w1⟩
  unfold dS;rw [a0I _ _ _ (by omega)];exact hs.z j hj
 have hU : ∀ (f:Sta) (p:Nat) (v:Int),Wf P f->3<=p->p<14->0<=v->v<=3->Wf P (fup f p v):=by
  intro f p v hf hp hp2 v0 v3;refine ⟨fun u hu => ?_,fun n hn => ?_,fun n hn => ?_,fun u j hu hj => ?_,fun u hu => ?_,fun j hj => ?_⟩
  ·rw [a0I _ _ _ (by omega)];exact hf.d u hu
  ·by_cases h:3+n=p
   ·rw [<-h,a1H];exact ⟨v0,v3⟩
   rw [a0I _ _ _ h];exact hf.r n hn
  ·by_cases h:11+n=p
   ·rw [<-h,a1H];exact ⟨v0,v3⟩
   rw [a0I _ _ _ h];exact hf.c n hn
  ·rw [a0I _ _ _ (by omega)] at hj;rw [a0I _ _ _ (by omega),a0I _ _ _ (by omega)];exact hf.b u j hu hj
  ·rw [a0I _ _ _ (by omega),a0I _ _ _ (by omega)];exact hf.w u hu
  rw [a0I _ _ _ (by omega)];exact hf.z j hj
 unfold doS;split
 ·rename_i h1;obtain ⟨c0,c1,_⟩:=b7f hv hs ht hi (.inl h1);have hn:=c0M hv hs ht hi h1;have:=hs.c (aAt (thr P t) i).2.1.toNat (by omega);exact hU _ _ _ hD (by omega) (by omega) this.1 this.2
 split
 ·rename_i h1 h2;obtain ⟨c0,c1,c2⟩:=b7f hv hs ht hi (.inr h2);exact hU _ _ _ hD (by omega) (by omega) (c2 h2).1 (c2 h2).2
 exact hD
end
theorem bc {β:Type} {b:Bool} {f:Unit->Option β} {r:Option β} (h2:f ()=r) (h:b=true:=by first | (simp;done) | (simp;omega)):(ck b).bind f=r:=bck h h2
section
variable {P:Pg} (hv:VP P) {s:Sta} (hs:Wf P s) {t:Nat} (ht:t<P.length)
include hv hs ht
end
section
variable {P:Pg} (hv:VP P) {s:Sta} (hs:Wf P s) {t i:Nat} (ht:t<P.length) (hi:i<(thr P t).length)
include hv hs ht hi
end
noncomputable instance:DecidableEq Sta:=Classical.typeDecidableEq _
abbrev LQ:=List Sta×List Sta
def eM (L:List Sta):List (D×D):=L.map fun s=>(.agg (eS s),.agg [])
def eQ (Q:List Sta):List D:=Q.map fun s => .agg (eS s)
def ZL (L:List Sta):Prop := ∀ s∈L,∀ i,41<=i->s i=0
noncomputable def pu (x:LQ) (l:List Sta):LQ:=l.foldl push x
theorem c0N (x:LQ):pu x []=x:=rfl
theorem c0O (x:LQ) (l m:List Sta):pu x (l++m)=pu (pu x l) m:=by unfold pu;rw [List.foldl_append]
theorem b5S (x:LQ) (n:Sta):(push x n).2.length<=x.2.length+1:=by unfold push;split <;> simp
theorem b3X (x:LQ) : ∀ l:List Sta,(pu x l).2.length<=x.2.length+l.length
 | []=>Nat.le_refl _
 | n::l=>by
   have h1:=b3X (push x n) l;have h2:=b5S x n;show (pu (push x n) l).2.length<=_;rw [List.length_cons];omega
theorem c0P {x:LQ} {n:Sta} (h:ZL x.1) (hn : ∀ i,41<=i->n i=0):ZL (push x n).1:=by
 unfold push;split
 ·exact h
 intro s hs;rcases List.mem_append.1 hs with hs | hs
 ·exact h s hs
 rw [List.mem_singleton.1 hs];exact hn
theorem c4f {x:LQ} (h:ZL x.1) : ∀ {l:List Sta},ZL l->ZL (pu x l).1
 | [],_=>h
 | n::l,hl=>c4f (x:=push x n) (c0P h (hl n (by simp))) (fun s hs=>hl s (by simp [hs]))
theorem b3Y {n:Sta} (hn : ∀ i,41<=i->n i=0) : ∀ {L:List Sta},ZL L->Am.mget (eM L) (.agg (eS n))=if n∈L then some (.agg []) else none
 | [],_=>by simp [eM,Am.mget]
 | s::L,hL=>by
   have ih:=b3Y hn (L:=L) (fun u hu=>hL u (by simp [hu]));unfold eM at ih ⊢;simp only [List.map_cons,Am.mget];by_cases h:s=n
   ·subst h;simp
   have : ¬ (D.agg (eS s)=D.agg (eS n)):=fun e=>h (b7c (by injection e) (hL s (by simp)) hn);rw [if_neg this,ih];by_cases hm:n∈L
   ·rw [if_pos hm,if_pos (by simp [hm])]
   rw [if_neg hm,if_neg (by simp [hm];exact fun e=>h e.symm)]
theorem b3Z {n:Sta} (hn : ∀ i,41<=i->n i=0) : ∀ {L:List Sta},ZL L->n∉L->Am.mput (eM L) (.agg (eS n)) (.agg [])=eM (L++[n])
 | [],_,_=>by simp [eM,Am.mput]
 | s::L,hL,hm=>by
   have ih:=b3Z hn (L:=L) (fun u hu=>hL u (by simp [hu])) (fun h=>hm (by simp [h]));unfold eM at ih ⊢;simp only [List.map_cons,Am.mput,List.cons_append];have : ¬ (D.agg (eS s)=D.agg (eS n)):=fun e=>hm (by rw [b7c (by injection e) (hL s (by simp)) hn];simp);rw [if_neg this,ih]
theorem b8H (n:Sta):Ar.std.conf (zz1) (eS n)=true:=rfl
theorem b7g {n:Sta} (hn : ∀ i,41<=i->n i=0) {x:LQ} (hx:ZL x.1) (hq:x.2.length<4294967295) (x3:List D) :
  N60 Ar.std (eS n) (eM x.1) x3 (eQ x.2)=some (eM (push x n).1,eQ (push x n).2):=by
 obtain ⟨L,Q⟩:=x;simp only at hx hq ⊢;have hg:=b3Y hn hx;unfold N60;refine bck (by rw [b2g];rfl) ?_;refine bt (v:=decide (n∈L)) ?_ ?_
 ·refine bt (gaS n rfl) (bck (b8H n) ?_);unfold lk;have:Ar.std.mget (eM L) (.agg (eS n))=_:=hg;rw [this];by_cases hm:n∈L
  ·rw [if_pos hm];simp [hm,cU]
  rw [if_neg hm];simp [hm]
 refine bt (v:=(eM (push (L,Q) n).1,eQ (push (L,Q) n).2)) ?_ rfl;unfold push;by_cases hm:n∈L
 ·rw [if_pos hm];exact cnT (by simp [hm]) rfl
 rw [if_neg hm];refine cnF (by simp [hm]) (bt (gaS n rfl) (bck (b8H n) (bck (by rw [b2g];rfl) ?_)));refine bt (b0x (fun s=>D.agg (eS s)) Q [n] (by simp;omega)) ?_;have:Ar.std.mput (eM L) (.agg (eS n)) (.agg [])=_:=b3Z hn hx hm;rw [this];simp [eQ]
theorem a9C {T X:Type} {step:T->Option (T⊕X)} (n:Nat) (st:LQ->Nat->T) (g:Nat->List Sta) (c B:Nat) (fin:LQ->X) (hg : ∀ i,i<n->ZL (g i)/\(g i).length<=c)
  (hs : ∀ i x,i<n->ZL x.1->x.2.length<=B+c*i->step (st x i)=some (.inl (st (pu x (g i)) (i+1)))) (he : ∀ x,step (st x n)=some (.inr (fin x))) (x0:LQ) (h0:ZL x0.1) (hB:x0.2.length<=B) :
  iter step (st x0 0)=some (fin (pu x0 ((List.range n).flatMap g))):=by
 obtain ⟨x,⟨rfl,_,_⟩,e⟩:=a0x n st (fun i x=>x=pu x0 ((List.range i).flatMap g)/\ZL x.1/\x.2.length<=B+c*i) fin (fun i x hi hR=>by
  obtain ⟨h1,h2,h3⟩:=hR;refine ⟨_,⟨?_,?_,?_⟩,hs i x hi h2 h3⟩
  ·rw [h1,List.range_succ,List.flatMap_append,c0O];simp
  ·exact c4f h2 (hg i hi).1
  have h4:=b3X x (g i);have h5:=(hg i hi).2;rw [Nat.mul_add];omega) (fun x _=>he x) x0 ⟨by simp [c0N],h0,by omega⟩
 exact e
def sc1 (P:Pg) (s:Sta) (t:Nat):List Sta:=if nx s t<(thr P t).length then [doS P s t (nx s t)] else []
def wts (a b:Ac):Bool:=decide (a.1=3)||(decide (b.1=3)||decide (a.2.1=b.2.1))
def fr3 (P:Pg) (s:Sta) (t i:Nat):Bool := !btI (s t) i&&(List.range i).all fun j => !wts (aAt (thr P t) i) (aAt (thr P t) j)||btI (s t) j
def b4a (P:Pg) (s:Sta) (t i:Nat):List Sta:=bif fr3 P s t i then [doS P s t i] else []
def sc3 (P:Pg) (s:Sta) (t:Nat):List Sta:=(List.range (thr P t).length).flatMap (b4a P s t)
noncomputable def sck (k:Nat) (P:Pg) (s:Sta) (t:Nat):List Sta:=if k=1 then sc1 P s t else sc3 P s t
noncomputable def scs (k:Nat) (P:Pg) (s:Sta):List Sta:=(List.range P.length).flatMap (sck k P s)
section
variable {P:Pg} (hv:VP P) {s:Sta} (hs:Wf P s) {t:Nat} (ht:t<P.length)
include hv hs ht
theorem b4b:btI (s t) (nx s t)=false:=(b3S hv hs (lt3 hv ht)).2.1
theorem b7h:(∀ u∈sc1 P s t,Wf P u)/\(sc1 P s t).length<=1:=by
 unfold sc1;split
 ·rename_i h;exact ⟨fun u hu=>by rw [List.mem_singleton.1 hu];exact Wf.do hv hs ht h (b4b hv hs ht),by simp⟩
 exact ⟨fun u hu=>(by cases hu),by simp⟩
theorem a7v {i:Nat} (hi:i<(thr P t).length):(∀ u∈b4a P s t i,Wf P u)/\(b4a P s t i).length<=1:=by
 unfold b4a;cases h:fr3 P s t i with
 | false=>exact ⟨fun u hu=>(by cases hu),by simp⟩
 | true =>
   unfold fr3 at h;simp only [zp4,Bool.not_eq_true'] at h;exact ⟨fun u hu=>by rw [List.mem_singleton.1 hu];exact Wf.do hv hs ht hi h.1,by simp⟩
theorem b0A {n c:Nat} {g:Nat->List Sta} (h : ∀ i,i<n->(g i).length<=c):((List.range n).flatMap g).length<=n*c:=by
 induction n with
 | zero=>simp
 | succ n ih =>
   rw [List.range_succ,List.flatMap_append,List.length_append,Nat.succ_mul];have:=ih (fun i hi=>h i (by omega));have:=h n (by omega);simp only [List.flatMap_cons,List.flatMap_nil,List.append_nil];omega
theorem c0Q:(∀ u∈sc3 P s t,Wf P u)/\(sc3 P s t).length<=7:=by
 unfold sc3;refine ⟨fun u hu => ?_,?_⟩
 ·obtain ⟨i,hi,hu⟩:=List.mem_flatMap.1 hu;exact (a7v hv hs ht (List.mem_range.1 hi)).1 u hu
 have:=b0A hv hs ht (n:=(thr P t).length) (c:=1) (g:=b4a P s t) (fun i hi=>(a7v hv hs ht hi).2);have:=hv.l7 t;omega
theorem a6I (k:Nat):(∀ u∈sck k P s t,Wf P u)/\(sck k P s t).length<=7:=by
 unfold sck;split
 ·exact ⟨(b7h hv hs ht).1,by have:=(b7h hv hs ht).2;omega⟩
 exact c0Q hv hs ht
end
section
variable {P:Pg} (hv:VP P) {s:Sta} (hs:Wf P s)
include hv hs
theorem c0R (k:Nat):(∀ u∈scs k P s,Wf P u)/\(scs k P s).length<=21:=by
 unfold scs;refine ⟨fun u hu => ?_,?_⟩
 ·obtain ⟨t,ht,hu⟩:=List.mem_flatMap.1 hu;exact (a6I hv hs (List.mem_range.1 ht) k).1 u hu
 have h1:=b0A hv hs (t:=0) hv.n1 (n:=P.length) (c:=7) (g:=sck k P s) (fun i hi=>(a6I hv hs hi k).2);have:=hv.n3;omega
theorem b5T {t:Nat} (h:t<100):Ar.std.wrp .i64 (Ar.std.zadd (t:Int) 1)=((t+1:Nat):Int):=by
 simp only [a0j,a0u];exact a5g (n:=100) h (by omega)
theorem b8I {x:LQ} (hx:ZL x.1) (hq:x.2.length<=1000000):b9L Ar.std (eP P) (eS s) (eM x.1) (eQ x.2)=some (eM (pu x (scs 1 P s)).1,eQ (pu x (scs 1 P s)).2):=by
 unfold b9L;refine bck (by rw [b2g];rfl) ?_;have key:=a9C (step:=a7X Ar.std (eP P) (eS s)) P.length (fun x t=>((t:Int),eM x.1,eQ x.2)) (sck 1 P s) 7 1000000 (fun x=>(eM x.1,eQ x.2))
  (fun t ht=>⟨fun u hu=>((a6I hv hs ht 1).1 u hu).z,(a6I hv hs ht 1).2⟩)
  (fun t x ht hx hq=>by
   have ht3:=lt3 hv ht;unfold a7X;refine cnT (by simp [ht]) (bt (gaS s rfl) (bt (b8A hv hs ht3) (bt (a8F (a1U ht)) ?_)));rw [b5T hv hs (by omega),a0K];refine bt (v:=(eM (pu x (sck 1 P s t)).1,eQ (pu x (sck 1 P s t)).2)) ?_ rfl;have hsc:sck 1 P s t=sc1 P s t:=by unfold sck;rw [if_pos rfl]
   rw [hsc];unfold sc1;by_cases hi:nx s t<(thr P t).length
   ·rw [if_pos hi];refine cnT (by simp [hi]) (bt (b3U hv hs ht hi) ?_);exact bt (b7g (Wf.do hv hs ht hi (b4b hv hs ht)).z hx (by omega) _) rfl
   ·rw [if_neg hi];exact cnF (by simp;omega) rfl) (fun x=>by
   unfold a7X;exact cnF (by simp) rfl) x hx hq
 exact bt key rfl
theorem b4c {t i:Nat} (ht:t<P.length) (hi:i<(thr P t).length) (b:Bool) {ax ay:Int} (hx:(aAt (thr P t) i).1=ax) (hy:(aAt (thr P t) i).2.1=ay) :
  iter (a6z Ar.std (eS s) (t:Int) ax ay (eT ((thr P t).take i))) (b,0)=some (b&&(List.range i).all fun j => !wts (aAt (thr P t) i) (aAt (thr P t) j)||btI (s t) j):=by
 have ht3:=lt3 hv ht;have hl7:=hv.l7 t;obtain ⟨d0,d1⟩:=hs.d7 hv ht3;have hlen:((thr P t).take i).length=i:=by rw [List.length_take];omega
 obtain ⟨z,hz,e⟩:=a0x (step:=a6z Ar.std (eS s) (t:Int) ax ay (eT ((thr P t).take i))) i (fun (z:Bool) j=>(z,(j:Int))) (fun j z=>z=(b&&(List.range j).all fun j => !wts (aAt (thr P t) i) (aAt (thr P t) j)||btI (s t) j)) id
  (fun j z hj hR=>by
   subst hR;obtain ⟨⟨bx,by',bz⟩,hB⟩ : ∃ a,aAt (thr P t) j=a:=⟨_,rfl⟩;have hget:((thr P t).take i)[j]?=some (bx,by',bz):=by rw [List.getElem?_take_of_lt hj,a3z (by omega),hB]
   refine ⟨_,rfl,?_⟩;unfold a6z;refine cnT (by rw [a0K,hlen];simp [hj]) (bt (a0B hget) ?_);refine bt (v:=wts (aAt (thr P t) i) (aAt (thr P t) j)) ?_ ?_
   ·unfold wts;rw [hB,hx,hy];simp only [a2i];by_cases h1:ax=3
    ·simp [h1]
    by_cases h2:bx=3
    ·simp [h1,h2]
    simp [h1,h2]
   rw [b5T hv hs (by omega),List.range_succ,List.all_append];simp only [List.all_cons,List.all_nil,Bool.and_true];generalize (List.range j).all _=q;refine bt (v:=b&&(q&&(!wts (aAt (thr P t) i) (aAt (thr P t) j)||btI (s t) j))) ?_ rfl;cases b with
   | false=>rfl
   | true =>
     cases q with
     | false=>rfl
     | true =>
       simp only [Bool.true_and,cond_true];cases hw:wts (aAt (thr P t) i) (aAt (thr P t) j) with
       | false=>rfl
       | true =>
         simp only [cond_true,Bool.not_true,Bool.false_or];rw [c3y];refine bc (bc (bt (gcS s (by omega) (kd8 ht3)) (bnk (by simp) ?_)));rw [c0H d0 d1 (by omega)])
  (fun z hz=>by
   unfold a6z;exact cnF (by rw [a0K,hlen];simp) rfl) b (by simp)
 exact e.trans (by rw [hz];rfl)
theorem b8J {x:LQ} (hx:ZL x.1) (hq:x.2.length<=1000000):b9M Ar.std (eP P) (eS s) (eM x.1) (eQ x.2)=some (eM (pu x (scs 3 P s)).1,eQ (pu x (scs 3 P s)).2):=by
 unfold b9M;refine bck (by rw [b2g];rfl) ?_;have key:=a9C (step:=a7Z Ar.std (eP P) (eS s)) P.length (fun x t=>((t:Int),eM x.1,eQ x.2)) (sck 3 P s) 7 1000000 (fun x=>(eM x.1,eQ x.2))
  (fun t ht=>⟨fun u hu=>((a6I hv hs ht 3).1 u hu).z,(a6I hv hs ht 3).2⟩)
  (fun t x ht hx hq=>by
   have ht3:=lt3 hv ht;have hl7:=hv.l7 t;obtain ⟨d0,d1⟩:=hs.d7 hv ht3;have hsc:sck 3 P s t=sc3 P s t:=by unfold sck;rw [if_neg (by omega)]
   unfold a7Z;refine cnT (by simp [ht]) (bt (a8F (a1U ht)) ?_);rw [b5T hv hs (by omega),hsc];unfold sc3;have key:=a9C (step:=a7Y Ar.std (eP P) (eS s) (t:Int) (eT (thr P t))) (thr P t).length (fun x i=>((i:Int),eM x.1,eQ x.2)) (b4a P s t) 1 (1000000+7*t) (fun x=>(eM x.1,eQ x.2))
    (fun i hi=>⟨fun u hu=>((a7v hv hs ht hi).1 u hu).z,(a7v hv hs ht hi).2⟩)
    (fun i x hi hx hq=>by
     obtain ⟨⟨ax,ay,az⟩,hA⟩ : ∃ a,aAt (thr P t) i=a:=⟨_,rfl⟩;have hget:=a3z hi;rw [hA] at hget;unfold a7Y;refine cnT (by simp [hi]) (bt (a0B hget) ?_);rw [c3y];refine bc (bc (bt (gcS s (by omega) (kd8 ht3)) (bnk (by simp) (bt (a7r (by omega)) ?_))));rw [c3x d0 d1 (by omega)];refine bt (b4c hv hs ht hi _ (by rw [hA]) (by rw [hA])) ?_;rw [b5T hv hs (by omega)];refine bt (v:=(eM (pu x (b4a P s t i)).1,eQ (pu x (b4a P s t i)).2)) ?_ rfl;unfold b4a;have hfr:(!btI (s t) i&&(List.range i).all fun j => !wts (aAt (thr P t) i) (aAt (thr P t) j)||btI (s t) j)=fr3 P s t i:=rfl;rw [hfr];cases h:fr3 P s t i with
     | false=>rfl
     | true =>
       have hbit:btI (s t) i=false:=by
        unfold fr3 at h;simp only [zp4,Bool.not_eq_true'] at h;exact h.1
       simp only [cond_true];refine bt (gaS s rfl) (bt (b3U hv hs ht hi) ?_);exact bt (b7g (Wf.do hv hs ht hi hbit).z hx (by omega) _) rfl) (fun x=>by
     unfold a7Y;exact cnF (by simp) rfl) x hx (by omega)
   exact bt key rfl) (fun x=>by
   unfold a7Z;exact cnF (by simp) rfl) x hx hq
 exact bt key rfl
end
def Kind (k:Nat):Prop:=k=1\/k=3
theorem Kind.n2 {k:Nat} (h:Kind k):k≠2:=by unfold Kind at h;omega
structure WfK (k:Nat) (P:Pg) (s:Sta):Prop where
 wf:Wf P s
 nb:k≠2 -> ∀ t,t<3->s (38+t)=0
 bz : ∀ t (j:Nat),t<3->j<4->s (38+t)<=(j:Int)->s (14+8*t+2*j)=0/\s (14+8*t+2*j+1)=0
 rz : ∀ n,n<8->sumLd P<=n->s (3+n)=0
theorem WfK.init (k:Nat) (P:Pg):WfK k P s0:=⟨Wf.init P,fun _ _ _=>rfl,fun _ _ _ _ _=>⟨rfl,rfl⟩,fun _ _ _=>rfl⟩
section
variable {k:Nat} {P:Pg} (hv:VP P) {s:Sta} (hk:WfK k P s) {t:Nat} (ht:t<P.length)
include hv hk ht
theorem b8K (i:Nat):((vw P s).t t).1 i=btI (s t) i:=by
 show (decide (t<3)&&btI (s t) i)=_;rw [decide_eq_true (lt3 hv ht),Bool.true_and]
theorem b8L:(vw P s).bf t=a9A s t:=by
 show (if t<3 then a9A s t else [])=_
 rw [if_pos (lt3 hv ht)]
theorem a9D:a9A s t=[]↔s (38+t)=0:=by
 have:=hk.wf.w4 hv (lt3 hv ht);unfold a9A;rw [List.map_eq_nil_iff,List.range_eq_nil];omega
theorem b7i (h3:k≠3) {i:Nat} (hi:i<(thr P t).length):b2l k (thr P t) ((vw P s).t t) i↔i=nx s t/\(k=2->(aAt (thr P t) i).1=3->s (38+t)=0):=by
 obtain ⟨h1,h2,_⟩:=b3S hv hk.wf (lt3 hv ht);unfold b2l;rw [b8K hv hk ht];have hb:((vw P s).t t).2=[]↔s (38+t)=0:=by
  show (vw P s).bf t=[]↔_;rw [b8L hv hk ht];exact a9D hv hk ht
 rw [hb];constructor
 ·rintro ⟨ha,hb,hc⟩;refine ⟨?_,hc⟩;rcases Nat.lt_trichotomy i (nx s t) with h | h | h
  ·rw [h1 i h] at ha;cases ha
  ·exact h
  have:=hb _ h (.inl h3);rw [b8K hv hk ht,h2] at this;cases this
 rintro ⟨rfl,hc⟩;exact ⟨h2,fun j hj _=>by rw [b8K hv hk ht];exact h1 j hj,hc⟩
theorem b7j {i:Nat} (hi:i<(thr P t).length):b2l 3 (thr P t) ((vw P s).t t) i↔fr3 P s t i=true:=by
 unfold b2l fr3;rw [b8K hv hk ht,zp4,Bool.not_eq_true',List.all_eq_true];constructor
 ·rintro ⟨ha,hb,_⟩;refine ⟨ha,fun j hj => ?_⟩;have hj:=List.mem_range.1 hj;cases hw:wts (aAt (thr P t) i) (aAt (thr P t) j) with
  | false=>rfl
  | true =>
    have hm:must 3 (aAt (thr P t) i) (aAt (thr P t) j):=by
     unfold wts at hw;simp at hw;unfold must;omega
    have:=hb j hj hm;rw [b8K hv hk ht] at this;rw [this];rfl
 rintro ⟨ha,hb⟩;refine ⟨ha,fun j hj hm => ?_,fun h=>by omega⟩;have:=hb j (List.mem_range.2 hj);rw [b8K hv hk ht];have hw:wts (aAt (thr P t) i) (aAt (thr P t) j)=true:=by
  unfold must at hm;unfold wts;simp;omega
 rw [hw] at this;simpa using this
theorem b7k {i:Nat} (hi:i<(thr P t).length) (h2:k≠2):vw P (doS P s t i)=doA k P (vw P s) t i :=
 c3B hv hk.wf ht hi (.inl h2) (.inl (by rw [b8L hv hk ht];exact (a9D hv hk ht).2 (hk.nb h2 t (lt3 hv ht))))
theorem a4l {i j:Nat} (hj:3<=j):dS s t i j=s j:=by
 have:=lt3 hv ht;unfold dS;rw [a0I _ _ _ (by omega)]
theorem c0S {i:Nat} (hi:i<(thr P t).length) (hb:btI (s t) i=false):WfK k P (doS P s t i):=by
 have ht3:=lt3 hv ht;have hs:=hk.wf;have hout : ∀ j,14<=j->doS P s t i j=s j:=by
  intro j hj;unfold doS;split
  ·rename_i hl;have hn:=c0M hv hs ht hi hl;rw [a0I _ _ _ (by omega),a4l hv hk ht (by omega)]
  split
  ·rename_i hl;obtain ⟨c0,c1,_⟩:=b7f hv hs ht hi (.inr hl);rw [a0I _ _ _ (by omega),a4l hv hk ht (by omega)]
  exact a4l hv hk ht (by omega)
 refine ⟨Wf.do hv hs ht hi hb,fun h u hu => ?_,fun u j hu hj hw => ?_,fun n hn2 hle => ?_⟩
 ·rw [hout _ (by omega)];exact hk.nb h u hu
 ·rw [hout _ (by omega)] at hw;rw [hout _ (by omega),hout _ (by omega)];exact hk.bz u j hu hj hw
 unfold doS;split
 ·rename_i hl;have hlt:=b0z ht hi hl;rw [a0I _ _ _ (by omega),a4l hv hk ht (by omega)];exact hk.rz n hn2 hle
 split
 ·rename_i hl;obtain ⟨c0,c1,_⟩:=b7f hv hs ht hi (.inr hl);rw [a0I _ _ _ (by omega),a4l hv hk ht (by omega)];exact hk.rz n hn2 hle
 rw [a4l hv hk ht (by omega)];exact hk.rz n hn2 hle
end
def b0B (k:Nat) (P:Pg) (s u:Sta):Prop :=
 ∃ t i,t<P.length/\i<(thr P t).length/\b2l k (thr P t) ((vw P s).t t) i/\u=doS P s t i
section
variable {k:Nat} (hK:Kind k) {P:Pg} (hv:VP P) {s:Sta} (hk:WfK k P s)
include hK hv hk
theorem a4H {u:Sta}:u∈scs k P s↔b0B k P s u:=by
 unfold scs;rw [List.mem_flatMap];constructor
 ·rintro ⟨t,ht,hu⟩;have ht:=List.mem_range.1 ht;have hb:=b4b hv hk.wf ht;unfold sck at hu;rcases hK with rfl | rfl
  ·rw [if_pos rfl] at hu;unfold sc1 at hu;split at hu
   ·rename_i hi;exact ⟨t,nx s t,ht,hi,(b7i hv hk ht (by omega) hi).2 ⟨rfl,fun h=>by omega⟩,List.mem_singleton.1 hu⟩
   cases hu
  rw [if_neg (by omega)] at hu;unfold sc3 at hu;obtain ⟨i,hi,hu⟩:=List.mem_flatMap.1 hu;have hi:=List.mem_range.1 hi;unfold b4a at hu;cases hf:fr3 P s t i with
  | false=>rw [hf] at hu;cases hu
  | true =>
    rw [hf] at hu;exact ⟨t,i,ht,hi,(b7j hv hk ht hi).2 hf,List.mem_singleton.1 hu⟩
 rintro ⟨t,i,ht,hi,hm,rfl⟩;refine ⟨t,List.mem_range.2 ht,?_⟩;unfold sck;rcases hK with rfl | rfl
 ·obtain ⟨rfl,_⟩:=(b7i hv hk ht (by omega) hi).1 hm;rw [if_pos rfl];unfold sc1;rw [if_pos hi];simp
 rw [if_neg (by omega)];unfold sc3 b4a;refine List.mem_flatMap.2 ⟨i,List.mem_range.2 hi,?_⟩;rw [(b7j hv hk ht hi).1 hm];simp
theorem b4d {t i:Nat} (ht:t<P.length) (hm:b2l k (thr P t) ((vw P s).t t) i):btI (s t) i=false:=by
 have:=hm.1
 rwa [b8K hv hk ht] at this
theorem b0B.wf {u:Sta} (h:b0B k P s u):WfK k P u:=by
 obtain ⟨t,i,ht,hi,hm,rfl⟩:=h;exact c0S hv hk ht hi (b4d hK hv hk ht hm)
theorem b0B.stp {u:Sta} (h:b0B k P s u):Stp k P (vw P s) (vw P u):=by
 obtain ⟨t,i,ht,hi,hm,rfl⟩:=h;rw [b7k hv hk ht hi hK.n2];exact .act t i ht hi hm
theorem b5U {a:AS} (h:Stp k P (vw P s) a) : ∃ u,b0B k P s u/\vw P u=a:=by
 cases h with
 | act t i ht hi hm=>exact ⟨_,⟨t,i,ht,hi,hm,rfl⟩,b7k hv hk ht hi hK.n2⟩
 | out t ht h2 hb=>exact absurd h2 hK.n2
end
section
variable {k:Nat} (hK:Kind k) {P:Pg} (hv:VP P)
include hK hv
theorem a2b {u:Sta} (h:Reach (scs k P) s0 u):WfK k P u/\Stps k P AS.init (vw P u):=by
 induction h with
 | init=>exact ⟨WfK.init k P,by rw [b3Q];exact .refl _⟩
 | step _ hn ih =>
   have:=(a4H hK hv ih.1).1 hn;exact ⟨b0B.wf hK hv ih.1 this,.tail ih.2 (b0B.stp hK hv ih.1 this)⟩
theorem a6J {a:AS} (h:Stps k P AS.init a) : ∃ u,Reach (scs k P) s0 u/\vw P u=a:=by
 have key : ∀ {x a:AS},Stps k P x a->x=AS.init -> ∃ u,Reach (scs k P) s0 u/\vw P u=a:=by
  intro x a h
  induction h with
  | refl=>rintro rfl;exact ⟨s0,.init,b3Q P⟩
  | tail _ h' ih =>
    intro e;obtain ⟨u,h1,rfl⟩:=ih e;obtain ⟨v,h2,h3⟩:=b5U hK hv (a2b hK hv h1).1 h';exact ⟨v,.step h1 ((a4H hK hv (a2b hK hv h1).1).2 h2),h3⟩
 exact key h rfl
end
def unD (l:List Ac) (a:Int):Nat:=(List.range l.length).countP fun i => !btI a i
def muT (P:Pg) (s:Sta) (t:Nat):Nat:=2*unD (thr P t) (s t)+(s (38+t)).toNat
def mu (P:Pg) (s:Sta):Nat:=((List.range P.length).map (muT P s)).sum
theorem c0T {n t:Nat} {f g:Nat->Nat} (ht:t<n) (hlt:g t<f t) (he : ∀ u,u<n->u≠t->g u=f u):((List.range n).map g).sum<((List.range n).map f).sum:=by
 induction n with
 | zero=>omega
 | succ n ih =>
   rw [List.range_succ,List.map_append,List.map_append,List.sum_append,List.sum_append];simp only [List.map_cons,List.map_nil,List.sum_cons,List.sum_nil,Nat.add_zero];rcases Nat.lt_or_eq_of_le (Nat.le_of_lt_succ ht) with h | h
   ·have:=ih h (fun u hu=>he u (by omega));have:=he n (by omega) (by omega);omega
   subst h;have:(List.range t).map g=(List.range t).map f:=List.map_congr_left fun u hu=>he u (by have:=List.mem_range.1 hu;omega) (by have:=List.mem_range.1 hu;omega);rw [this];omega
theorem b8M {l:List Ac} {a:Int} {i:Nat} (hi:i<l.length) (hb:btI a i=false):unD l (a7K a i)+1=unD l a:=by
 unfold unD;have key : ∀ n,((List.range n).countP fun j => !btI (a7K a i) j)+(if i<n then 1 else 0)=(List.range n).countP fun j => !btI a j:=by
  intro n
  induction n with
  | zero=>simp
  | succ n ih =>
    have e1 : ∀ (b:Bool),List.countP (fun _ => !b) [n]=if b then 0 else 1:=by intro b;cases b <;> rfl
    have e2:List.countP (fun j => !btI (a7K a i) j) [n]=if btI (a7K a i) n then 0 else 1:=by rw [List.countP_singleton];cases btI (a7K a i) n <;> rfl
    have e3:List.countP (fun j => !btI a j) [n]=if btI a n then 0 else 1:=by rw [List.countP_singleton];cases btI a n <;> rfl
    rw [List.range_succ,List.countP_append,List.countP_append,e2,e3];by_cases hn:n=i
    ·subst hn;have e4:btI (a7K a n) n=true:=by rw [a7u];simp
     rw [e4,hb];simp only [Nat.lt_irrefl,if_false] at ih;simp only [Nat.lt_succ_self,if_true,Bool.false_eq_true,if_false];omega
    have e4:btI (a7K a i) n=btI a n:=by rw [a7u];simp [hn]
    rw [e4];by_cases hlt:i<n
    ·have h1:i<n+1:=by omega
     simp only [hlt,h1,if_true] at ih ⊢;omega
    have h1 : ¬ i<n+1:=by omega
    simp only [hlt,h1,if_false] at ih ⊢;omega
 have:=key l.length;rw [if_pos hi] at this;exact this
section
variable {k:Nat} (hK:Kind k) {P:Pg} (hv:VP P) {s:Sta} (hk:WfK k P s)
include hK hv hk
theorem b0B.mu {u:Sta} (h:b0B k P s u):mu P u<mu P s:=by
 have hs:=hk.wf;obtain ⟨t,i,ht,hi,hm,rfl⟩:=h;have ht3:=lt3 hv ht;have hb:=b4d hK hv hk ht hm;have hc:=b8M hi hb;have hd : ∀ u,u<3->doS P s t i u=dS s t i u:=by
  intro u hu;unfold doS;split
  ·rw [a0I _ _ _ (by omega)]
  split
  ·rw [a0I _ _ _ (by omega)]
  rfl
 have hw : ∀ u,u<3->doS P s t i (38+u)=s (38+u):=by
  intro u hu;unfold doS;split
  ·rename_i hl;have hn:=c0M hv hs ht hi hl;rw [a0I _ _ _ (by omega),a4l hv hk ht (by omega)]
  split
  ·rename_i hl;obtain ⟨c0,c1,_⟩:=b7f hv hs ht hi (.inr hl);rw [a0I _ _ _ (by omega),a4l hv hk ht (by omega)]
  exact a4l hv hk ht (by omega)
 refine c0T ht ?_ (fun u hu hne => ?_)
 ·unfold muT;have e:doS P s t i t=a7K (s t) i:=by rw [hd t ht3];unfold dS;rw [a1H]
  rw [e,hw t ht3];omega
 have hu3:=lt3 hv hu;unfold muT;have e:doS P s t i u=s u:=by rw [hd u hu3];unfold dS;rw [a0I _ _ _ hne]
 rw [e,hw u hu3]
end
theorem b4e {P:Pg} (hv:VP P):mu P s0<=42:=by
 unfold mu;have h1 : ∀ t,muT P s0 t<=14:=by
  intro t;unfold muT unD;have:(List.range (thr P t).length).countP (fun i => !btI (s0 t) i)<=(thr P t).length:=by
   have:=List.countP_le_length (p:=fun i => !btI (s0 t) i) (l:=List.range (thr P t).length);simpa using this
  have:=hv.l7 t;have e:(s0 (38+t)).toNat=0:=rfl;omega
 have h2 : ∀ n,((List.range n).map (muT P s0)).sum<=14*n:=by
  intro n
  induction n with
  | zero=>simp
  | succ n ih =>
    rw [List.range_succ,List.map_append,List.sum_append];have:=h1 n;simp;omega
 have:=h2 P.length;have:=hv.n3;omega
def a8I (a b:Int):Int:=if a<b then -1 else if b<a then 1 else 0
def cmpL:List Int->List Int->Int
 | [],[]=>0
 | [],_::_ => -1
 | _::_,[]=>1
 | a::l,b::m=>if a8I a b=0 then cmpL l m else a8I a b
def ltL (a b:List Int):Prop:=cmpL a b<0
theorem a4m {a b:Int}:a8I a b=0↔a=b:=by
 unfold a8I;by_cases h1:a<b
 ·rw [if_pos h1];omega
 rw [if_neg h1];by_cases h2:b<a
 ·rw [if_pos h2];omega
 rw [if_neg h2];omega
theorem b8N {a b:Int}:a8I a b<0↔a<b:=by
 unfold a8I;by_cases h1:a<b
 ·rw [if_pos h1];omega
 rw [if_neg h1];by_cases h2:b<a
 ·rw [if_pos h2];omega
 rw [if_neg h2];omega
theorem a8J : ∀ {a b:List Int},cmpL a b=0↔a=b
 | [],[]=>by simp [cmpL]
 | [],_::_=>by simp [cmpL]
 | _::_,[]=>by simp [cmpL]
 | a::l,b::m=>by
   unfold cmpL;split
   ·rename_i h;rw [a8J,List.cons.injEq];exact ⟨fun e=>⟨a4m.1 h,e⟩,fun e=>e.2⟩
   rename_i h;rw [List.cons.injEq];exact ⟨fun e=>absurd e h,fun e=>absurd (a4m.2 e.1) h⟩
theorem a5o {a b:Int} {l m:List Int}:ltL (a::l) (b::m)↔a<b\/(a=b/\ltL l m):=by
 unfold ltL;rw [cmpL];split
 ·rename_i h;have e:=a4m.1 h;subst e;constructor
  ·intro h;exact .inr ⟨rfl,h⟩
  rintro (h | h)
  ·omega
  exact h.2
 rename_i h;rw [b8N];constructor
 ·exact .inl
 rintro (h' | h')
 ·exact h'
 exact absurd (a4m.2 h'.1) h
theorem a5Y (a:List Int) : ¬ ltL a a:=by
 unfold ltL;rw [a8J.2 rfl];omega
theorem a8K : ∀ {a b c:List Int},ltL a b->ltL b c->ltL a c
 | [],[],_,h,_=>absurd h (a5Y _)
 | [],_::_,[],_,h=>by simp [ltL,cmpL] at h
 | [],_::_,_::_,_,_=>by simp [ltL,cmpL]
 | _::_,[],_,h,_=>by simp [ltL,cmpL] at h
 | _::_,_::_,[],_,h=>by simp [ltL,cmpL] at h
 | a::l,b::m,c::n,h1,h2=>by
   rw [a5o] at h1 h2 ⊢;rcases h1 with h1 | ⟨rfl,h1⟩
   ·rcases h2 with h2 | ⟨rfl,_⟩
    ·exact .inl (by omega)
    exact .inl h1
   rcases h2 with h2 | ⟨rfl,h2⟩
   ·exact .inl h2
   exact .inr ⟨rfl,a8K h1 h2⟩
theorem a5Z : ∀ {a b:List Int},¬ ltL a b -> ¬ ltL b a->a=b
 | [],[],_,_=>rfl
 | [],_::_,h,_=>absurd (by simp [ltL,cmpL]) h
 | _::_,[],_,h=>absurd (by simp [ltL,cmpL]) h
 | a::l,b::m,h1,h2=>by
   rw [a5o] at h1 h2;have e:a=b:=by omega
   subst e;rw [a5Z (a:=l) (b:=m) (fun h=>h1 (.inr ⟨rfl,h⟩)) (fun h=>h2 (.inr ⟨rfl,h⟩))]
theorem b0C (x y:Int):N38 Ar.std x y=some (a8I x y):=by
 have h : ∀ z,N71 Ar.std z=some false:=fun z=>by unfold N71;simp
 unfold N38;rw [h,h];unfold a8I;simp only [Option.bind_some,cond_false,a0R];by_cases h1:x<y
 ·rw [if_pos h1];exact cnT (by simp [h1]) rfl
 rw [if_neg h1];refine cnF (by simp [h1]) ?_;by_cases h2:y<x
 ·rw [if_pos h2];exact cnT (by simp [h2]) rfl
 rw [if_neg h2];exact cnF (by simp [h2]) rfl
theorem b4f {a b:List Int} (ha:a.length<4294967296) (hb:b.length<4294967296):N62 Ar.std (a1f a) (a1f b)=some (cmpL a b):=by
 have key : ∀ k i,i+k=a.length->i<=b.length -> ∃ x,iter (a9h Ar.std (a1f a) (a1f b)) (i:Int)=some x /\
   Sum.elim (fun _:Unit=>bif Ar.std.zlt (Ar.std.len (a1f a)) (Ar.std.len (a1f b)) then some (-1:Int) else some 0) (fun v:Int=>some v) x=some (cmpL (a.drop i) (b.drop i)):=by
  intro k
  induction k with
  | zero =>
    intro i hi hib;obtain rfl:i=a.length:=by omega
    refine ⟨.inl (),a0w (by unfold a9h;exact cnF (by simp) rfl),?_⟩;rw [List.drop_length];simp only [Sum.elim_inl,a0K,a0R];by_cases h:a.length<b.length
    ·rw [cnT (r:=_) (by simp;omega) rfl,List.drop_eq_getElem_cons h];rfl
    rw [cnF (r:=_) (by simp;omega) rfl,List.drop_eq_nil_of_le (by omega)];rfl
  | succ k ih =>
    intro i hi hib;have hia:i<a.length:=by omega
    have h1:=zp1 hia;rw [List.drop_eq_getElem_cons hia];by_cases hb':i<b.length
    ·have h2:=zp1 hb';rw [List.drop_eq_getElem_cons hb'];have hst:a9h Ar.std (a1f a) (a1f b) (i:Int)=some (bif decide (a8I a[i] b[i]=0) then .inl ((i+1:Nat):Int) else .inr (.inr (a8I a[i] b[i]))):=by
      unfold a9h;refine cnT (by simp;omega) (bt (a0B h1) (cnF (by simp;omega) (bt (a0B h2) (bt (b0C _ _) ?_))));simp only [a2i,a0j,a0u];rw [a2W _ (by omega) (by omega)];cases decide (a8I a[i] b[i]=0) <;> rfl
     by_cases hz:a8I a[i] b[i]=0
     ·rw [decide_eq_true hz] at hst;obtain ⟨x,e1,e2⟩:=ih (i+1) (by omega) (by omega);refine ⟨x,by rw [a1l hst];exact e1,?_⟩;rw [e2,cmpL,if_pos hz]
     rw [decide_eq_false hz] at hst;refine ⟨_,a0w hst,?_⟩;rw [cmpL,if_neg hz];rfl
    rw [List.drop_eq_nil_of_le (by omega:b.length<=i)];refine ⟨.inr 1,a0w ?_,rfl⟩;unfold a9h;exact cnT (by simp;omega) (bt (a0B h1) (cnT (by simp;omega) rfl))
 obtain ⟨x,e1,e2⟩:=key a.length 0 (by omega) (by omega);unfold N62;refine bt e1 ?_;simpa using e2
theorem b7l {a b:List Int} (ha:a.length<4294967296) (hb:b.length<4294967296):N64 Ar.std (a1f a) (a1f b)=some (decide (a=b)):=by
 unfold N64;by_cases hl:a.length=b.length
 ·have e:=a7s (step:=b2F Ar.std (a1f a) (a1f b)) a.length (fun i => !decide (a[i]?=b[i]?)) (.inr ()) (.inl ()) (fun i hi=>by
   have h1:=zp1 hi;have h2:=zp1 (show i<b.length by omega);have hd:decide (a[i]=b[i])=decide (a[i]?=b[i]?):=by
    rw [h1,h2];simp
   unfold b2F;refine cnT (by simp;omega) (bt (a0B h1) (bt (a0B h2) ?_));simp only [a2i,a0j,a0u];rw [hd,a2W _ (by omega) (by omega)];cases decide (a[i]?=b[i]?) <;> rfl) (by unfold b2F;exact cnF (by simp) rfl)
  refine cnT (by simp [hl]) (bt e ?_);cases hb':(List.range a.length).any fun i => !decide (a[i]?=b[i]?) with
  | true =>
    obtain ⟨i,_,h⟩:=List.any_eq_true.1 hb';have : ¬ a=b:=fun h'=>by subst h';simp at h
    rw [decide_eq_false this];rfl
  | false =>
    have:a=b:=by
     refine List.ext_getElem? fun i => ?_;rcases Nat.lt_or_ge i a.length with h | h
     ·have:=(List.any_eq_false.1 hb') i (List.mem_range.2 h);simpa using this
     rw [List.getElem?_eq_none h,List.getElem?_eq_none (by omega)]
    rw [decide_eq_true this];rfl
 refine cnF (by simp;omega) ?_;rw [decide_eq_false (fun h=>hl (by rw [h]))]
def GH (x:List Int):Prop:=x.length<4294967296
def SS (l:List (List Int)):Prop:=l.Pairwise ltL
section
variable {α:Type} [DecidableEq α]
def a2F (l:List α) (j:Nat):Bool:=decide (j=0) || !decide (l[j]?=l[j-1]?)
def ddN (l:List α):Nat->List α
 | 0=>[]
 | j+1=>ddN l j++(match l[j]? with | some x=>bif a2F l j then [x] else [] | none=>[])
theorem a3J {l:List α} {j:Nat} {x:α} (h:l[j]?=some x):ddN l (j+1)=bif a2F l j then ddN l j++[x] else ddN l j:=by
 show ddN l j++_=_;rw [h];cases a2F l j <;> simp
theorem b4g (l:List α) : ∀ j,(ddN l j).length<=j
 | 0=>Nat.le_refl _
 | j+1=>by
   have:=b4g l j;cases h:l[j]? with
   | none=>show (ddN l j++_).length<=_;rw [h];simp;omega
   | some x =>
     rw [a3J h];cases a2F l j with
     | true=>rw [cond_true,List.length_append];simp;omega
     | false=>rw [cond_false];omega
theorem b4h {l:List α} {q:Nat} (hq:q<=l.length) (h : ∀ j,1<=j->j<q->l[j]?≠l[j-1]?) : ∀ j,j<=q->ddN l j=l.take j
 | 0,_=>by simp [ddN]
 | j+1,hj=>by
   have hx:l[j]?=some l[j]:=zp1 (by omega);have hk:a2F l j=true:=by
    unfold a2F;by_cases h0:j=0
    ·rw [decide_eq_true h0];rfl
    rw [decide_eq_false h0,decide_eq_false (h j (by omega) (by omega))];rfl
   rw [a3J hx,hk,cond_true,b4h hq h j (by omega),a0g hx]
theorem a9E {l:List α} : ∀ j,j<=l.length -> ∀ x,x∈ddN l j↔x∈l.take j
 | 0,_,x=>by simp [ddN]
 | j+1,hj,x=>by
   have hx:l[j]?=some l[j]:=zp1 (by omega);have ih:=a9E (l:=l) j (by omega) x;rw [a3J hx,a0g hx,List.mem_append,List.mem_singleton];cases hk:a2F l j with
   | true=>rw [cond_true,List.mem_append,List.mem_singleton,ih]
   | false =>
     rw [cond_false,ih];refine ⟨.inl,fun h=>h.elim id fun h => ?_⟩;unfold a2F at hk;rw [Bool.or_eq_false_iff,decide_eq_false_iff_not] at hk;have he:l[j]?=l[j-1]?:=by simpa using hk.2
     rw [hx] at he;have hl:j-1<l.length:=by omega
     rw [zp1 hl] at he;rw [h,Option.some.inj he,List.mem_take_iff_getElem];refine ⟨j-1,?_,rfl⟩;omega
end
theorem b7m {l:List (List Int)} (hs:l.Pairwise fun x y => ¬ ltL y x) : ∀ j,j<=l.length->SS (ddN l j)
 | 0,_=>List.Pairwise.nil
 | j+1,hj=>by
   have hx:l[j]?=some l[j]:=zp1 (by omega);have ih:=b7m hs j (by omega);rw [a3J hx];cases hk:a2F l j with
   | false=>rw [cond_false];exact ih
   | true =>
     rw [cond_true];refine List.pairwise_append.2 ⟨ih,List.pairwise_singleton _ _,fun x hx' y hy => ?_⟩;rw [List.mem_singleton] at hy;subst hy;have hm:=(a9E (l:=l) j (by omega) x).1 hx';obtain ⟨i,hi,rfl⟩:=List.mem_take_iff_getElem.1 hm;have hij:i<j:=by omega
     have hp:=List.pairwise_iff_getElem.1 hs;have h1:=hp i j (by omega) (by omega) hij;by_cases hlt:ltL l[i] l[j]
     ·exact hlt
     exfalso;have he:=a5Z hlt h1;unfold a2F at hk;rw [Bool.or_eq_true,decide_eq_true_eq] at hk;have hk:=hk.resolve_left (by omega);rw [Bool.not_eq_true',decide_eq_false_iff_not] at hk;apply hk;have hl:j-1<l.length:=by omega
     rw [hx,zp1 hl];congr 1;have h2:=hp (j-1) j hl (by omega) (by omega);by_cases hi1:i=j-1
     ·subst hi1;exact he.symm
     have h3:=hp i (j-1) (by omega) hl (by omega);rw [he] at h3;exact (a5Z h3 h2).symm▸rfl
def GHs (n:Nat) (l:List (List Int)):Prop:=l.length=n /\ ∀ x∈l,GH x
theorem GHs.set {n:Nat} {l:List (List Int)} (h:GHs n l) (k:Nat) {x:List Int} (hx:GH x):GHs n (l.set k x) :=
 ⟨by rw [List.length_set];exact h.1,fun y hy=>(List.mem_or_eq_of_mem_set hy).elim (h.2 y) fun e=>e▸hx⟩
theorem a4n (l:List (List Int)):Ar.std.len (a1d l)=(l.length:Int):=by simp
theorem a7w {l:List (List Int)} {i:Nat} {x:List Int} (h:l[i]?=some x) {z:Nat} (hz:z=i):gc Ar.std (cL 1) (a1d l) z=some (a1f x):=by
 subst hz;unfold a1d;exact c0v (by rw [List.getElem?_map,h];rfl)
theorem c0U (l:List (List Int)) (k:Nat) (x:List Int) {z:Nat} (hz:z=k):Ar.std.lset (a1d l) z (.list 1 (a1f x))=a1d (l.set k x):=by
 subst hz;show (a1d l).set _ _=_;unfold a1d;rw [List.map_set,<-b8q];rfl
theorem b5V {n q:Nat} (hn:n<=5000000) (hq:1<=q) (hqn:q<n) {l:List (List Int)} (hl:GHs n l) (hdup:l[q]?=l[q-1]?) (hno : ∀ j,1<=j->j<q->l[j]?≠l[j-1]?) :
  ∃ (l':List (List Int)),q<=(ddN l n).length/\(ddN l n).length<n/\GHs n l'/\l'.take (ddN l n).length=ddN l n/\iter (a9i Ar.std 0 (n:Int) (q:Int)) ((q:Int),1,a1d l)=some (((ddN l n).length:Int),a1d l'):=by
 have hll:=hl.1;have h0:ddN l (q+1)=l.take q:=by
  have hx:l[q]?=some l[q]:=zp1 (by omega);have hk:a2F l q=false:=by
   unfold a2F;rw [decide_eq_false (by omega),decide_eq_true hdup];rfl
  rw [a3J hx,hk,cond_false];exact b4h (q:=q) (by omega) hno q (Nat.le_refl _)
 obtain ⟨⟨k,l'⟩,⟨h1,h2,h3,h4,h5,h6⟩,e⟩:=a0x (step:=a9i Ar.std 0 (n:Int) (q:Int)) (n-q-1) (fun (s:Nat×List (List Int)) (i:Nat)=>((s.1:Int),((i+1:Nat):Int),a1d s.2))
  (fun i s=>q<=s.1/\s.1<=q+i/\GHs n s.2/\s.1=(ddN l (q+i+1)).length/\s.2.take s.1=ddN l (q+i+1) /\ ∀ j,q+i<=j->s.2[j]?=l[j]?) (fun s=>((s.1:Int),a1d s.2))
  (fun i s hi ⟨g1,g2,g3,g4,g5,g6⟩=>by
   obtain ⟨k,m⟩:=s;simp only at g1 g2 g3 g4 g5 g6;have hm:=g3.1;have hx:l[q+i+1]?=some l[q+i+1]:=zp1 (by omega);have hy:l[q+i]?=some l[q+i]:=zp1 (by omega);have mx:m[q+i+1]?=some l[q+i+1]:=by rw [g6 _ (by omega),hx]
   have my:m[q+i]?=some l[q+i]:=by rw [g6 _ (by omega),hy]
   have gx:=hl.2 _ (List.mem_of_getElem? hx);have gy:=hl.2 _ (List.mem_of_getElem? hy);have hr:=b7l gx gy;have hk:a2F l (q+i+1) = !decide (l[q+i+1]=l[q+i]):=by
    unfold a2F;rw [decide_eq_false (by omega),Bool.false_or,show q+i+1-1=q+i by omega,hx,hy];congr 1;exact decide_eq_decide.2 ⟨fun h=>Option.some.inj h,fun h=>by rw [h]⟩
   have hdd:=a3J hx;rw [hk] at hdd;have hw:IntKind.i64.wrap (((i+1:Nat):Int)-1)=(i:Int):=by rw [a2W _ (by omega) (by omega)];omega
   have c1 : ∀ a:Bool,a=true->ck a=some ():=fun a h=>by rw [h];rfl
   have e1:Ar.std.zlt (((i+1:Nat):Int)) (Ar.std.zsub (n:Int) (q:Int))=true:=by simp;omega
   have e0:Ar.std.zle 0 (((i+1:Nat):Int))=true:=by simp;omega
   cases hd:decide (l[q+i+1]=l[q+i]) with
   | true =>
     rw [hd] at hr hdd;refine ⟨(k,m),⟨g1,by simp only;omega,g3,?_,?_,fun j hj=>g6 j (by omega)⟩,?_⟩
     ·simp only;rw [show q+(i+1)+1=q+i+1+1 by omega,hdd];exact g4
     ·simp only;rw [show q+(i+1)+1=q+i+1+1 by omega,hdd];exact g5
     unfold a9i;refine cnT e1 (bt (c1 _ e0) (bt (c1 _ e1) (bt (a7w mx (by simp;omega)) (bt (v:=()) (c1 _ (by simp only [a0j,a0A,hw];simp)) (bt (v:=()) (c1 _ (by simp only [a0j,a0A,hw];simp;omega)) (bt (a7w my (by simp only [a0j,a0A,hw];simp;omega)) (bt hr (bt (v:=((k:Int),a1d m)) rfl ?_))))))));simp only [a0j,a0u,a5g (i:=i+1) (n:=5000001) (by omega) (by decide)]
   | false =>
     rw [hd] at hr hdd;have htk:(m.set k l[q+i+1]).take (k+1)=ddN l (q+i+1)++[l[q+i+1]]:=by
      have:(m.set k l[q+i+1])[k]?=some l[q+i+1]:=List.getElem?_set_self (by omega);rw [a0g this,List.take_set_of_le (Nat.le_refl _),g5]
     refine ⟨(k+1,m.set k l[q+i+1]),⟨by simp only;omega,by simp only;omega,g3.set k gx,?_,?_,fun j hj => ?_⟩,?_⟩
     ·simp only;rw [show q+(i+1)+1=q+i+1+1 by omega,hdd,Bool.not_false,cond_true,List.length_append,<-g4];rfl
     ·simp only;rw [show q+(i+1)+1=q+i+1+1 by omega,hdd,Bool.not_false,cond_true];exact htk
     ·simp only;rw [List.getElem?_set_ne (by omega)];exact g6 j (by omega)
     unfold a9i;have hk' : ∃ d,Ar.std.lget (a1d m) (Ar.std.nat (Ar.std.zadd 0 (k:Int)))=some d:=by
      have:Ar.std.nat (Ar.std.zadd 0 (k:Int))=k:=by simp
      rw [this,b5L];exact ⟨_,zp1 (by unfold a1d;simp;omega)⟩
     obtain ⟨d,hd'⟩:=hk';refine cnT e1 (bt (c1 _ e0) (bt (c1 _ e1) (bt (a7w mx (by simp;omega)) (bt (v:=()) (c1 _ (by simp only [a0j,a0A,hw];simp)) (bt (v:=()) (c1 _ (by simp only [a0j,a0A,hw];simp;omega)) (bt (a7w my (by simp only [a0j,a0A,hw];simp;omega)) (bt hr (bt (v:=(((k+1:Nat):Int),a1d (m.set k l[q+i+1]))) ?_ ?_))))))))
     ·refine cnF rfl (bt (c1 _ e0) (bt (c1 _ e1) (bt (a7w mx (by simp;omega)) (bt (v:=()) (c1 _ (by simp)) (bt (v:=()) (c1 _ (by simp;omega)) (bt hd' ?_))))));rw [c0U m k _ (by simp)];simp only [a0j,a0u,a5g (i:=k) (n:=5000001) (by omega) (by decide)]
     simp only [a0j,a0u,a5g (i:=i+1) (n:=5000001) (by omega) (by decide)])
  (fun s _=>by unfold a9i;exact cnF (by simp;omega) rfl) (q,l) ⟨Nat.le_refl _,by simp,hl,by simp only;rw [Nat.add_zero,h0,List.length_take];omega,by simp only;rw [Nat.add_zero,h0],fun j _=>rfl⟩
 rw [show q+(n-q-1)+1=n by omega] at h4 h5;simp only at h1 h2 h4 h5;rw [<-h4];exact ⟨l',h1,by omega,h3,h5,e⟩
theorem c0V {n:Nat} (hn:n<=5000000) (h0:1<=n) {l:List (List Int)} (hl:GHs n l) :
  ∃ (l':List (List Int)),GHs n l'/\l'.take (ddN l n).length=ddN l n/\N63 Ar.std 0 (n:Int) (a1d l)=some (0,((ddN l n).length:Int),a1d l'):=by
 have hll:=hl.1;have hnone : ∀ i,i<=n->(∀ j,1<=j->j<i->l[j]?≠l[j-1]?)->ddN l i=l.take i:=fun i hi h=>b4h (q:=i) (by omega) h i (Nat.le_refl _);unfold N63;by_cases h2:n<2
 ·have e:=hnone n (Nat.le_refl _) (fun j h1 h2=>by omega);rw [List.take_of_length_le (by omega)] at e;rw [e];refine ⟨l,hl,List.take_length,?_⟩;rw [hll];exact cnT (by simp;omega) rfl
 have c1 : ∀ a:Bool,a=true->ck a=some ():=fun a h=>by rw [h];rfl
 rcases a2g (step:=b1J Ar.std 0 (n:Int) (a1d l)) (n-1) (fun (_:Unit) (i:Nat)=>((i+1:Nat):Int)) (fun i _ => ∀ j,1<=j->j<i+1->l[j]?≠l[j-1]?) (fun _ x => ∃ (l':List (List Int)),GHs n l'/\l'.take (ddN l n).length=ddN l n/\x = .inr (((ddN l n).length:Int),a1d l')) (fun _ => .inl ())
  (fun i s hi hno=>by
   have hx:l[i+1]?=some l[i+1]:=zp1 (by omega);have hy:l[i]?=some l[i]:=zp1 (by omega);have hr:=b7l (hl.2 _ (List.mem_of_getElem? hx)) (hl.2 _ (List.mem_of_getElem? hy));have hw:IntKind.i64.wrap (((i+1:Nat):Int)-1)=(i:Int):=by rw [a2W _ (by omega) (by omega)];omega
   have e0:Ar.std.zle 0 (((i+1:Nat):Int))=true:=by simp;omega
   have e1:Ar.std.zlt (((i+1:Nat):Int)) (n:Int)=true:=by simp;omega
   cases hd:decide (l[i+1]=l[i]) with
   | false =>
     rw [hd] at hr;refine .inl ⟨(),fun j hj1 hj2 => ?_,?_⟩
     ·by_cases hji:j=i+1
      ·subst hji;rw [hx,show i+1-1=i by omega,hy];exact fun h=>(of_decide_eq_false hd) (Option.some.inj h)
      exact hno j hj1 (by omega)
     unfold b1J;refine cnT e1 (bt (c1 _ e0) (bt (c1 _ e1) (bt (a7w hx (by simp)) (bt (v:=()) (c1 _ (by simp only [a0j,a0A,hw];simp)) (bt (v:=()) (c1 _ (by simp only [a0j,a0A,hw];simp;omega)) (bt (a7w hy (by simp only [a0j,a0A,hw];simp)) (bt hr (cnF rfl ?_))))))));simp only [a0j,a0u,a5g (i:=i+1) (n:=5000001) (by omega) (by decide)]
   | true =>
     rw [hd] at hr;obtain ⟨l',g1,g2,g3,g4,e⟩:=b5V hn (q:=i+1) (by omega) (by omega) hl (by rw [hx,show i+1-1=i by omega,hy,of_decide_eq_true hd]) hno;generalize hk:(ddN l n).length=k at g1 g2 g4 e;refine .inr ⟨.inr ((k:Int),a1d (l'.take k++List.replicate (n-k) [])),⟨_,⟨by have:=g3.1;simp;omega,fun h hh => ?_⟩,?_,rfl⟩,?_⟩
     ·rcases List.mem_append.1 hh with hh | hh
      ·exact g3.2 h (List.mem_of_mem_take hh)
      rw [(List.mem_replicate.1 hh).2];show ([]:List Int).length<4294967296;simp
     ·have hkl:(l'.take k).length=k:=by have:=g3.1;rw [List.length_take];omega
      rw [List.take_append_of_le_length (by omega),List.take_take,Nat.min_self];exact g4
     unfold b1J;have hlen':=a4n l';rw [g3.1] at hlen';refine cnT e1 (bt (c1 _ e0) (bt (c1 _ e1) (bt (a7w hx (by simp)) (bt (v:=()) (c1 _ (by simp only [a0j,a0A,hw];simp)) (bt (v:=()) (c1 _ (by simp only [a0j,a0A,hw];simp;omega)) (bt (a7w hy (by simp only [a0j,a0A,hw];simp)) (bt hr (cnT rfl ?_))))))));refine bt (c1 _ e0) (bt (v:=()) (c1 _ (by simp;omega)) (bt (v:=()) (c1 _ (by simp)) (bt e ?_)));dsimp only;refine bt (v:=()) (c1 _ (by simp)) (bt (v:=()) (c1 _ (by simp;omega)) (bt (v:=()) (c1 _ (by simp)) (bt (v:=()) (c1 _ (by rw [hlen'];simp;omega)) (bt (v:=()) (c1 _ (by simp)) (bt (v:=()) (c1 _ (by simp)) (bt (v:=()) (c1 _ (by simp;omega)) ?_))))));have hf:Ar.std.fill (a1d l') (Ar.std.zadd 0 (k:Int)) (Ar.std.zsub (n:Int) (k:Int)) (.list 1 [])=a1d (l'.take k++List.replicate (n-k) []):=by
      have hl':=g3.1;have a1:Ar.std.zadd 0 (k:Int)=(k:Int):=by simp
      have a2:Ar.std.zsub (n:Int) (k:Int)=((n-k:Nat):Int):=by simp;omega
      rw [a1,a2,b0w];unfold a1p a1d;rw [Int.toNat_natCast,Int.toNat_natCast,List.drop_eq_nil_of_le (by simp;omega),List.append_nil,List.map_append,b2f,List.map_take,List.map_replicate];congr 1
      ·unfold enc;rw [List.map_take]
      unfold enc;rw [List.map_replicate];rfl
     rw [hf];simp)
  (fun s _=>by
   unfold b1J;exact cnF (by simp;omega) rfl) () (fun j h1 h2=>by omega) with ⟨_,hno,e⟩ | ⟨_,x,_,⟨l',g1,g2,rfl⟩,e⟩
 ·have e':=hnone n (Nat.le_refl _) (fun j h1 h2=>hno j h1 (by omega));rw [List.take_of_length_le (by omega)] at e';rw [e'];refine ⟨l,hl,List.take_length,?_⟩;rw [hll];exact cnF (by simp;omega) (bt e rfl)
 exact ⟨l',g1,g2,cnF (by simp;omega) (bt e (by simp))⟩
theorem b0D {l:List (List Int)} (h:SS l):l.Nodup:=h.imp fun {a b} hab e=>by subst e;exact a5Y a hab
theorem a8L {l l':List (List Int)} (h:SS l) (h':SS l') (hm : ∀ x,x∈l↔x∈l'):l=l':=by
 have hp:=(List.perm_ext_iff_of_nodup (b0D h) (b0D h')).2 hm;exact hp.eq_of_pairwise (le:=ltL) (fun a b _ _ h1 h2=>absurd (a8K h1 h2) (a5Y a)) h h'
theorem a3W {a b:List Int} (ha:GH a) (hb:GH b):ltF (fun a0 b0=>N62 Ar.std a0 b0) (a1f a) (a1f b)=decide (cmpL a b<0):=by
 unfold ltF;simp only [b4f ha hb]
theorem c0W {hs:List (List Int)} (hg : ∀ h∈hs,GH h):CmpOk (fun a0 b0=>N62 Ar.std a0 b0) (hs.map a1f):=by
 have hm : ∀ {p:List D->Prop},(∀ a,a∈hs->p (a1f a)) -> ∀ x∈hs.map a1f,p x:=by
  intro p h x hx;obtain ⟨a,ha,rfl⟩:=List.mem_map.1 hx;exact h a ha
 refine ⟨hm fun a ha=>hm fun b hb=>⟨_,b4f (hg a ha) (hg b hb)⟩,hm fun a ha => ?_,hm fun a ha=>hm fun b hb=>hm fun c hc => ?_,hm fun a ha=>hm fun b hb => ?_⟩
 ·rw [a3W (hg a ha) (hg a ha)];exact decide_eq_false (a5Y a)
 ·rw [a3W (hg a ha) (hg b hb),a3W (hg b hb) (hg c hc),a3W (hg a ha) (hg c hc)];simp only [decide_eq_true_eq];exact fun h1 h2=>a8K h1 h2
 rw [a3W (hg a ha) (hg b hb),a3W (hg b hb) (hg a ha)];simp only [decide_eq_false_iff_not];intro h1 h2;rw [a5Z h1 h2]
theorem a8M (hs:List (List Int)) (h1:1<=hs.length) (h2:hs.length<=5000000) (hg : ∀ h∈hs,GH h) :
  ∃ ss:List (List Int),SS ss/\(∀ x,x∈ss↔x∈hs)/\ss.length<=hs.length /\
    ∃ (r20:List D) (l':List (List Int)),N61 Ar.std 0 (Ar.std.len (a1d hs)) (a1d hs)=some r20/\N63 Ar.std 0 (Ar.std.len (a1d hs)) r20=some (0,(ss.length:Int),a1d l')/\l'.take ss.length=ss/\ss.length<=l'.length /\ ∀ x∈l',GH x:=by
 have hlen:=a4n hs;have hcmp:=c0W hg;obtain ⟨s0,hs0⟩ : ∃ s0,s0=hs.mergeSort fun a b => !decide (cmpL b a<0):=⟨_,rfl⟩;have e0:s0.map a1f=(hs.map a1f).mergeSort fun x y => !ltF (fun a0 b0=>N62 Ar.std a0 b0) y x:=by
  rw [hs0];exact List.map_mergeSort fun a ha b hb=>by rw [a3W (hg b hb) (hg a ha)]
 have hmem0 : ∀ x,x∈s0↔x∈hs:=fun x=>by rw [hs0,List.mem_mergeSort]
 have g0 : ∀ x∈s0,GH x:=fun x hx=>hg x ((hmem0 x).1 hx);have hl0:s0.length=hs.length:=by
  have:=congrArg List.length e0;rw [List.length_map,List.length_mergeSort,List.length_map] at this;exact this
 have e94:N61 Ar.std 0 (Ar.std.len (a1d hs)) (a1d hs)=some (a1d s0):=by
  unfold N61;rw [hlen];have:=c0u (c:=cL 1) (f:=fun a0 b0=>N62 Ar.std a0 b0) (n:=(hs.length:Int)) (xs:=hs.map a1f) (by rw [List.length_map]) (by omega) hcmp;rw [<-e0] at this;exact this
 have hsort:s0.Pairwise fun x y => ¬ ltL y x:=by
  have hp:=List.pairwise_mergeSort (le:=fun a b:List Int => !decide (cmpL b a<0)) (fun a b c h1 h2=>by
   simp only [Bool.not_eq_true',decide_eq_false_iff_not] at h1 h2 ⊢;intro h;by_cases hab:ltL a b
   ·exact h2 (a8K (a:=c) (b:=a) (c:=b) h hab)
   ·rw [a5Z hab h1] at h;exact h2 h) (fun a b=>by
   simp only [Bool.or_eq_true,Bool.not_eq_true',decide_eq_false_iff_not];by_cases hab:ltL b a
   ·right;intro h;exact a5Y _ (a8K hab h)
   exact .inl hab) hs
  rw [<-hs0] at hp;exact hp.imp fun {x y} h=>by
   simp only [Bool.not_eq_true',decide_eq_false_iff_not] at h;exact h
 obtain ⟨l',k3,k4,e98⟩:=c0V h2 h1 (l:=s0) ⟨hl0,g0⟩;have hll:=k3.1;have hdl:=b4g s0 hs.length;refine ⟨ddN s0 hs.length,b7m hsort _ (by omega),fun x => ?_,hdl,_,l',e94,by rw [hlen];exact e98,k4,by omega,k3.2⟩;rw [a9E (l:=s0) _ (by omega),List.take_of_length_le (by omega),hmem0]
theorem b8O (l:List (List Int)) {n:Nat} (h:n<=l.length):fz Ar.std (a1d l) 0 (n:Int)=some (a1d (l.take n)):=by
 unfold fz;have hz:Ar.std.zle (Ar.std.zadd 0 (n:Int)) (Ar.std.len (a1d l))=true:=by rw [a4n];simp;omega
 rw [hz,cond_true];simp only [a0u,b3J,Int.zero_add,Int.toNat_zero,List.drop_zero,Nat.sub_zero,Int.toNat_natCast];unfold a1d enc;rw [<-List.map_take,<-List.map_take]
def a5a (P:Pg) (s:Sta):List Int:=((List.range (sumLd P)).map fun n=>s (3+n))++[s 11,s 12,s 13]
theorem c0X (s:Sta) {p n:Nat} {a b:Int} (ha:a=p) (hb:b=((p+n:Nat):Int)) (h0:3<=p) (h1:p+n<=38):Ar.std.sub (eS s) a b=enc (cI .i8) ((List.range n).map fun j=>s (p+j)):=by
 subst ha hb;show ((eS s).drop ((p:Int)).toNat).take (((p+n:Nat):Int).toNat-((p:Int)).toNat)=_;rw [Int.toNat_natCast,Int.toNat_natCast,Nat.add_sub_cancel_left];apply List.ext_getElem?;intro i;by_cases hi:i<n
 ·rw [List.getElem?_take_of_lt hi,List.getElem?_drop,a5W s (by omega),a9y,List.getElem?_map,List.getElem?_range hi,kdi (by omega) (by omega)];rfl
 rw [List.getElem?_eq_none (by simp;omega),List.getElem?_eq_none (by simp;omega)]
theorem b5W (s:Sta) (b:Nat) (l:List Ac) (r:Nat->Int) (hr : ∀ i,i<l.length->(aAt l i).1=1->r i=s (3+(b+nLd (l.take i)))):reads l r=(List.range (nLd l)).map fun n=>s (3+(b+n)):=by
 unfold reads;have key : ∀ m,m<=l.length->((List.range m).filterMap fun i=>if (aAt l i).1=1 then some (r i) else none)=(List.range (nLd (l.take m))).map fun n=>s (3+(b+n)):=by
  intro m
  induction m with
  | zero=>intro _;simp [nLd]
  | succ m ih =>
    intro hm;have hml:m<l.length:=by omega
    rw [List.range_succ,List.filterMap_append,ih (by omega),a2a hml];by_cases h:(aAt l m).1=1
    ·rw [if_pos h,List.range_succ,List.map_append];simp [h,hr m hml h]
    rw [if_neg h];simp [h]
 have:=key l.length (Nat.le_refl _)
 rwa [List.take_length] at this
theorem a9F {P:Pg} (s:Sta):b6Y P (vw P s)=a5a P s:=by
 unfold b6Y a5a;congr 1;have key : ∀ m,m<=P.length->((List.range m).flatMap fun t=>reads (thr P t) ((vw P s).rd t))=(List.range (sumLd (P.take m))).map fun n=>s (3+n):=by
  intro m
  induction m with
  | zero=>intro _;simp [sumLd]
  | succ m ih =>
    intro hm;rw [List.range_succ,List.flatMap_append,ih (by omega),a3H (by omega)];have e:=b5W s (sumLd (P.take m)) (thr P m) ((vw P s).rd m) (fun i hi hl=>by
     show (if (aAt (thr P m) i).1=1 then s (3+num P m i) else 0)=_
     rw [if_pos hl];rfl)
    simp only [List.flatMap_cons,List.flatMap_nil,List.append_nil];rw [e];apply List.ext_getElem?;intro i;by_cases h1:i<sumLd (P.take m)
    ·rw [zp7 (by simp;exact h1)];rw [List.getElem?_map,List.getElem?_map,List.getElem?_range h1,List.getElem?_range (by omega)]
    rw [zp8 (by simp;omega)];simp only [List.length_map,List.length_range];by_cases h2:i<sumLd (P.take m)+nLd (thr P m)
    ·rw [List.getElem?_map,List.getElem?_map,List.getElem?_range (by omega),List.getElem?_range h2];simp only [Option.map_some];congr 2;omega
    rw [List.getElem?_eq_none (by simp;omega),List.getElem?_eq_none (by simp;omega)]
 have:=key P.length (Nat.le_refl _)
 rwa [List.take_length] at this
section
variable {P:Pg} (hv:VP P) {s:Sta} (hs:Wf P s)
include hv hs
theorem a6K:sumLd P<=8:=Nat.le_trans (a2Q P) hv.w8
theorem a6a : ∀ x∈a5a P s,0<=x/\x<=3:=by
 intro x hx;have h8:=a6K hv hs;unfold a5a at hx;rcases List.mem_append.1 hx with hx | hx
 ·obtain ⟨n,hn,rfl⟩:=List.mem_map.1 hx;have:=List.mem_range.1 hn;exact hs.r n (by omega)
 simp at hx;rcases hx with rfl | rfl | rfl
 ·exact hs.c 0 (by omega)
 ·exact hs.c 1 (by omega)
 exact hs.c 2 (by omega)
theorem c0Y:N59 Ar.std (eS s) (eP P)=some (a1f (a5a P s)):=by
 have h8:=a6K hv hs;unfold N59;refine bck (by rw [b2g];rfl) ?_;have key:=a2E (step:=b2D Ar.std (eP P)) P (fun l=>(sumLd l:Int)) (fun z i=>(z,(i:Int))) id (fun i a ha hi=>by
  have e:a=thr P i:=by rw [a1U hi] at ha;exact (Option.some.inj ha).symm
  subst e;unfold b2D;refine cnT (by simp [hi]) (bt (a8F ha) ?_);have hl:=hv.l7 i;refine bt (a9z (by omega)) ?_;have h3:=a3G (thr P i);have h4:=hv.w4 i;have h5:=a3I P (show i<=P.length by omega);rw [List.take_length] at h5;have hn3:=hv.n3;simp only [a0j,a0u];rw [a2W _ (by omega) (by omega),a2W _ (by omega) (by omega)];unfold sumLd;simp) (by
  unfold b2D;exact cnF (by simp) rfl)
 rw [show ((0:Int),(0:Int))=(((sumLd []:Nat):Int),((0:Nat):Int)) from by simp [sumLd]];refine bt key ?_;simp only [id];refine bc (bc (bc (bc ?_)));have e1:N99 Ar.std (Ar.std.zadd (Ar.std.zadd 0 (Int.ofNat 3)) 0) (Ar.std.zsub (sumLd P:Int) 0) (eS s)=some (enc (cI .i8) ((List.range (sumLd P)).map fun j=>s (3+j))):=by
  unfold N99;rw [b2g,c0X s (p:=3) (n:=sumLd P) (by simp) (by simp) (by omega) (by omega)];exact bck (by simp;omega) (bt (b8p (by simp;omega)) rfl)
 refine bt e1 (bc (bc (bc (bc ?_))));rw [b2g,c0X s (p:=11) (n:=3) (by simp) (by simp) (by omega) (by omega)];refine bc (bt (b6X (by simp;omega)) ?_);have hO:((List.range (sumLd P)).map fun j=>s (3+j))++((List.range 3).map fun j=>s (11+j))=a5a P s:=rfl;rw [hO];have hvals:=a6a hv hs;have hlen:(a5a P s).length<=11:=by unfold a5a;simp;omega
 have key2:=a2E (step:=b2E Ar.std (enc (cI .i8) (a5a P s))) (a5a P s) (fun l=>a1f l) (fun z i=>(z,(i:Int))) id (fun i a ha hi=>by
  have hm:=hvals a (List.mem_of_getElem? ha);unfold b2E;refine cnT (by simp [hi]) (bt (a0B ha) ?_);have ew:Ar.std.wrp .i64 a=a:=by simp only [a0j];exact a2W _ (by omega) (by omega)
  rw [ew];refine bt (a5V (c:=cI .i64) (a:=a) rfl (by simp;omega)) ?_;simp only [a0j,a0u];rw [a2W _ (by omega) (by omega)];rfl) (by
  unfold b2E;exact cnF (by simp) rfl)
 exact bt key2 rfl
end
theorem b4i {k:Nat} {P:Pg} (hv:VP P) {s u:Sta} (hs:WfK k P s) (hu:WfK k P u) (fs:a5h P s=true) (fu:a5h P u=true) (h:a5a P s=a5a P u):s=u:=by
 have h8:=a6K hv hs.wf;have hz : ∀ {s:Sta},WfK k P s->a5h P s=true -> ∀ i,(i<3->s i=if i<P.length then ((2 ^ (thr P i).length-1:Nat):Int) else 0)/\(11+3<=i->s i=0):=by
  intro s hs fs i;unfold a5h at fs;rw [List.all_eq_true] at fs;have hw0 : ∀ t,t<3->s (38+t)=0:=by
   intro t ht;obtain ⟨w0,w1⟩:=hs.wf.w t ht;rcases Nat.lt_or_ge t P.length with h | h
   ·have:=fs t (List.mem_range.2 h);simp only [zp4,Bool.not_eq_true',decide_eq_false_iff_not] at this;omega
   rw [a3e h] at w1;have:stD [] (s t)=0:=rfl;rw [this] at w1;omega
  refine ⟨fun hi => ?_,fun hi => ?_⟩
  ·split
   ·rename_i h;have:=fs i (List.mem_range.2 h);simp only [zp4,decide_eq_true_eq] at this;exact this.1
   rename_i h;obtain ⟨d0,d1⟩:=hs.wf.d i hi;rw [a3e (by omega)] at d1;simp at d1;omega
  by_cases h1:i<38
  ·have hb:=hs.bz ((i-14) / 8) (((i-14)%8) / 2) (by omega) (by omega) (by rw [hw0 _ (by omega)];omega);rcases Nat.mod_two_eq_zero_or_one (i-14) with h2 | h2
   ·have e:14+8*((i-14) / 8)+2*(((i-14)%8) / 2)=i:=by omega
    rw [e] at hb;exact hb.1
   have e:14+8*((i-14) / 8)+2*(((i-14)%8) / 2)+1=i:=by omega
   rw [e] at hb;exact hb.2
  by_cases h2:i<41
  ·have e:i=38+(i-38):=by omega
   rw [e];exact hw0 _ (by omega)
  exact hs.wf.z i (by omega)
 have hcells : ∀ n,n<sumLd P+3->(a5a P s)[n]?=(a5a P u)[n]?:=fun n _=>by rw [h]
 have hget : ∀ (s:Sta) n,n<sumLd P->(a5a P s)[n]?=some (s (3+n)):=by
  intro s n hn;unfold a5a;rw [zp7 (by simp;exact hn),List.getElem?_map,List.getElem?_range hn];rfl
 have hget2 : ∀ (s:Sta) n,n<3->(a5a P s)[sumLd P+n]?=some (s (11+n)):=by
  intro s n hn;unfold a5a;rw [zp8 (by simp)];simp only [List.length_map,List.length_range,Nat.add_sub_cancel_left];rcases (show n=0\/n=1\/n=2 by omega) with rfl | rfl | rfl <;> rfl
 funext i;by_cases h1:i<3
 ·rw [(hz hs fs i).1 h1,(hz hu fu i).1 h1]
 by_cases h2:i<11
 ·by_cases h3:i-3<sumLd P
  ·have:=hcells (i-3) (by omega);rw [hget s _ h3,hget u _ h3,show 3+(i-3)=i by omega] at this;exact Option.some.inj this
  have e1:=hs.rz (i-3) (by omega) (by omega);have e2:=hu.rz (i-3) (by omega) (by omega);rw [show 3+(i-3)=i by omega] at e1 e2;rw [e1,e2]
 by_cases h3:i<14
 ·have:=hcells (sumLd P+(i-11)) (by omega);rw [hget2 s _ (by omega),hget2 u _ (by omega),show 11+(i-11)=i by omega] at this;exact Option.some.inj this
 rw [(hz hs fs i).2 (by omega),(hz hu fu i).2 (by omega)]
def b8P:Nat->List (List Int)
 | 0=>[[]]
 | n+1=>[0,1,2,3].flatMap fun a:Int=>(b8P n).map (a :: ·)
theorem b0E : ∀ n,(b8P n).length=4 ^ n
 | 0=>rfl
 | n+1=>by
   unfold b8P;simp only [List.flatMap_cons,List.flatMap_nil,List.length_append,List.length_map,b0E n,List.length_nil];rw [Nat.pow_succ];omega
theorem b0F : ∀ {l:List Int},(∀ x∈l,0<=x/\x<=3)->l∈b8P l.length
 | [],_=>by simp [b8P]
 | a::l,h=>by
   have ha:=h a (by simp);have ih:=b0F (l:=l) (fun x hx=>h x (by simp [hx]));rw [List.length_cons];unfold b8P;refine List.mem_flatMap.2 ⟨a,?_,List.mem_map.2 ⟨l,ih,rfl⟩⟩;simp;omega
def PB (P:Pg) (Q:List Sta):Prop := ∃ Ls:List (List Sta),Q=Ls.flatten/\(∀ l∈Ls,l.length<=21)/\Ls.length<=44 /\ ∀ j l,Ls[j]?=some l -> ∀ s∈l,mu P s+j<=42
theorem PB.len {P:Pg} {Q:List Sta} (h:PB P Q):Q.length<=924:=by
 obtain ⟨Ls,rfl,h1,h2,_⟩:=h;have : ∀ (L:List (List Sta)),(∀ l∈L,l.length<=21)->L.flatten.length<=21*L.length:=by
  intro L
  induction L with
  | nil=>intro _;simp
  | cons l L ih =>
    intro h;have h1:=h l (by simp);have h2:=ih (fun l hl=>h l (by simp [hl]));simp only [List.flatten_cons,List.length_append,List.length_cons];omega
 have:=this Ls h1;omega
theorem a5b {α:Type} : ∀ (Ls:List (List α)) {Q:List α} {s:α},Ls.flatten=Q++[s] -> ∃ A l E,Ls=A++(l++[s])::E/\Q=A.flatten++l
 | [],Q,s,h=>by simp at h
 | x::Ls,Q,s,h=>by
   rw [List.flatten_cons] at h;by_cases hE:Ls.flatten=[]
   ·rw [hE,List.append_nil] at h;exact ⟨[],Q,Ls,by rw [h];rfl,by simp⟩
   have hne:Ls.flatten≠[]:=hE;obtain ⟨y,z,hy⟩ : ∃ y z,Ls.flatten=y++[z]:=by
    rcases List.eq_nil_or_concat Ls.flatten with h' | ⟨y,z,h'⟩
    ·exact absurd h' hne
    exact ⟨y,z,by rw [h',List.concat_eq_append]⟩
   rw [hy,<-List.append_assoc] at h;have h1:=List.append_inj' h rfl;obtain ⟨rfl,h2⟩:=h1;simp at h2;subst h2;obtain ⟨A,l,E,e1,e2⟩:=a5b Ls hy;exact ⟨x::A,l,E,by rw [e1];rfl,by rw [e2];simp⟩
theorem PB.next {P:Pg} {Q:List Sta} {s:Sta} (h:PB P (Q++[s])) {new:List Sta} (hn:new.length<=21) (hm : ∀ u∈new,mu P u<mu P s):PB P (Q++new):=by
 obtain ⟨Ls,e,h1,h2,h3⟩:=h;obtain ⟨A,l,E,rfl,rfl⟩:=a5b Ls e.symm;have hs:mu P s+A.length<=42:=h3 A.length (l++[s]) (by rw [zp8 (Nat.le_refl _)];simp) s (by simp);refine ⟨A++[l,new],by simp,fun x hx => ?_,by simp;omega,fun j x hj u hu => ?_⟩
 ·simp at hx;rcases hx with hx | rfl | rfl
  ·exact h1 x (by simp [hx])
  ·have:=h1 (x++[s]) (by simp);simp at this;omega
  exact hn
 by_cases hjA:j<A.length
 ·rw [zp7 hjA] at hj;exact h3 j x (by rw [zp7 hjA];exact hj) u hu
 rw [zp8 (by omega)] at hj;rcases (show j=A.length\/j=A.length+1\/A.length+2<=j by omega) with rfl | rfl | hj2
 ·simp at hj;subst hj;exact h3 A.length (l++[s]) (by rw [zp8 (Nat.le_refl _)];simp) u (by simp [hu])
 ·rw [show A.length+1-A.length=1 by omega] at hj;simp at hj;subst hj;have:=hm u hu;omega
 rw [List.getElem?_eq_none (by simp;omega)] at hj;cases hj
noncomputable def lev (k:Nat) (P:Pg):Nat->List Sta
 | 0=>[s0]
 | n+1=>(lev k P n).flatMap (scs k P)
noncomputable def b7n (k:Nat) (P:Pg):List Sta:=(List.range 44).flatMap (lev k P)
section
variable {k:Nat} (hK:Kind k) {P:Pg} (hv:VP P)
include hK hv
theorem b7o : ∀ n,∀ s∈lev k P n,WfK k P s/\mu P s+n<=42
 | 0,s,hs=>by
   unfold lev at hs;rw [List.mem_singleton.1 hs];exact ⟨WfK.init k P,by have:=b4e hv;omega⟩
 | n+1,s,hs=>by
   unfold lev at hs;obtain ⟨u,hu,hs⟩:=List.mem_flatMap.1 hs;obtain ⟨h1,h2⟩:=b7o n u hu;have h3:=(a4H hK hv h1).1 hs;have h4:=b0B.mu hK hv h1 h3;exact ⟨b0B.wf hK hv h1 h3,by omega⟩
theorem b4j:s0∈b7n k P:=List.mem_flatMap.2 ⟨0,by simp,by simp [lev]⟩
theorem b4k : ∀ s∈b7n k P,∀ n∈scs k P s,n∈b7n k P:=by
 intro s hs n hn;obtain ⟨i,hi,hs⟩:=List.mem_flatMap.1 hs;have hi:=List.mem_range.1 hi;obtain ⟨h1,h2⟩:=b7o hK hv i s hs;exact List.mem_flatMap.2 ⟨i+1,List.mem_range.2 (by omega),by unfold lev;exact List.mem_flatMap.2 ⟨s,hs,hn⟩⟩
noncomputable def outs (P:Pg) (d:List Sta):List (List Int):=(d.filter (a5h P)).map (a5a P)
theorem b0G {d:List Sta} (hd:d.Nodup) (hr : ∀ s∈d,Reach (scs k P) s0 s):(outs P d).length<=4194304:=by
 have hw : ∀ s∈d,WfK k P s:=fun s hs=>(a2b hK hv (hr s hs)).1;have h8:=a6K hv (Wf.init P);have hn:(outs P d).Nodup:=by
  unfold outs;refine List.pairwise_map.2 ?_;refine (hd.filter _).imp_of_mem ?_;intro a b ha hb hne e;rw [List.mem_filter] at ha hb;exact hne (b4i hv (hw a ha.1) (hw b hb.1) ha.2 hb.2 e)
 have:=a7t (l:=outs P d) (m:=b8P (sumLd P+3)) hn (fun x hx=>by
  obtain ⟨s,hs,rfl⟩:=List.mem_map.1 hx;have hs:=(List.mem_filter.1 hs).1;have e:(a5a P s).length=sumLd P+3:=by unfold a5a;simp
  rw [<-e];exact b0F (a6a hv (hw s hs).wf))
 rw [b0E] at this;have h2:4 ^ (sumLd P+3)<=4 ^ 11:=Nat.pow_le_pow_right (by omega) (by omega);have h3:4 ^ 11=4194304:=rfl;omega
theorem c0Z {Q:List Sta} {s:Sta}:gc Ar.std cA (eQ (Q++[s])) Q.length=some (eS s):=by
 unfold gc;show ((eQ (Q++[s]))[Q.length]?).bind _=_;unfold eQ;rw [List.getElem?_map,zp8 (Nat.le_refl _)];simp [cA]
theorem b2h {seen Q done:List Sta} {s:Sta} (hI:Known (scs k P) s0 (b7n k P) seen (Q++[s]) done) (hB:PB P (Q++[s])) :
  ∃ seen' Q',Known (scs k P) s0 (b7n k P) seen' Q' (done++[s])/\PB P Q' /\
    a8a Ar.std (eP P) (Int.ofNat (150+k)) (eM seen,eQ (Q++[s]),a1d (outs P done))=some (.inl (eM seen',eQ Q',a1d (outs P (done++[s])))):=by
 have hsr:s∈seen:=hI.perm.mem_iff.2 (by simp);have hr:=hI.reach s hsr;obtain ⟨hw,_⟩:=a2b hK hv hr;have hwf:=c0R hv hw.wf k;obtain ⟨seen',Q',hp,hk',hlen⟩:=Known.next (succ:=scs k P) hI (b4k hK hv);have hnew:=a5n (scs k P s) seen Q hI.nodup;obtain ⟨new,hn1,hn2,hn3,hn4⟩:=hnew;rw [hn1] at hp;simp only [Prod.mk.injEq] at hp;obtain ⟨rfl,rfl⟩:=hp;have hZ:ZL seen:=fun u hu=>(a2b hK hv (hI.reach u hu)).1.wf.z;have hQl:=hB.len;rw [List.length_append,List.length_singleton] at hQl;have hnl:new.length<=21:=by
  have:=b3X (seen,Q) (scs k P s);unfold pu at this;rw [hn1] at this;have h2:=hwf.2;simp only [List.length_append] at this;omega
 have hB':PB P (Q++new):=hB.next hnl (fun u hu=>b0B.mu hK hv hw ((a4H hK hv hw).1 (hn3 u hu)));refine ⟨_,_,hk',hB',?_⟩;have hdn:done.Nodup /\ ∀ u∈done,Reach (scs k P) s0 u:=by
  have:=hI.perm.nodup_iff.1 hI.nodup;exact ⟨(List.nodup_append.1 this).1,fun u hu=>hI.reach u (hI.perm.mem_iff.2 (by simp [hu]))⟩
 have hol:=b0G hK hv hdn.1 hdn.2;have hQlen:Ar.std.len (eQ (Q++[s]))=((Q.length+1:Nat):Int):=by
  show ((eQ (Q++[s])).length:Int)=_;unfold eQ;simp
 have e1:Ar.std.wrp .i64 (Ar.std.zsub ((Q.length+1:Nat):Int) 1)=(Q.length:Int):=by
  simp only [a0j,a0A];rw [a2W _ (by omega) (by omega)];omega
 have e2:Ar.std.sub (eQ (Q++[s])) 0 (Q.length:Int)=eQ Q:=by
  show ((eQ (Q++[s])).drop (0:Int).toNat).take _=_;unfold eQ;simp
 have e3:Ar.std.spl Z41 (Ar.std.zadd 0 (Int.ofNat 0)) (eS s)=eS s:=c0F _ _ b3T rfl;unfold a8a;dsimp only;rw [hQlen,e1,e2];refine cnT (by first | (simp;done) | (simp;omega)) (bc (bc ?_))
 have e4:Ar.std.nat (Q.length:Int)=Q.length:=rfl;rw [e4];refine bt (c0Z hK hv) (bck (by rw [b2g];try rfl) (bc (bc (bc ?_))))
 rw [e3];refine bt (gaS s rfl) (bt (c0J hv hw.wf) ?_);refine bt (v:=a1d (outs P (done++[s]))) ?_ ?_
 ·unfold outs;rw [List.filter_append,List.map_append];cases ho:a5h P s with
  | true =>
    have ef:List.filter (a5h P) [s]=[s]:=by simp [ho]
    rw [ef];simp only [cond_true];refine bt (c0Y hv hw.wf) ?_;have:=a5V (c:=cL 1) (l:=(outs P done).map (enc (cI .i64))) (a:=a1f (a5a P s)) (d := .list 1 (a1f (a5a P s))) rfl (by rw [List.length_map];omega);refine bt this ?_;unfold a1d outs;simp
  | false =>
    have ef:List.filter (a5h P) [s]=[]:=by simp [ho]
    rw [ef];simp
 refine bt (v:=(eM (pu (seen,Q) (scs k P s)).1,eQ (pu (seen,Q) (scs k P s)).2)) ?_ ?_
 ·rcases hK with rfl | rfl
  ·refine cnT rfl (bt (b8I hv hw.wf (x:=(seen,Q)) hZ (by simp only;omega)) rfl)
  refine cnF rfl (cnT rfl (bt (b8J hv hw.wf (x:=(seen,Q)) hZ (by simp only;omega)) rfl))
 unfold pu;rw [hn1]
theorem b4l {seen done:List Sta}:a8a Ar.std (eP P) (Int.ofNat (150+k)) (eM seen,eQ [],a1d (outs P done))=some (.inr (a1d (outs P done))):=by
 unfold a8a;exact cnF (by simp [eQ]) rfl
theorem b4m : ∃ done:List Sta,(∀ s,s∈done↔Reach (scs k P) s0 s)/\done.Nodup/\iter (a8a Ar.std (eP P) (Int.ofNat (150+k))) (eM [s0],eQ [s0],[])=some (a1d (outs P done)):=by
 have key : ∀ n seen Q done,(b7n k P).length-done.length<n->Known (scs k P) s0 (b7n k P) seen Q done->PB P Q ->
   ∃ done':List Sta,(∀ s,s∈done'↔Reach (scs k P) s0 s)/\done'.Nodup/\iter (a8a Ar.std (eP P) (Int.ofNat (150+k))) (eM seen,eQ Q,a1d (outs P done))=some (a1d (outs P done')):=by
  intro n
  induction n with
  | zero=>intro _ _ _ h;omega
  | succ n ih =>
    intro seen Q done hn hI hB;rcases List.eq_nil_or_concat Q with rfl | ⟨Q,s,rfl⟩
    ·refine ⟨done,Known.end (succ:=scs k P) hI,?_,a0w (b4l hK hv)⟩;have:=hI.perm.nodup_iff.1 hI.nodup;exact (List.nodup_append.1 this).1
    rw [List.concat_eq_append] at hI hB ⊢;obtain ⟨seen',Q',h1,h2,h3⟩:=b2h hK hv hI hB;rw [a1l h3];have hl:=h1.len;rw [List.length_append,List.length_singleton] at hl;exact ih seen' Q' (done++[s]) (by rw [List.length_append,List.length_singleton];omega) h1 h2
 have h0:Known (scs k P) s0 (b7n k P) [s0] [s0] []:=Known.start _ (b4j hK hv);have hB:PB P [s0]:=⟨[[s0]],by simp,fun l hl=>by simp at hl;subst hl;simp,by simp,fun j l hj s hs=>by
  rcases Nat.eq_zero_or_pos j with rfl | hj0
  ·simp at hj;subst hj;simp at hs;subst hs;have:=b4e hv;omega
  rw [List.getElem?_eq_none (by simp;omega)] at hj;cases hj⟩
 exact key _ [s0] [s0] [] (Nat.lt_succ_self _) h0 hB
theorem b0H : ∃ o,Can k P o:=by
 have key : ∀ n (s:Sta),mu P s<n->Reach (scs k P) s0 s -> ∃ u,Reach (scs k P) s0 u/\b9A P (vw P u):=by
  intro n
  induction n with
  | zero=>intro s h;omega
  | succ n ih =>
    intro s hs hr;obtain ⟨hw,_⟩:=a2b hK hv hr;by_cases h : ∃ u,u∈scs k P s
    ·obtain ⟨u,hu⟩:=h;have:=b0B.mu hK hv hw ((a4H hK hv hw).1 hu);exact ih u (by omega) (.step hr hu)
    refine ⟨s,hr,b3N (k:=k) (fun t i ht hi hm => ?_) (fun t ht => ?_)⟩
    ·exact h ⟨_,(a4H hK hv hw).2 ⟨t,i,ht,hi,hm,rfl⟩⟩
    rw [b8L hv hw ht];exact (a9D hv hw ht).2 (hw.nb hK.n2 t (lt3 hv ht))
 obtain ⟨u,hu,hf⟩:=key (mu P s0+1) s0 (by omega) .init;exact ⟨_,vw P u,(a2b hK hv hu).2,hf,rfl⟩
theorem c1b : ∃ O:List (List Int),SS O/\(∀ o,o∈O↔Can k P o)/\O.length<=4194304 /\
  ∃ l':List (List Int),N30 Ar.std (eP P) (Int.ofNat (150+k))=some (0,(O.length:Int),a1d l')/\l'.take O.length=O/\O.length<=l'.length /\ ∀ x∈l',GH x:=by
 obtain ⟨done,hd,hdn,hit⟩:=b4m hK hv;have hlen:=b0G hK hv hdn (fun s hs=>(hd s).1 hs);have hmem : ∀ o,o∈outs P done↔Can k P o:=by
  intro o;unfold outs Can;rw [List.mem_map];constructor
  ·rintro ⟨s,hs,rfl⟩;rw [List.mem_filter] at hs;obtain ⟨hw,hst⟩:=a2b hK hv ((hd s).1 hs.1);exact ⟨vw P s,hst,(a8H hv hw.wf).1 hs.2,a9F s⟩
  rintro ⟨a,h1,h2,rfl⟩;obtain ⟨s,hs,rfl⟩:=a6J hK hv h1;obtain ⟨hw,hst⟩:=a2b hK hv hs;exact ⟨s,List.mem_filter.2 ⟨(hd s).2 hs,(a8H hv hw.wf).2 h2⟩,(a9F s).symm⟩

 have hne:1<=(outs P done).length:=by
  obtain ⟨o,ho⟩:=b0H hK hv;have:=(hmem o).2 ho;exact List.length_pos_of_mem this
 have hg : ∀ h∈outs P done,GH h:=by
  intro h hh;obtain ⟨s,_,rfl⟩:=List.mem_map.1 hh;have h8:=a6K hv (Wf.init P);show (a5a P s).length<_;unfold a5a;simp;omega
 obtain ⟨ss,h1,h2,h3,r20,l',e1,e2,e3⟩:=a8M (outs P done) hne (by omega) hg;refine ⟨ss,h1,fun o=>(h2 o).trans (hmem o),by omega,l',?_,e3⟩;unfold N30;have eZ:Z41=eS s0:=c0K;rw [show (zz0:List D)=eS s0 from eZ];refine bck (b8H s0) ?_;refine bt (v:=a1d (outs P done)) ?_ ?_
 ·exact hit
 refine cnT (by rw [a4n];simp;omega) (bt e1 (bt e2 rfl))
end
structure IsO (k:Nat) (P:Pg) (O:List (List Int)):Prop where
 ss:SS O
 mem : ∀ o,o∈O↔Can k P o
 len:O.length<=4194304
theorem Can.len {k:Nat} {P:Pg} (hK:Kind k) (hv:VP P) {o:List Int} (h:Can k P o):o.length<=11 /\ ∀ x∈o,0<=x/\x<=3:=by
 obtain ⟨a,h1,h2,rfl⟩:=h;obtain ⟨s,hs,rfl⟩:=a6J hK hv h1;obtain ⟨hw,_⟩:=a2b hK hv hs;have h8:=a6K hv hw.wf;rw [a9F];refine ⟨by unfold a5a;simp;omega,a6a hv hw.wf⟩
theorem c1c {P:Pg} (hv:VP P) {k:Nat} (hK:Kind k) : ∃ O,IsO k P O/\N9 Ar.std (eP P) (k:Int)=some (a1d O,0):=by
 have e56:=c0C (VP.short hv);rw [VP.to hv] at e56;obtain ⟨O,h1,h2,h3,l',e1,e2,e3,e4⟩:=c1b hK hv;have e29:N29 Ar.std (eP P) [.int .i64 (k:Int)]=some ([.iface (Int.ofNat (150+k))],0):=by
  rcases hK with rfl | rfl
  ·unfold N29;exact bt e56 (cnT rfl (bt ((a1l (s':=([.iface (Int.ofNat 151)],1)) rfl).trans (a0w rfl)) rfl))
  unfold N29;exact bt e56 (cnT rfl (bt ((a1l (s':=([.iface (Int.ofNat 153)],1)) rfl).trans (a0w rfl)) rfl))
 refine ⟨O,⟨h1,h2,h3⟩,?_⟩;unfold N9;refine bt e29 (cnT rfl (bt (v:=Int.ofNat (150+k)) rfl (bt e1 (bt (b8O l' e3) ?_))));rw [e2]
theorem Stps.loose {P:Pg} {s:AS} (h:Stps 1 P AS.init s):Stps 3 P AS.init s:=by
 induction h with
 | refl=>exact .refl _
 | tail h h' ih =>
   cases h' with
   | out t ht hk=>cases hk
   | act t i ht hi hm =>
     refine ih.tail ?_;have e : ∀ s,doA 1 P s t i=doA 3 P s t i:=fun s=>by simp [doA]
     rw [e];exact .act t i ht hi ⟨hm.1,fun j hj _=>hm.2.1 j hj (.inl (by decide)),fun h=>absurd h (by decide)⟩
theorem Can.up {P:Pg} {o:List Int} (h:Can 1 P o):Can 3 P o:=by
 obtain ⟨s,h1,h2,h3⟩:=h;exact ⟨s,h1.loose,h2,h3⟩
abbrev Pt:=Nat×Nat
def acA (P:Pg) (x:Pt):Ac:=aAt (thr P x.1) x.2
def a1I (a b:Ac):Prop:=a.1=3\/b.1=3\/a.2.1≠b.2.1\/(a.1≠2/\b.1≠2)
theorem a1I.symm {a b:Ac} (h:a1I a b):a1I b a:=by
 rcases h with h | h | h | h
 ·exact .inr (.inl h)
 ·exact .inl h
 ·exact .inr (.inr (.inl fun e=>h e.symm))
 exact .inr (.inr (.inr ⟨h.2,h.1⟩))
theorem a6b {a b:Ac} (h : ¬ a1I a b):a.1≠3/\b.1≠3/\a.2.1=b.2.1/\(a.1=2\/b.1=2):=by
 unfold a1I at h;refine ⟨fun e=>h (.inl e),fun e=>h (.inr (.inl e)),?_,?_⟩
 ·exact Classical.byContradiction fun e=>h (.inr (.inr (.inl e)))
 exact Classical.byContradiction fun e=>h (.inr (.inr (.inr ⟨fun g=>e (.inl g),fun g=>e (.inr g)⟩)))
def ex (P:Pg) (s:AS) (L:List Pt):AS:=L.foldl (fun s x=>doA 3 P s x.1 x.2) s
theorem c3C {s u:AS} (h1:s.dn=u.dn) (h2:s.rd=u.rd) (h3:s.bf=u.bf) (h4:s.ce=u.ce):s=u:=by
 cases s;cases u;simp only at h1 h2 h3 h4;subst h1 h2 h3 h4
 rfl
section
variable {P:Pg} {s:AS}
theorem c1d {k:Nat} (hk:k≠2) (t i:Nat):doA k P s t i=doA 3 P s t i:=by simp [doA,hk]
theorem b7p (x:Pt) (y:Pt):(doA 3 P s x.1 x.2).dn y.1 y.2=if y=x then true else s.dn y.1 y.2:=by
 obtain ⟨t,i⟩:=x;obtain ⟨u,j⟩:=y;simp only [doA,fup,Prod.mk.injEq];by_cases h1:u=t
 ·subst h1;by_cases h2:j=i <;> simp [fup,h2]
 simp [fup,h1]
theorem a4o (x:Pt):(doA 3 P s x.1 x.2).bf=s.bf:=by simp [doA]
theorem a6L (x:Pt) (c:Int):(doA 3 P s x.1 x.2).ce c=if (acA P x).1=2/\c=(acA P x).2.1 then (acA P x).2.2 else s.ce c:=by
 simp only [doA,acA,fup];by_cases h:(aAt (thr P x.1) x.2).1=2
 ·simp [h,fup]
 simp [h]
theorem b0I (hb : ∀ t,s.bf t=[]) (x y:Pt):(doA 3 P s x.1 x.2).rd y.1 y.2=if (acA P x).1=1/\y=x then s.ce (acA P x).2.1 else s.rd y.1 y.2:=by
 obtain ⟨t,i⟩:=x;obtain ⟨u,j⟩:=y;simp only [doA,acA,fup,Prod.mk.injEq];by_cases h:(aAt (thr P t) i).1=1
 ·by_cases h1:u=t
  ·subst h1;by_cases h2:j=i <;> simp [fup,h,sn,hb,h2]
  simp [fup,h,h1]
 simp [h]
theorem b5X (hb : ∀ t,s.bf t=[]) {x y:Pt} (hxy:x≠y) (hi:a1I (acA P x) (acA P y)):doA 3 P (doA 3 P s x.1 x.2) y.1 y.2=doA 3 P (doA 3 P s y.1 y.2) x.1 x.2:=by
 have hbx : ∀ t,(doA 3 P s x.1 x.2).bf t=[]:=fun t=>by rw [a4o];exact hb t
 have hby : ∀ t,(doA 3 P s y.1 y.2).bf t=[]:=fun t=>by rw [a4o];exact hb t
 have ne1 : ¬ ((acA P y).1=1/\(acA P x).1=2/\(acA P y).2.1=(acA P x).2.1):=by
  rintro ⟨h1,h2,h3⟩;rcases hi with h | h | h | h
  ·omega
  ·omega
  ·exact h h3.symm
  exact h.1 h2
 have ne2 : ¬ ((acA P x).1=1/\(acA P y).1=2/\(acA P x).2.1=(acA P y).2.1):=by
  rintro ⟨h1,h2,h3⟩;rcases hi with h | h | h | h
  ·omega
  ·omega
  ·exact h h3
  exact h.2 h2
 have ne3 : ¬ ((acA P x).1=2/\(acA P y).1=2/\(acA P x).2.1=(acA P y).2.1):=by
  rintro ⟨h1,h2,h3⟩;rcases hi with h | h | h | h
  ·omega
  ·omega
  ·exact h h3
  exact h.2 h2
 refine c3C ?_ ?_ ?_ ?_
 ·funext t i;have:=fun (s:AS) (x:Pt)=>b7p (P:=P) (s:=s) x (t,i);simp only at this;rw [this,this,this,this];by_cases h1:(t,i)=x <;> by_cases h2:(t,i)=y <;> simp [h1,h2]
 ·funext t i;have e1:=b0I (P:=P) hbx y (t,i);have e2:=b0I (P:=P) hby x (t,i);have e3:=b0I (P:=P) hb x (t,i);have e4:=b0I (P:=P) hb y (t,i);simp only at e1 e2 e3 e4;rw [e1,e2,e3,e4,a6L,a6L];by_cases h1:(acA P y).1=1/\(t,i)=y
  ·have h2 : ¬ ((acA P x).1=1/\(t,i)=x):=fun h=>hxy (h.2.symm.trans h1.2);have h3 : ¬ ((acA P x).1=2/\(acA P y).2.1=(acA P x).2.1):=fun h=>ne1 ⟨h1.1,h⟩;rw [if_pos h1,if_neg h2,if_neg h3,if_pos h1]
  rw [if_neg h1,if_neg h1];by_cases h2:(acA P x).1=1/\(t,i)=x
  ·have h3 : ¬ ((acA P y).1=2/\(acA P x).2.1=(acA P y).2.1):=fun h=>ne2 ⟨h2.1,h⟩;rw [if_pos h2,if_pos h2,if_neg h3]
  rw [if_neg h2,if_neg h2]
 ·rw [a4o,a4o,a4o,a4o]
 funext c;rw [a6L,a6L,a6L,a6L];by_cases h1:(acA P y).1=2/\c=(acA P y).2.1
 ·have h2 : ¬ ((acA P x).1=2/\c=(acA P x).2.1):=fun h=>ne3 ⟨h.1,h1.1,h.2.symm.trans h1.2⟩;rw [if_pos h1,if_neg h2,if_pos h1]
 rw [if_neg h1,if_neg h1]
end
theorem c1e {P:Pg} : ∀ (L:List Pt) (s:AS),(ex P s L).bf=s.bf
 | [],_=>rfl
 | x::L,s=>(c1e L (doA 3 P s x.1 x.2)).trans (a4o x)
theorem b7q {P:Pg} (s:AS) (L M:List Pt):ex P s (L++M)=ex P (ex P s L) M:=by unfold ex;rw [List.foldl_append]
theorem b4n {P:Pg} {f:Pt} {l2:List Pt} : ∀ (l1:List Pt) (s:AS),(∀ t,s.bf t=[])->(∀ y∈l1,y≠f/\a1I (acA P y) (acA P f))->ex P s (l1++f::l2)=ex P s (f::(l1++l2))
 | [],_,_,_=>rfl
 | y::l1,s,hb,h=>by
   have hb' : ∀ t,(doA 3 P s y.1 y.2).bf t=[]:=fun t=>by rw [a4o];exact hb t
   have ih:=b4n (f:=f) (l2:=l2) l1 (doA 3 P s y.1 y.2) hb' fun z hz=>h z (List.mem_cons_of_mem _ hz);obtain ⟨h1,h2⟩:=h y (List.mem_cons_self ..);show ex P (doA 3 P s y.1 y.2) (l1++f::l2)=_;rw [ih];show ex P (doA 3 P (doA 3 P s y.1 y.2) f.1 f.2) (l1++l2)=ex P (doA 3 P (doA 3 P s f.1 f.2) y.1 y.2) (l1++l2);rw [b5X hb h1 h2]
theorem b8Q {P:Pg} (pos:Pt->Nat) (before:Pt->Pt->Prop) (A:Pt->Prop)
  (H : ∀ L:List Pt,L≠[]->L.Pairwise (fun x y=>pos x<pos y)->(∀ y∈L,A y) -> ∃ f∈L,(∀ y∈L,y≠f->before f y) /\ ∀ y∈L,pos y<pos f->a1I (acA P y) (acA P f)) :
  ∀ (n:Nat) (L:List Pt),L.length=n->L.Pairwise (fun x y=>pos x<pos y)->(∀ y∈L,A y) -> ∀ s:AS,(∀ t,s.bf t=[]) -> ∃ L',L'.Perm L/\L'.Pairwise before/\ex P s L'=ex P s L:=by
 intro n
 induction n with
 | zero =>
   intro L hL _ _ s _;obtain rfl:=List.length_eq_zero_iff.1 hL;exact ⟨[],.refl _,.nil,rfl⟩
 | succ n ih =>
   intro L hL hs hA s hb;obtain ⟨f,hf,h1,h2⟩:=H L (by intro e;rw [e] at hL;cases hL) hs hA;obtain ⟨l1,l2,rfl⟩:=List.append_of_mem hf;have hs':=hs;rw [List.pairwise_append] at hs;obtain ⟨p1,p2,p3⟩:=hs;rw [List.pairwise_cons] at p2;have hlt : ∀ y∈l1,pos y<pos f:=fun y hy=>p3 y hy f (by simp);have hsub:(l1++l2).Sublist (l1++f::l2):=List.Sublist.append (List.Sublist.refl _) (List.sublist_cons_self ..);have hbf : ∀ t,(doA 3 P s f.1 f.2).bf t=[]:=fun t=>by rw [a4o];exact hb t
   obtain ⟨M,m1,m2,m3⟩:=ih (l1++l2) (by simp at hL ⊢;omega) (hs'.sublist hsub) (fun y hy=>hA y (hsub.subset hy)) _ hbf;refine ⟨f::M,(List.Perm.cons f m1).trans List.perm_middle.symm,List.pairwise_cons.2 ⟨fun y hy => ?_,m2⟩,?_⟩
   ·have hy:=m1.subset hy;refine h1 y (hsub.subset hy) fun e => ?_;subst e;rcases List.mem_append.1 hy with hy | hy
    ·exact Nat.lt_irrefl _ (hlt y hy)
    exact Nat.lt_irrefl _ (p2.1 y hy)
   rw [b4n l1 s hb fun y hy=>⟨fun e=>by subst e;exact Nat.lt_irrefl _ (hlt y hy),h2 y (List.mem_append_left _ hy) (hlt y hy)⟩];exact m3
inductive Trc (k:Nat) (P:Pg):List Pt->Prop
 | nil:Trc k P []
 | snoc {L:List Pt} {x:Pt} (h:Trc k P L) (h1:x.1<P.length) (h2:x.2<(thr P x.1).length) (h3:x∉L) (h4 : ∀ j,j<x.2->must k (acA P x) (acA P (x.1,j))->(x.1,j)∈L):Trc k P (L++[x])
theorem c1f {P:Pg} (y:Pt) : ∀ (L:List Pt) (s:AS),(ex P s L).dn y.1 y.2=true↔y∈L\/s.dn y.1 y.2=true
 | [],s=>by simp [ex]
 | x::L,s=>by
   have e:ex P s (x::L)=ex P (doA 3 P s x.1 x.2) L:=rfl;rw [e,c1f y L,b7p];by_cases h:y=x <;> simp [h]
theorem a6M {P:Pg} (y:Pt) (L:List Pt):(ex P AS.init L).dn y.1 y.2=true↔y∈L:=by
 rw [c1f];simp [AS.init]
theorem b0J {k:Nat} (hk:k≠2) {P:Pg} {u:AS}:Stps k P AS.init u ↔ ∃ L,Trc k P L/\u=ex P AS.init L:=by
 constructor
 ·intro h
  induction h with
  | refl=>exact ⟨[],.nil,rfl⟩
  | tail h h' ih =>
    obtain ⟨L,hL,rfl⟩:=ih;cases h' with
    | out t ht hk2=>exact absurd hk2 hk
    | act t i ht hi hm =>
      refine ⟨L++[(t,i)],.snoc hL ht hi ?_ fun j hj hmu => ?_,?_⟩
      ·intro hx;have:=(a6M (P:=P) (t,i) L).2 hx;have h1:(ex P AS.init L).dn t i=false:=hm.1;simp only at this;rw [h1] at this;cases this
      ·exact (a6M (P:=P) (t,j) L).1 (hm.2.1 j hj hmu)
      rw [b7q,c1d hk];rfl
 rintro ⟨L,hL,rfl⟩
 induction hL with
 | nil=>exact .refl _
 | @snoc L x hL h1 h2 h3 h4 ih =>
   refine .tail ih ?_;rw [b7q];have:ex P (ex P AS.init L) [x]=doA k P (ex P AS.init L) x.1 x.2:=by rw [c1d hk];rfl
   rw [this];refine .act _ _ h1 h2 ⟨?_,fun j hj hmu => ?_,fun hk2=>absurd hk2 hk⟩
   ·show (ex P AS.init L).dn x.1 x.2=false;rw [Bool.eq_false_iff];exact fun h=>h3 ((a6M x L).1 h)
   exact (a6M (P:=P) (x.1,j) L).2 (h4 j hj hmu)
theorem Trc.pos {k:Nat} {P:Pg} {L:List Pt} (h:Trc k P L) : ∃ pos:Pt->Nat,L.Pairwise (fun x y=>pos x<pos y)/\(∀ y∈L,pos y<L.length) /\
  ∀ x∈L,∀ j,j<x.2->must k (acA P x) (acA P (x.1,j))->(x.1,j)∈L/\pos (x.1,j)<pos x:=by
 induction h with
 | nil=>exact ⟨fun _=>0,.nil,fun y hy=>(by cases hy),fun y hy=>(by cases hy)⟩
 | @snoc L x hL h1 h2 h3 h4 ih =>
   obtain ⟨pos,p1,p2,p3⟩:=ih;have hne : ∀ y∈L,y≠x:=fun y hy e=>h3 (e▸hy);have e : ∀ y∈L,(if y=x then L.length else pos y)=pos y:=fun y hy=>if_neg (hne y hy)
   refine ⟨fun y=>if y=x then L.length else pos y,?_,?_,?_⟩
   ·rw [List.pairwise_append];refine ⟨?_,by simp,fun y hy z hz => ?_⟩
    ·refine (List.Pairwise.imp_of_mem ?_ p1);intro a b ha hb hab;show (if a=x then L.length else pos a)<(if b=x then L.length else pos b)
     rw [e a ha,e b hb];exact hab
    rw [List.mem_singleton] at hz;subst hz;show (if y=z then L.length else pos y)<(if z=z then L.length else pos z)
    rw [e y hy,if_pos rfl];exact p2 y hy
   ·intro y hy;rw [List.length_append,List.length_singleton];rcases List.mem_append.1 hy with hy | hy
    ·simp only [e y hy];have:=p2 y hy;omega
    rw [List.mem_singleton] at hy;subst hy;simp
   intro y hy j hj hmu;rcases List.mem_append.1 hy with hy | hy
   ·obtain ⟨q1,q2⟩:=p3 y hy j hj hmu;simp only [e y hy,e _ q1];exact ⟨List.mem_append_left _ q1,q2⟩
   rw [List.mem_singleton] at hy;subst hy;have q1:=h4 j hj hmu;simp only [e _ q1,if_true];exact ⟨List.mem_append_left _ q1,p2 _ q1⟩
theorem Trc.dom {k:Nat} {P:Pg} {L:List Pt} (h:Trc k P L) : ∀ x∈L,x.1<P.length/\x.2<(thr P x.1).length:=by
 induction h with
 | nil=>exact fun y hy=>(by cases hy)
 | snoc hL h1 h2 h3 h4 ih =>
   intro y hy;rcases List.mem_append.1 hy with hy | hy
   ·exact ih y hy
   rw [List.mem_singleton] at hy;subst hy;exact ⟨h1,h2⟩
def Whole (P:Pg) (L:List Pt):Prop := ∀ t i,t<P.length->i<(thr P t).length->(t,i)∈L
theorem a6N {P:Pg} {L:List Pt}:b9A P (ex P AS.init L)↔Whole P L:=by
 constructor
 ·intro h t i ht hi;exact (a6M (P:=P) (t,i) L).1 ((h t ht).1 i hi)
 intro h t ht;exact ⟨fun i hi=>(a6M (P:=P) (t,i) L).2 (h t i ht hi),by rw [c1e];rfl⟩
theorem b4o {k:Nat} (hk:k≠2) {P:Pg} {o:List Int}:Can k P o ↔ ∃ L,Trc k P L/\Whole P L/\b6Y P (ex P AS.init L)=o:=by
 constructor
 ·rintro ⟨s,h1,h2,h3⟩;obtain ⟨L,hL,rfl⟩:=(b0J hk).1 h1;exact ⟨L,hL,a6N.1 h2,h3⟩
 rintro ⟨L,h1,h2,h3⟩;exact ⟨_,(b0J hk).2 ⟨L,h1,rfl⟩,a6N.2 h2,h3⟩
theorem b2i {P:Pg} {L:List Pt} (hw:Whole P L) (hd : ∀ x∈L,x.1<P.length/\x.2<(thr P x.1).length) (hp:L.Pairwise (fun x y=>x.1=y.1->x.2<y.2)):Trc 1 P L:=by
 have key : ∀ n,n<=L.length->Trc 1 P (L.take n):=by
  intro n
  induction n with
  | zero=>intro _;exact .nil
  | succ n ih =>
    intro hn;have hx:=zp6 (l:=L) (n:=n) (by omega);have hp':=List.pairwise_iff_getElem.1 hp;rw [List.take_succ_eq_append_getElem (by omega)];refine .snoc (ih (by omega)) (hd _ hx).1 (hd _ hx).2 ?_ fun j hj _ => ?_
    ·intro h;obtain ⟨m,hm,e⟩:=List.mem_iff_getElem.1 h;rw [List.getElem_take] at e;rw [List.length_take] at hm;have:=hp' m n (by omega) (by omega) (by omega) (by rw [e]);rw [e] at this;omega
    have hin:=hw L[n].1 j (hd _ hx).1 (Nat.lt_trans hj (hd _ hx).2);obtain ⟨m,hm,e⟩:=List.mem_iff_getElem.1 hin;rcases Nat.lt_trichotomy m n with g | g | g
    ·rw [<-e];exact List.mem_iff_getElem.2 ⟨m,by rw [List.length_take];omega,List.getElem_take⟩
    ·subst g;rw [e] at hj;simp at hj
    have:=hp' n m (by omega) (by omega) g (by rw [e]);rw [e] at this;simp at this;omega
 have:=key L.length (Nat.le_refl _)
 rwa [List.take_length] at this
theorem least {α:Type} (f:α->Nat) (p:α->Prop) (h : ∃ a,p a) : ∃ a,p a /\ ∀ b,p b->f a<=f b:=by
 have key : ∀ (n:Nat) (a:α),f a<n->p a -> ∃ a,p a /\ ∀ b,p b->f a<=f b:=by
  intro n
  induction n with
  | zero=>intro a h;omega
  | succ n ih =>
    intro a ha hp;by_cases hb : ∃ b,p b/\f b<f a
    ·obtain ⟨b,h1,h2⟩:=hb;exact ih b (by omega) h1
    exact ⟨a,hp,fun b hb'=>Nat.le_of_not_lt fun hlt=>hb ⟨b,hb',hlt⟩⟩
 obtain ⟨a,ha⟩:=h;exact key _ a (Nat.lt_succ_self _) ha
theorem b5Y {P:Pg} {L:List Pt} {o:List Int} (hL:Trc 3 P L) (hw:Whole P L) (ho:b6Y P (ex P AS.init L)=o) {L':List Pt} (hp:L'.Perm L) (hs:L'.Pairwise (fun x y=>x.1=y.1->x.2<y.2)) (he:ex P AS.init L'=ex P AS.init L):Can 1 P o :=
 (b4o (by decide)).2 ⟨L',b2i (fun t i ht hi=>hp.mem_iff.2 (hw t i ht hi)) (fun x hx=>hL.dom x (hp.mem_iff.1 hx)) hs,fun t i ht hi=>hp.mem_iff.2 (hw t i ht hi),by rw [he];exact ho⟩
def cfl (P:Pg) (x y:Pt):Prop:=x.1≠y.1 /\ ¬ a1I (acA P x) (acA P y)
def inP (P:Pg) (x:Pt):Prop:=x.1<P.length/\x.2<(thr P x.1).length
def stn (P:Pg) (t a b:Nat):Prop:=inP P (t,a)/\inP P (t,b)/\(acA P (t,a)).1≠3/\(acA P (t,b)).1≠3/\(a=b\/(a<b/\(acA P (t,a)).2.1≠(acA P (t,b)).2.1))
def a8N (P:Pg) (t a b:Nat):Prop := ∃ c,a<c/\c<b/\(acA P (t,c)).1=3
structure NC (P:Pg):Prop where
 n2 : ∀ t a b u c d,stn P t a b->stn P u c d->cfl P (t,b) (u,c)->cfl P (u,d) (t,a)->(a<b->a8N P t a b)/\(c<d->a8N P u c d)
 n3 : ∀ t a b u c d v e f,t≠v->stn P t a b->stn P u c d->stn P v e f->cfl P (t,b) (u,c)->cfl P (u,d) (v,e)->cfl P (v,f) (t,a)->(a<b->a8N P t a b)/\(c<d->a8N P u c d)/\(e<f->a8N P v e f)
theorem c1g {P:Pg} (h3:P.length<=3) (hN:NC P) {o:List Int} (h:Can 3 P o):Can 1 P o:=by
 obtain ⟨L0,hL,hw,ho⟩:=(b4o (by decide)).1 h;obtain ⟨pos,p1,_,p3⟩:=hL.pos;have hdom:=hL.dom;have lo : ∀ t i j,(t,i)∈L0->j<i->must 3 (acA P (t,i)) (acA P (t,j))->pos (t,j)<pos (t,i):=fun t i j hi hj hm=>(p3 (t,i) hi j hj hm).2
 suffices H : ∀ L:List Pt,L≠[]->L.Pairwise (fun x y=>pos x<pos y)->(∀ y∈L,y∈L0) -> ∃ f∈L,(∀ y∈L,y≠f->f.1=y.1->f.2<y.2) /\ ∀ y∈L,pos y<pos f->a1I (acA P y) (acA P f) by
  obtain ⟨L',q1,q2,q3⟩:=b8Q (P:=P) pos (fun x y=>x.1=y.1->x.2<y.2) (fun x=>x∈L0) H L0.length L0 rfl p1 (fun y hy=>hy) AS.init (fun _=>rfl);exact b5Y hL hw ho q1 q2 q3
 intro L hne hsort hsub;refine Classical.byContradiction fun hno => ?_

 have blocked : ∀ t,(∃ i,(t,i)∈L) -> ∃ f u g,(t,f)∈L/\(∀ j,(t,j)∈L->f<=j)/\(u,g)∈L/\pos (u,g)<pos (t,f) /\ ¬ a1I (acA P (u,g)) (acA P (t,f))/\u≠t /\ ∀ y∈L,pos y<pos (t,f) -> ¬ a1I (acA P y) (acA P (t,f))->pos (u,g)<=pos y:=by
  intro t ht;obtain ⟨f,hf,hmin⟩:=least (fun i=>i) (fun i=>(t,i)∈L) ht;have hb : ∃ y,y∈L/\pos y<pos (t,f) /\ ¬ a1I (acA P y) (acA P (t,f)):=by
   refine Classical.byContradiction fun hn=>hno ⟨(t,f),hf,fun y hy hyf he => ?_,fun y hy hlt => ?_⟩
   ·obtain ⟨u,j⟩:=y;simp only at he;subst he;have:=hmin j hy;rcases Nat.lt_or_eq_of_le this with g | g
    ·exact g
    subst g;exact absurd rfl hyf
   exact Classical.byContradiction fun hi=>hn ⟨y,hy,hlt,hi⟩
  obtain ⟨⟨u,g⟩,⟨h1,h2,h3⟩,h4⟩:=least pos (fun y=>y∈L/\pos y<pos (t,f) /\ ¬ a1I (acA P y) (acA P (t,f))) hb;refine ⟨f,u,g,hf,hmin,h1,h2,h3,fun e => ?_,fun y hy g1 g2=>h4 y ⟨hy,g1,g2⟩⟩;subst e;have hle:=hmin g h1;have hlt:f<g:=by
   rcases Nat.lt_or_eq_of_le hle with q | q
   ·exact q
   subst q;omega
  obtain ⟨n1,n2,n3,_⟩:=a6b h3;have:=lo u g f (hsub _ h1) hlt (.inr (.inr (.inr n3)));omega

 have station : ∀ t f u g,(t,f)∈L->(u,g)∈L->pos (u,g)<pos (t,f) -> ¬ a1I (acA P (u,g)) (acA P (t,f))->(∀ y∈L,pos y<pos (t,f) -> ¬ a1I (acA P y) (acA P (t,f))->pos (u,g)<=pos y) ->
   ∀ f' u' g',(u,f')∈L->(∀ j,(u,j)∈L->f'<=j)->(u',g')∈L->pos (u',g')<pos (u,f') -> ¬ a1I (acA P (u',g')) (acA P (u,f'))->stn P u f' g:=by
  intro t f u g h1 h2 h3 h4 h5 f' u' g' k1 k2 k3 k4 k5;obtain ⟨n1,n2,n3,n4⟩:=a6b h4;obtain ⟨m1,m2,m3,m4⟩:=a6b k5;refine ⟨hdom _ (hsub _ k1),hdom _ (hsub _ h2),m2,n1,?_⟩;rcases Nat.lt_or_eq_of_le (k2 g h2) with q | q
  ·refine .inr ⟨q,fun e => ?_⟩;have l1:=lo u g f' (hsub _ h2) q (.inr (.inr (.inr e.symm)));by_cases hi:a1I (acA P (u,f')) (acA P (t,f))
   ·have ns:(acA P (u,f')).1≠2/\(acA P (t,f)).1≠2:=by
     rcases hi with hi | hi | hi | hi
     ·exact absurd hi m2
     ·exact absurd hi n2
     ·exact absurd (e.trans n3) hi
     exact hi
    have gs:(acA P (u',g')).1=2:=m4.resolve_right ns.1;have hni : ¬ a1I (acA P (u',g')) (acA P (t,f)):=by
     rintro (hi | hi | hi | hi)
     ·omega
     ·exact n2 hi
     ·exact hi (m3.trans (e.trans n3))
     exact hi.1 gs
    have:=h5 _ k3 (by omega) hni;omega
   have:=h5 _ k1 (by omega) hi;omega
  exact .inl q
 have held : ∀ u a b,(u,a)∈L->(u,b)∈L->stn P u a b->(a<b->a8N P u a b)->pos (u,a)<=pos (u,b):=by
  intro u a b ha hb hs hh;rcases hs.2.2.2.2 with q | ⟨q,_⟩
  ·subst q;exact Nat.le_refl _
  obtain ⟨c,c1,c2,c3⟩:=hh q;have hin:(u,c)∈L0:=hw u c hs.1.1 (Nat.lt_trans c2 hs.2.1.2);have l1:=lo u c a hin c1 (.inr (.inl c3));have l2:=lo u b c (hsub _ hb) c2 (.inr (.inr (.inl c3)));omega

 have two : ∀ t f u g f' g',(t,f)∈L->(∀ j,(t,j)∈L->f<=j)->(u,g)∈L->pos (u,g)<pos (t,f) -> ¬ a1I (acA P (u,g)) (acA P (t,f))->u≠t->(∀ y∈L,pos y<pos (t,f) -> ¬ a1I (acA P y) (acA P (t,f))->pos (u,g)<=pos y) ->
   (u,f')∈L->(∀ j,(u,j)∈L->f'<=j)->(t,g')∈L->pos (t,g')<pos (u,f') -> ¬ a1I (acA P (t,g')) (acA P (u,f'))->(∀ y∈L,pos y<pos (u,f') -> ¬ a1I (acA P y) (acA P (u,f'))->pos (t,g')<=pos y)->False:=by
  intro t f u g f' g' a1 a2 a3 a4 a5 a6 a7 b1 b2 b3 b4 b5 b7;have s1:=station t f u g a1 a3 a4 a5 a7 f' t g' b1 b2 b3 b4 b5;have s2:=station u f' t g' b1 b3 b4 b5 b7 f u g a1 a2 a3 a4 a5;obtain ⟨e1,e2⟩:=hN.n2 u f' g t f g' s1 s2 ⟨a6,a5⟩ ⟨fun e=>a6 e.symm,b5⟩;have:=held u f' g b1 a3 s1 e1;have:=held t f g' a1 b3 s2 e2;omega
 have three : ∀ t f u g f' v g' f'' g'',(t,f)∈L->(∀ j,(t,j)∈L->f<=j)->(u,g)∈L->pos (u,g)<pos (t,f) -> ¬ a1I (acA P (u,g)) (acA P (t,f))->u≠t->(∀ y∈L,pos y<pos (t,f) -> ¬ a1I (acA P y) (acA P (t,f))->pos (u,g)<=pos y) ->
   (u,f')∈L->(∀ j,(u,j)∈L->f'<=j)->(v,g')∈L->pos (v,g')<pos (u,f') -> ¬ a1I (acA P (v,g')) (acA P (u,f'))->v≠u->(∀ y∈L,pos y<pos (u,f') -> ¬ a1I (acA P y) (acA P (u,f'))->pos (v,g')<=pos y) ->
   (v,f'')∈L->(∀ j,(v,j)∈L->f''<=j)->(t,g'')∈L->pos (t,g'')<pos (v,f'') -> ¬ a1I (acA P (t,g'')) (acA P (v,f''))->t≠v->(∀ y∈L,pos y<pos (v,f'') -> ¬ a1I (acA P y) (acA P (v,f''))->pos (t,g'')<=pos y)->False:=by
  intro t f u g f' v g' f'' g'' a1 a2 a3 a4 a5 a6 a7 b1 b2 b3 b4 b5 b6 b7 c1 c2 c3 c4 c5 c6 c7;have s1:=station t f u g a1 a3 a4 a5 a7 f' v g' b1 b2 b3 b4 b5;have s2:=station u f' v g' b1 b3 b4 b5 b7 f'' t g'' c1 c2 c3 c4 c5;have s3:=station v f'' t g'' c1 c3 c4 c5 c7 f u g a1 a2 a3 a4 a5;obtain ⟨e1,e2,e3⟩:=hN.n3 u f' g t f g'' v f'' g' (fun e=>b6 e.symm) s1 s3 s2 ⟨a6,a5⟩ ⟨c6,c5⟩ ⟨b6,b5⟩;have:=held u f' g b1 a3 s1 e1;have:=held t f g'' a1 c3 s3 e2;have:=held v f'' g' c1 b3 s2 e3;omega
 obtain ⟨⟨t,i⟩,hx⟩:=List.exists_mem_of_ne_nil L hne;obtain ⟨f,u,g,a1,a2,a3,a4,a5,a6,a7⟩:=blocked t ⟨i,hx⟩;obtain ⟨f',v,g',b1,b2,b3,b4,b5,b6,b7⟩:=blocked u ⟨g,a3⟩;by_cases hvt:v=t
 ·subst hvt;exact two v f u g f' g' a1 a2 a3 a4 a5 a6 a7 b1 b2 b3 b4 b5 b7
 obtain ⟨f'',w,g'',c1,c2,c3,c4,c5,c6,c7⟩:=blocked v ⟨g',b3⟩;have lt:t<P.length:=(hdom _ (hsub _ a1)).1;have lu:u<P.length:=(hdom _ (hsub _ b1)).1;have lv:v<P.length:=(hdom _ (hsub _ c1)).1;have lw:w<P.length:=(hdom _ (hsub _ c3)).1;rcases (show w=t\/w=u by omega) with hwt | hwu
 ·subst hwt;exact three w f u g f' v g' f'' g'' a1 a2 a3 a4 a5 a6 a7 b1 b2 b3 b4 b5 b6 b7 c1 c2 c3 c4 c5 (fun e=>c6 e) c7
 subst hwu;exact two w f' v g' f'' g'' b1 b2 b3 b4 b5 b6 b7 c1 c2 c3 c4 c5 c7
def fenced (P:Pg):Prop := ∀ t i,i+1<(thr P t).length->(acA P (t,i)).1=3\/(acA P (t,i+1)).1=3
def fnc:Ac:=(3,0,0)
theorem a4I (a:Ac) (l:List Ac) (f:Nat->Int):reads (a::l) f=(if a.1=1 then [f 0] else [])++reads l (fun i=>f (i+1)):=by
 unfold reads;rw [List.length_cons,List.range_succ_eq_map,List.filterMap_cons,List.filterMap_map];have e : ∀ i,aAt (a::l) (i+1)=aAt l i:=fun i=>rfl;have e0:aAt (a::l) 0=a:=rfl;have e2:((fun i=>if (aAt (a::l) i).1=1 then some (f i) else none)∘Nat.succ)=fun i=>if (aAt l i).1=1 then some (f (i+1)) else none:=by funext i;rfl
 rw [e2,e0];by_cases h:a.1=1 <;> simp [h]
theorem a6c : ∀ (l r:List Ac) (f:Nat->Int),reads (l++fnc::r) f=reads (l++r) (fun i=>f (if i<l.length then i else i+1))
 | [],r,f=>by
   rw [List.nil_append,List.nil_append,a4I]
   rfl
 | a::l,r,f=>by
   rw [List.cons_append,List.cons_append,a4I,a4I,a6c l r];congr 1;congr 1;funext i;by_cases h:i<l.length
   ·rw [if_pos h,if_pos (by simp;omega)]
   rw [if_neg h,if_neg (by simp;omega)]
structure More1 (P P':Pg) (t0 q:Nat):Prop where
 len:P'.length=P.length
 lt:t0<P.length
 oth : ∀ t,t≠t0->thr P' t=thr P t
 own : ∃ l r,l.length=q/\thr P t0=l++r/\thr P' t0=l++fnc::r
def shf (t0 q t i:Nat):Nat:=if t=t0/\q<=i then i+1 else i
theorem b7r {t0 q t i j:Nat} (h:j<i):shf t0 q t j<shf t0 q t i:=by unfold shf;split <;> split <;> omega
theorem b4p {t0 q t i j:Nat} (h:shf t0 q t i=shf t0 q t j):i=j:=by unfold shf at h;split at h <;> split at h <;> omega
theorem c3D {t0 q i:Nat}:shf t0 q t0 i≠q:=by unfold shf;split <;> omega
theorem b4q {t0 q t i:Nat} (h : ¬ (t=t0/\i=q)) : ∃ j,i=shf t0 q t j:=by
 by_cases ht:t=t0/\q<i
 ·exact ⟨i-1,by unfold shf;rw [if_pos (by omega)];omega⟩
 exact ⟨i,by unfold shf;rw [if_neg (by omega)]⟩
section
variable {P P':Pg} {t0 q:Nat} (hM:More1 P P' t0 q)
include hM
theorem More1.at (t i:Nat):aAt (thr P' t) (shf t0 q t i)=aAt (thr P t) i:=by
 by_cases ht:t=t0
 ·subst ht;obtain ⟨l,r,h1,h2,h3⟩:=hM.own;rw [h2,h3];unfold aAt shf;rw [List.getD_eq_getElem?_getD,List.getD_eq_getElem?_getD];by_cases hi:q<=i
  ·rw [if_pos ⟨rfl,hi⟩,zp8 (by omega),zp8 (by omega),show i+1-l.length=(i-l.length)+1 by omega,List.getElem?_cons_succ]
  rw [if_neg (by omega),zp7 (by omega),zp7 (by omega)]
 unfold shf;rw [if_neg (by omega),hM.oth t ht]
theorem More1.atq:aAt (thr P' t0) q=fnc:=by
 obtain ⟨l,r,h1,h2,h3⟩:=hM.own;rw [h3];unfold aAt;rw [List.getD_eq_getElem?_getD,zp8 (by omega),h1,Nat.sub_self];rfl
theorem More1.lent (t:Nat):(thr P' t).length=if t=t0 then (thr P t).length+1 else (thr P t).length:=by
 by_cases ht:t=t0
 ·subst ht;obtain ⟨l,r,h1,h2,h3⟩:=hM.own;rw [if_pos rfl,h2,h3];simp;omega
 rw [if_neg ht,hM.oth t ht]
theorem More1.qle:q<=(thr P t0).length:=by
 obtain ⟨l,r,h1,h2,h3⟩:=hM.own;rw [h2];simp;omega
theorem More1.shf_len {t i:Nat}:shf t0 q t i<(thr P' t).length↔i<(thr P t).length:=by
 rw [hM.lent];have:=hM.qle;by_cases ht:t=t0
 ·subst ht;rw [if_pos rfl];unfold shf;split <;> omega
 rw [if_neg ht];unfold shf;rw [if_neg (by omega)]
end
structure RF (t0 q:Nat) (s' s:AS):Prop where
 dn : ∀ t i,s.dn t i=s'.dn t (shf t0 q t i)
 rd : ∀ t i,s.rd t i=s'.rd t (shf t0 q t i)
 bf:s.bf=s'.bf
 ce:s.ce=s'.ce
theorem RF.init (t0 q:Nat):RF t0 q AS.init AS.init:=⟨fun _ _=>rfl,fun _ _=>rfl,rfl,rfl⟩
section
variable {P P':Pg} {t0 q:Nat} (hM:More1 P P' t0 q) {s' s:AS} (hR:RF t0 q s' s)
include hM hR
theorem RF.out:b6Y P' s'=b6Y P s:=by
 unfold b6Y;rw [hM.len,hR.ce];congr 1;refine a8E fun t _ => ?_;by_cases ht:t=t0
 ·subst ht;obtain ⟨l,r,h1,h2,h3⟩:=hM.own;rw [h2,h3,a6c];congr 1;funext i;rw [hR.rd];unfold shf;rw [h1];by_cases hi:i<q
  ·rw [if_pos hi,if_neg (by omega)]
  rw [if_neg hi,if_pos (by omega)]
 rw [hM.oth t ht];congr 1;funext i;rw [hR.rd];unfold shf;rw [if_neg (by omega)]
theorem RF.fence (k:Nat):RF t0 q (doA k P' s' t0 q) s:=by
 have e:=hM.atq;refine ⟨fun t i => ?_,fun t i => ?_,?_,?_⟩
 ·rw [hR.dn];simp only [doA,fup];by_cases ht:t=t0
  ·subst ht;have:shf t q t i≠q:=c3D;simp [fup,this]
  simp [fup,ht]
 ·rw [hR.rd];simp only [doA,e,fnc]
  rfl
 ·rw [hR.bf];simp only [doA,e,fnc];rfl
 rw [hR.ce];simp only [doA,e,fnc];rfl
theorem RF.act (k:Nat) (t i:Nat):RF t0 q (doA k P' s' t (shf t0 q t i)) (doA k P s t i):=by
 have e:=hM.at t i;have hsn : ∀ c,sn s' t c=sn s t c:=fun c=>by unfold sn;rw [hR.bf,hR.ce]
 refine ⟨fun u j => ?_,fun u j => ?_,?_,?_⟩
 ·simp only [doA,fup];by_cases hu:u=t
  ·subst hu;by_cases hj:j=i
   ·subst hj;simp
   have:shf t0 q u j≠shf t0 q u i:=fun h=>hj (b4p h);simp [fup,hj,this,hR.dn]
  simp [fup,hu,hR.dn]
 ·simp only [doA,e,fup];by_cases h1:(aAt (thr P t) i).1=1
  ·rw [if_pos h1,if_pos h1];by_cases hu:u=t
   ·subst hu;by_cases hj:j=i
    ·subst hj;simp [hsn]
    have:shf t0 q u j≠shf t0 q u i:=fun h=>hj (b4p h);simp [fup,hj,this,hR.rd]
   simp [fup,hu,hR.rd]
  rw [if_neg h1,if_neg h1];exact hR.rd u j
 ·simp only [doA,e,hR.bf]
 simp only [doA,e,hR.ce]
theorem RF.may {k t i:Nat} (h:b2l k (thr P' t) (s'.t t) (shf t0 q t i)):b2l k (thr P t) (s.t t) i:=by
 obtain ⟨h1,h2,h3⟩:=h;refine ⟨(hR.dn t i).trans h1,fun j hj hm=>(hR.dn t j).trans (h2 _ (b7r hj) ?_),fun hk hf => ?_⟩
 ·rw [hM.at,hM.at];exact hm
 have:=h3 hk (by rw [hM.at];exact hf);show s.bf t=[];rw [hR.bf];exact this
end
theorem b5Z {P P':Pg} {t0 q:Nat} (hM:More1 P P' t0 q) {o:List Int} (h:Can 1 P' o):Can 1 P o:=by
 obtain ⟨s',h1,h2,h3⟩:=h;have key : ∃ s,Stps 1 P AS.init s/\RF t0 q s' s:=by
  clear h2 h3
  induction h1 with
  | refl=>exact ⟨_,.refl _,RF.init t0 q⟩
  | tail _ h ih =>
    obtain ⟨s,i1,i2⟩:=ih;cases h with
    | act t i ht hi hm =>
      by_cases hq:t=t0/\i=q
      ·obtain ⟨rfl,rfl⟩:=hq;exact ⟨s,i1,i2.fence hM 1⟩
      obtain ⟨j,rfl⟩:=b4q hq;exact ⟨_,.tail i1 (.act t j (hM.len▸ht) (hM.shf_len.1 hi) (i2.may hM hm)),i2.act hM 1 t j⟩
    | out t ht hk hb=>cases hk
 obtain ⟨s,i1,i2⟩:=key;refine ⟨s,i1,fun t ht=>⟨fun i hi => ?_,?_⟩,by rw [<-h3];exact (i2.out hM).symm⟩
 ·rw [i2.dn];exact (h2 t (hM.len▸ht)).1 _ (hM.shf_len.2 hi)
 rw [i2.bf];exact (h2 t (hM.len▸ht)).2
theorem a9G {P P':Pg} {t0 q:Nat} (hM:More1 P P' t0 q) {o:List Int} (h:Can 1 P o):Can 1 P' o:=by
 obtain ⟨s,h1,h2,h3⟩:=h;have hqlen:q<(thr P' t0).length:=by have:=hM.qle;rw [hM.lent,if_pos rfl];omega

 have fence : ∀ {s':AS},Stps 1 P' AS.init s'->RF t0 q s' s->True:=fun _ _=>trivial;have doF : ∀ {s' s:AS},Stps 1 P' AS.init s'->RF t0 q s' s->(∀ j,j<q->s.dn t0 j=true) -> ∃ s'',Stps 1 P' AS.init s''/\RF t0 q s'' s/\s''.dn t0 q=true:=by
  intro s' s g1 g2 g3;cases hd:s'.dn t0 q with
  | true=>exact ⟨s',g1,g2,hd⟩
  | false =>
    refine ⟨_,.tail g1 (.act t0 q (hM.len▸hM.lt) hqlen ⟨hd,fun j hj _ => ?_,fun hk=>by cases hk⟩),g2.fence hM 1,by simp [doA]⟩;have:=g2.dn t0 j;unfold shf at this;rw [if_neg (by omega),g3 j hj] at this;exact this.symm
 have key : ∃ s',Stps 1 P' AS.init s'/\RF t0 q s' s:=by
  clear h2 h3 fence
  induction h1 with
  | refl=>exact ⟨_,.refl _,RF.init t0 q⟩
  | @tail u v _ h ih =>
    obtain ⟨s',i1,i2⟩:=ih;cases h with
    | out t ht hk hb=>cases hk
    | act t i ht hi hm =>
      have hall : ∀ j,j<i->u.dn t j=true:=fun j hj=>hm.2.1 j hj (.inl (by decide));by_cases hq:t=t0/\q<=i
      ·obtain ⟨rfl,hqi⟩:=hq;obtain ⟨s'',j1,j2,j3⟩:=doF i1 i2 (fun j hj=>hall j (by omega));refine ⟨_,.tail j1 (.act t (shf t q t i) (hM.len▸ht) (hM.shf_len.2 hi) ⟨(j2.dn t i).symm.trans hm.1,fun j hj _ => ?_,fun hk=>by cases hk⟩),j2.act hM 1 t i⟩;by_cases hjq:j=q
       ·subst hjq;exact j3
       obtain ⟨j',rfl⟩:=b4q (t0:=t) (q:=q) (t:=t) (i:=j) (by omega);have hlt:j'<i:=by
        refine Classical.byContradiction fun hn => ?_;rcases Nat.lt_or_eq_of_le (Nat.le_of_not_lt hn) with g | g
        ·have:=b7r (t0:=t) (q:=q) (t:=t) g;omega
        subst g;omega
       exact (j2.dn t j').symm.trans (hall j' hlt)
      refine ⟨_,.tail i1 (.act t (shf t0 q t i) (hM.len▸ht) (hM.shf_len.2 hi) ⟨(i2.dn t i).symm.trans hm.1,fun j hj _ => ?_,fun hk=>by cases hk⟩),i2.act hM 1 t i⟩;have e:shf t0 q t i=i:=by unfold shf;rw [if_neg hq]
      rw [e] at hj;have e2:shf t0 q t j=j:=by unfold shf;rw [if_neg (by omega)]
      have:=i2.dn t j;rw [e2] at this;exact this.symm.trans (hall j hj)
 obtain ⟨s',i1,i2⟩:=key;obtain ⟨s'',j1,j2,j3⟩:=doF i1 i2 (fun j hj=>(h2 t0 hM.lt).1 j (by have:=hM.qle;omega));refine ⟨s'',j1,fun t ht=>⟨fun i hi => ?_,?_⟩,by rw [<-h3];exact j2.out hM⟩
 ·by_cases hq:t=t0/\i=q
  ·rw [hq.1,hq.2];exact j3
  obtain ⟨j,rfl⟩:=b4q hq;rw [<-j2.dn];exact (h2 t (hM.len▸ht)).1 j (hM.shf_len.1 hi)
 rw [<-j2.bf];exact (h2 t (hM.len▸ht)).2
theorem b6a {P P':Pg} {t0 q:Nat} (hM:More1 P P' t0 q) {o:List Int}:Can 1 P' o↔Can 1 P o:=⟨b5Z hM,a9G hM⟩
theorem a9H {P:Pg} {t0:Nat} (h:t0<P.length) (l:List Ac) (t:Nat):thr (P.set t0 l) t=if t=t0 then l else thr P t:=by
 unfold thr;rw [List.getD_eq_getElem?_getD,List.getD_eq_getElem?_getD,List.getElem?_set];by_cases ht:t0=t
 ·subst ht;simp [h]
 rw [if_neg ht,if_neg (fun e=>ht e.symm)]
theorem b6b {P:Pg} {t0:Nat} (h:t0<P.length) {l r:List Ac} (e:thr P t0=l++r):More1 P (P.set t0 (l++fnc::r)) t0 l.length where
 len:=by simp
 lt:=h
 oth t ht:=by rw [a9H h,if_neg ht]
 own:=⟨l,r,rfl,e,by rw [a9H h,if_pos rfl]⟩
theorem b6c {P:Pg} {t0:Nat} (l m:List Ac):(P.set t0 l).set t0 m=P.set t0 m:=List.set_set ..
theorem a3g {P:Pg} {t0:Nat} (h:t0<P.length) {o:List Int} : ∀ (r l:List Ac),(∀ a∈r,a6m a=true)->(Can 1 (P.set t0 (l++r)) o↔Can 1 (P.set t0 (l++r.filter wk)) o)
 | [],l,_=>Iff.rfl
 | a::r,l,hv=>by
   have ha:=hv a (List.mem_cons_self ..);have hr:=fun b hb=>hv b (List.mem_cons_of_mem a hb);by_cases hw:wk a=true
   ·rw [List.filter_cons_of_pos hw];have ih:=a3g h (o:=o) r (l++[a]) hr;rw [List.append_assoc,List.append_assoc] at ih;exact ih
   rw [List.filter_cons_of_neg hw];have hf:a=fnc:=by
    rcases a8G ha with h1 | h1 | h1
    ·exact absurd (by unfold wk;simp;omega) hw
    ·exact absurd (by unfold wk;simp;omega) hw
    exact h1
   subst hf;have ih:=a3g h (o:=o) r l hr;rw [<-ih];have hm:=b6b (P:=P.set t0 (l++r)) (t0:=t0) (by simpa using h) (l:=l) (r:=r) (by rw [a9H h,if_pos rfl]);rw [b6c] at hm;exact b6a hm
theorem set_mid {α:Type} : ∀ (A:List α) (x y:α) (B:List α),(A++x::B).set A.length y=A++y::B
 | [],_,_,_=>rfl
 | a::A,x,y,B=>congrArg (a :: ·) (set_mid A x y B)
def nfP (P:Pg):Pg:=P.map fun l=>l.filter wk
theorem b7s {P:Pg} (hv : ∀ l∈P,∀ a∈l,a6m a=true) {o:List Int}:Can 1 P o↔Can 1 (nfP P) o:=by
 have key : ∀ n,n<=P.length->(Can 1 P o↔Can 1 ((P.take n).map (fun l=>l.filter wk)++P.drop n) o):=by
  intro n
  induction n with
  | zero=>intro _;simp
  | succ n ih =>
    intro hn;rw [ih (by omega)];have hlt:n<((P.take n).map (fun l=>l.filter wk)++P.drop n).length:=by simp;omega
    have hg:=zp1 (l:=P) (i:=n) (by omega);have hd:P.drop n=P[n]::P.drop (n+1):=List.drop_eq_getElem_cons (by omega);have hl:((P.take n).map (fun l=>l.filter wk)).length=n:=by simp;omega
    have e1:((P.take n).map (fun l=>l.filter wk)++P.drop n)=((P.take n).map (fun l=>l.filter wk)++P.drop n).set n ([]++P[n]):=by
     rw [hd];have:=set_mid ((P.take n).map (fun l=>l.filter wk)) P[n] ([]++P[n]) (P.drop (n+1));rw [hl] at this;rw [this];rfl
    have e2:((P.take (n+1)).map (fun l=>l.filter wk)++P.drop (n+1))=((P.take n).map (fun l=>l.filter wk)++P.drop n).set n ([]++P[n].filter wk):=by
     rw [hd];have:=set_mid ((P.take n).map (fun l=>l.filter wk)) P[n] ([]++P[n].filter wk) (P.drop (n+1));rw [hl] at this;rw [this,List.take_succ_eq_append_getElem (by omega),List.map_append];simp
    rw [e2]
    conv=>lhs;rw [e1]
    exact a3g hlt P[n] [] (hv _ (zp6 _))
 have:=key P.length (Nat.le_refl _);rw [List.take_length,List.drop_length,List.append_nil] at this;exact this
theorem b8R {P:Pg} (hv:b3O P=true) : ∀ l∈P,∀ a∈l,a6m a=true:=by
 unfold b3O at hv;rw [zp4,zp4] at hv;have h1:=hv.1.1;rw [List.all_eq_true] at h1;intro l hl a ha;have h:=h1 l hl;unfold b2m at h;rw [zp4,zp4] at h;have h2:=h.1.2;rw [List.all_eq_true] at h2;exact h2 a ha
end Go.Am
